/- Part 4 of the proof: lemmas. -/
import Derived.Test.YthejoeiecenjkaaGreatL3
import Derived.Test.YthejoeiecenjkaaGreatProg
import Derived.KernelRfl
import Derived.Lib.Bytealg
import Derived.Sort.Walk0
import Derived.Shelf.SlSortCmp.Insertion
import Derived.Test.YthejoeiecenjkaaGreatRows
import Derived.WalkKit
import Derived.ProofKit
import Derived.OpenShut
import Derived.JoinedCond
import Derived.Carry
set_option maxRecDepth 100000
set_option maxHeartbeats 4000000
set_option linter.unusedVariables false
set_option linter.unusedSimpArgs false
set_option linter.unusedSectionVars false
set_option linter.defProp false
namespace Go.Proofs.YthejoeiecenjkaaGreat.Avm
open Go.Proofs
def qz4 : List SOp := [⟨some 2,.box 127 (.tmp 0),none⟩,⟨some 3,.box 127 (.tmp 1),none⟩,⟨some 4,.assign (.const (.int .i64 0)),none⟩]
instance : Live qz4 := ⟨[0,1]⟩
def qz3 : List SOp := [⟨some 5,.fieldAddr 127 (.tmp 2) 0,none⟩,⟨some 6,.load 3 (.tmp 5),none⟩,⟨some 7,.fieldAddr 127 (.tmp 3) 0,none⟩,⟨some 8,.load 3 (.tmp 7),none⟩,⟨some 9,.call ⟨.value (.func 149),#[.tmp 6,.tmp 8],#[3,3]⟩,none⟩,⟨some 10,.fieldAddr 127 (.tmp 2) 1,none⟩,⟨some 11,.load 3 (.tmp 10),none⟩,⟨some 12,.fieldAddr 127 (.tmp 3) 1,none⟩,⟨some 13,.load 3 (.tmp 12),none⟩,⟨some 14,.call ⟨.value (.func 149),#[.tmp 11,.tmp 13],#[3,3]⟩,none⟩,⟨some 15,.fieldAddr 127 (.tmp 2) 2,none⟩,⟨some 16,.load 3 (.tmp 15),none⟩,⟨some 17,.fieldAddr 127 (.tmp 3) 2,none⟩,⟨some 18,.load 3 (.tmp 17),none⟩,⟨some 19,.call ⟨.value (.func 149),#[.tmp 16,.tmp 18],#[3,3]⟩,none⟩,⟨some 20,.buildSlice 23 3 #[(0,.tmp 9),(1,.tmp 14),(2,.tmp 19)],none⟩,⟨some 21,.call ⟨.value (.func 152),#[.tmp 20],#[23]⟩,none⟩,⟨some 4,.assign (.tmp 21),none⟩]
instance : Live qz3 := ⟨[2,3]⟩
def t_k151 : SC :=
 (.seq (.ops false qz4) (.seq (.ops true qz3) .ret))
theorem it_k151 : FnIs Tryz.prog 151 22 [.tmp 4] t_k151 := ⟨Tryz.f151, _, Tryz.func151, rfl, rfl, rfl, rfl, by kernel_rfl⟩

def qzd : List SOp := [⟨some 6,.assign (.const (.int .i64 0)),none⟩]
instance : Live qzd := ⟨[0,1,2]⟩
def qzc : List SOp := [⟨some 11,.move (.tmp 0),none⟩,⟨some 12,.call ⟨.builtin .len,#[.tmp 11],#[24]⟩,none⟩,⟨some 13,.move (.const (.int .i64 0)),none⟩]
instance : Live qzc := ⟨[0,1,2]⟩
def qzb : List SOp := [⟨some 14,.binOp .lss 3 (.tmp 13) (.tmp 12) 3,none⟩]
instance : Live qzb := ⟨[0,1,2,11,12,13]⟩
def qza : List SOp := [⟨some 15,.move (.tmp 13),none⟩,⟨some 16,.indexAddr 24 (.tmp 11) (.tmp 13),none⟩,⟨some 17,.load 127 (.tmp 16),none⟩,⟨some 8,.alloc 127,none⟩,⟨some 7,.assign (.tmp 15),none⟩,⟨none,.store 127 (.tmp 8) (.tmp 17),none⟩]
instance : Live qza := ⟨[0,1,2,11,12,13]⟩
def qz9 : List SOp := [⟨some 18,.move (.tmp 7),none⟩,⟨some 19,.move (.tmp 1),none⟩,⟨some 20,.call ⟨.builtin .len,#[.tmp 19],#[24]⟩,none⟩,⟨some 21,.binOp .geq 3 (.tmp 18) (.tmp 20) 3,none⟩]
instance : Live qz9 := ⟨[0,1,2,7,8,11,12,13]⟩
def qz8 : List SOp := [⟨some 6,.assign (.const (.int .i64 1)),none⟩]
instance : Live qz8 := ⟨[]⟩
def qz7 : List SOp := [⟨some 22,.move (.tmp 1),none⟩,⟨some 23,.move (.tmp 7),none⟩,⟨some 24,.indexAddr 24 (.tmp 22) (.tmp 23),none⟩,⟨some 25,.load 127 (.tmp 24),none⟩,⟨some 9,.alloc 127,none⟩,⟨none,.store 127 (.tmp 9) (.tmp 25),none⟩]
instance : Live qz7 := ⟨[0,1,2,7,8,11,12,13]⟩
def qz6 : List SOp := [⟨some 26,.move (.tmp 2),none⟩,⟨some 27,.load 127 (.tmp 8),none⟩,⟨some 28,.load 127 (.tmp 9),none⟩,⟨some 29,.call ⟨.value (.tmp 26),#[.tmp 27,.tmp 28],#[127,127]⟩,none⟩,⟨some 10,.assign (.tmp 29),none⟩]
instance : Live qz6 := ⟨[0,1,2,8,9,11,12,13]⟩
def qz5 : List SOp := [⟨some 30,.move (.tmp 10),none⟩,⟨some 31,.binOp .neq 3 (.tmp 30) (.const (.int .i64 0)) 3,none⟩]
instance : Live qz5 := ⟨[0,1,2,10,11,12,13]⟩
def qld : List SOp := [⟨some 32,.move (.tmp 10),none⟩,⟨some 6,.assign (.tmp 32),none⟩]
instance : Live qld := ⟨[10]⟩
def qlc : List SOp := [⟨some 33,.binOp .add 3 (.tmp 13) (.const (.int .i64 1)) 3,none⟩,⟨some 13,.move (.tmp 33),none⟩]
instance : Live qlc := ⟨[0,1,2,11,12,13]⟩
def qlb : List SOp := [⟨some 34,.move (.tmp 0),none⟩,⟨some 35,.call ⟨.builtin .len,#[.tmp 34],#[24]⟩,none⟩,⟨some 36,.move (.tmp 1),none⟩,⟨some 37,.call ⟨.builtin .len,#[.tmp 36],#[24]⟩,none⟩,⟨some 38,.binOp .lss 3 (.tmp 35) (.tmp 37) 3,none⟩]
instance : Live qlb := ⟨[0,1]⟩
def qla : List SOp := [⟨some 6,.assign (.const (.int .i64 (-1))),none⟩]
instance : Live qla := ⟨[]⟩
def ql9 : List SOp := [⟨some 6,.assign (.const (.int .i64 0)),none⟩]
instance : Live ql9 := ⟨[]⟩
def qia : SC :=
 (.seq (.ops false qzb) (.seq (.cond (.tmp 14) .skip (.exit 0)) (.seq (.block 1 (.seq (.ops false qza) (.seq (.seq (.ops false qz9) (.cond (.tmp 21) (.seq (.ops false qz8) .ret) .skip)) (.seq (.ops false qz7) (.seq (.ops false qz6) (.seq (.ops false qz5) (.cond (.tmp 31) (.seq (.ops false qld) .ret) .skip))))))) (.ops false qlc))))
def t_k150 : SC :=
 (.seq (.ops false qzd) (.seq (.seq (.ops false qzc) (.block 0 (.loop qia))) (.seq (.seq (.ops false qlb) (.cond (.tmp 38) (.seq (.ops false qla) .ret) .skip)) (.seq (.ops false ql9) .ret))))
theorem it_k150 : FnIs Tryz.prog 150 39 [.tmp 6] t_k150 := ⟨Tryz.f150, _, Tryz.func150, rfl, rfl, rfl, rfl, by kernel_rfl⟩

def q73 (a b : Int) : Int := if a < b then -1 else if b < a then 1 else 0
theorem zm4 (a : Int) : Ev (En Tryz.prog rfl).P 167 [.int .i64 a] (.ret (.bool false)) := by
 refine Ev.of_body it_k167 (by simp) (Run.start ?_)
 unfold t_k167
 (have hF := True.intro; refine q01 (k:=?_); clear hF)
 all_goals first | exact Fin.tmp' rfl rfl | trace_state
theorem qh2 (a b : Int) : Ev (En Tryz.prog rfl).P 149 [.int .i64 a, .int .i64 b] (.ret (.int .i64 (q73 a b))) := by
 refine Ev.of_body it_k149 (by simp) (Run.start ?_)
 unfold t_k149
 (have hF := True.intro; refine q01 (k:=?_); clear hF)
 refine q00 [.int .i64 a] (he := zm4 a) (k:=?_)
 (have hF := True.intro; refine q01 (k:=?_); clear hF)
 refine q00 [.int .i64 b] (he := zm4 b) (k:=?_)
 (focus (have hF := True.intro; (repeat' (first | refine go1 (k:=?_) | with_reducible refine Ny.of ?_ ?_ | (refine Hyp.of ?_; intro hc; (try simp only [hc]); (try simp only [Bh] at hc)))); all_goals clear hF))
 ·rw [show q73 a b = -1 from if_pos hc]
  exact Fin.tmp' rfl rfl
 ·rename_i hc1
  rw [show q73 a b = 1 by unfold q73; rw [if_neg hc1, if_pos hc]]
  exact Fin.tmp' rfl rfl
 ·rename_i hc1
  rw [show q73 a b = 0 by unfold q73; rw [if_neg hc1, if_neg hc]]
  exact Fin.tmp' rfl rfl
def orI : List Int → Int
 | [] => 0
 | x :: l => if x = 0 then orI l else x
theorem orI_drop {l : List Int} {i : Nat} {x : Int} (h : l[i]? = some x) : orI (l.drop i) = if x = 0 then orI (l.drop (i + 1)) else x := by
 obtain ⟨hi, hx⟩ := List.getElem?_eq_some_iff.1 h
 rw [List.drop_eq_getElem_cons hi, hx]
 rfl
theorem ev_k152 (l : List Int) (hl : l.length ≤ 1000000000) : Ev (En Tryz.prog rfl).P 152 [.sl 1 (q05 l)] (.ret (.int .i64 (orI l))) := by
 refine Ev.of_body it_k152 (by simp) (Run.start ?_)
 unfold t_k152
 have e1 := q0i l
 (have hF := @e1; refine q01 (k:=?_); clear hF)
 refine Run.while (σ := Nat) (fun i => ⟨tms [(3, .int .i64 0), (6, .sl 1 (q05 l)), (7, .int .i64 (l.length : Int)), (8, .int .i64 (i : Int))], mms []⟩) (fun i => i ≤ l.length ∧ orI (l.drop i) = orI l) (fun i => l.length - i) 0 (have hW := @q03; q0g) ⟨Nat.zero_le _, by rw [List.drop_zero]⟩ ?_
 rintro i ⟨hi, hp⟩
 unfold qi9
 by_cases hlt : i < l.length
 ·obtain ⟨x, hx⟩ : ∃ x, l[i]? = some x := ⟨l[i], by simp [hlt]⟩
  have g1 := q0v hx
  have hd := orI_drop hx
  (focus (have hF := (aI @e1 @g1); (repeat' (first | refine go1 (k:=?_) | with_reducible refine Ny.of ?_ ?_ | (refine Hyp.of ?_; intro hc; (try simp only [hc]); (try simp only [Bh] at hc)))); all_goals clear hF))
  ·rw [if_neg hc] at hd
   rw [← hp, hd]
   exact Fin.tmp' rfl rfl
  ·rw [if_pos hc] at hd
   (refine Fin.nextW (i + 1) ?_ (have hW := @q03; q0g); (try dsimp only))
   exact ⟨⟨hlt, hd.symm.trans hp⟩, by omega⟩
 ·rw [← hp, List.drop_eq_nil_of_le (by omega)]
  (have hF := @e1; refine q01 (k:=?_); clear hF)
  exact Fin.tmp' rfl rfl
def cmpS (s t : Sn) : Int := orI [q73 s.1 t.1, q73 s.2.1 t.2.1, q73 s.2.2 t.2.2]
theorem ev_k151 (s t : Sn) : Ev (En Tryz.prog rfl).P 151 [qqj s, qqj t] (.ret (.int .i64 (cmpS s t))) := by
 refine Ev.of_body it_k151 (by simp) (Run.start ?_)
 unfold t_k151 qqj
 (have hF := True.intro; refine q01 (k:=?_); clear hF)
 refine q00 [.int .i64 s.1, .int .i64 t.1] (he := qh2 _ _) (k:=?_)
 (have hF := True.intro; refine q01 (k:=?_); clear hF)
 refine q00 [.int .i64 s.2.1, .int .i64 t.2.1] (he := qh2 _ _) (k:=?_)
 (have hF := True.intro; refine q01 (k:=?_); clear hF)
 refine q00 [.int .i64 s.2.2, .int .i64 t.2.2] (he := qh2 _ _) (k:=?_)
 (have hF := True.intro; refine q01 (k:=?_); clear hF)
 refine q00 [.sl 1 (q05 [q73 s.1 t.1, q73 s.2.1 t.2.1, q73 s.2.2 t.2.2])] (he := ev_k152 _ (by simp)) (k:=?_)
 (have hF := True.intro; refine q01 (k:=?_); clear hF)
 exact Fin.tmp' rfl rfl
def qhl : List Sn → List Sn → Int
 | [], [] => 0
 | [], _ :: _ => -1
 | _ :: _, [] => 1
 | x :: l, y :: m => if cmpS x y = 0 then qhl l m else cmpS x y
theorem q87 (a b : List Sn) (ha : a.length ≤ 1000000000) (hb : b.length ≤ 1000000000) : Ev (En Tryz.prog rfl).P 150 [.sl 3 (q0d a), .sl 3 (q0d b), .fn 151 []] (.ret (.int .i64 (qhl a b))) := by
 refine Ev.of_body it_k150 (by simp) (Run.start ?_)
 unfold t_k150
 have e1 := q1e a
 have e2 := q1e b
 (have hF := (aI @e1 @e2); refine q01 (k:=?_); clear hF)
 refine Run.while (σ := Nat) (fun i => ⟨tms [(0, .sl 3 (q0d a)), (1, .sl 3 (q0d b)), (2, .fn 151 []), (11, .sl 3 (q0d a)), (12, .int .i64 (a.length : Int)), (13, .int .i64 (i : Int))], mms []⟩) (fun i => i ≤ a.length ∧ i ≤ b.length ∧ qhl (a.drop i) (b.drop i) = qhl a b) (fun i => a.length - i) 0 (have hW := @q04; q0g) ⟨Nat.zero_le _, Nat.zero_le _, by rw [List.drop_zero, List.drop_zero]⟩ ?_
 rintro i ⟨hi, hi2, hp⟩
 unfold qia
 by_cases hlt : i < a.length
 ·obtain ⟨x, hx⟩ : ∃ x, a[i]? = some x := ⟨a[i], by simp [hlt]⟩
  have g1 := q2c hx
  obtain ⟨_, hxa⟩ := List.getElem?_eq_some_iff.1 hx
  by_cases hlb : i < b.length
  ·obtain ⟨y, hy⟩ : ∃ y, b[i]? = some y := ⟨b[i], by simp [hlb]⟩
   have g2 := q2c hy
   obtain ⟨_, hyb⟩ := List.getElem?_eq_some_iff.1 hy
   have hd : qhl a b = if cmpS x y = 0 then qhl (a.drop (i + 1)) (b.drop (i + 1)) else cmpS x y := by
    rw [← hp, List.drop_eq_getElem_cons hlt, List.drop_eq_getElem_cons hlb, hxa, hyb]
    rfl
   unfold qqj at g1 g2
   (have hF := (aI (aI @e1 @e2) (aI @g1 @g2)); refine q01 (k:=?_); clear hF)
   refine q00 [.agg [.int .i64 x.1, .int .i64 x.2.1, .int .i64 x.2.2], .agg [.int .i64 y.1, .int .i64 y.2.1, .int .i64 y.2.2]] (he := ev_k151 x y) (k:=?_)
   (focus (have hF := (aI (aI @e1 @e2) (aI @g1 @g2)); (repeat' (first | refine go1 (k:=?_) | with_reducible refine Ny.of ?_ ?_ | (refine Hyp.of ?_; intro hc; (try simp only [hc]); (try simp only [Bh] at hc)))); all_goals clear hF))
   ·rw [if_neg hc] at hd
    rw [hd]
    exact Fin.tmp' rfl rfl
   ·rw [if_pos hc] at hd
    (refine Fin.nextW (i + 1) ?_ (have hW := @q04; q0g); (try dsimp only))
    exact ⟨⟨hlt, hlb, hd.symm⟩, by omega⟩
  ·have hd : qhl a b = 1 := by
    rw [← hp, List.drop_eq_getElem_cons hlt, List.drop_eq_nil_of_le (show b.length ≤ i by omega)]
    rfl
   rw [hd]
   (have hF := (aI @e1 (aI @e2 @g1)); refine q01 (k:=?_); clear hF)
   exact Fin.tmp' rfl rfl
 ·have hia : i = a.length := by omega
  (focus (have hF := (aI @e1 @e2); (repeat' (first | refine go1 (k:=?_) | with_reducible refine Ny.of ?_ ?_ | (refine Hyp.of ?_; intro hc; (try simp only [hc]); (try simp only [Bh] at hc)))); all_goals clear hF))
  ·have hd : qhl a b = -1 := by
    rw [← hp, List.drop_eq_nil_of_le (show a.length ≤ i by omega), List.drop_eq_getElem_cons (show i < b.length by omega)]
    rfl
   rw [hd]
   exact Fin.tmp' rfl rfl
  ·have hd : qhl a b = 0 := by
    rw [← hp, List.drop_eq_nil_of_le (show a.length ≤ i by omega), List.drop_eq_nil_of_le (show b.length ≤ i by omega)]
    rfl
   rw [hd]
   exact Fin.tmp' rfl rfl

def q5e : List Int → List Int → Int
 | [], [] => 0
 | [], _ :: _ => -1
 | _ :: _, [] => 1
 | x :: l, y :: m => if x < y then -1 else if y < x then 1 else q5e l m
theorem qa6 : ∀ l m : List Int, q5e l m = -1 ∨ q5e l m = 0 ∨ q5e l m = 1
 | [], [] => .inr (.inl rfl)
 | [], _ :: _ => .inl rfl
 | _ :: _, [] => .inr (.inr rfl)
 | x :: l, y :: m => by
  unfold q5e
  split
  ·exact .inl rfl
  ·split
   ·exact .inr (.inr rfl)
   ·exact qa6 l m
theorem qgq : ∀ l m : List Int, q5e m l = - q5e l m
 | [], [] => rfl
 | [], _ :: _ => rfl
 | _ :: _, [] => rfl
 | x :: l, y :: m => by
  have ih := qgq l m
  unfold q5e
  by_cases h1 : x < y
  ·rw [if_neg (show ¬ y < x by omega), if_pos h1, if_pos h1]; rfl
  ·by_cases h2 : y < x
   ·rw [if_pos h2, if_neg h1, if_pos h2]
   ·rw [if_neg h1, if_neg h2, if_neg h2, if_neg h1, ih]
theorem qd1 : ∀ l : List Int, q5e l l = 0
 | [] => rfl
 | x :: l => by unfold q5e; rw [if_neg (by omega), if_neg (by omega), qd1 l]
theorem qpx : ∀ {l m : List Int}, q5e l m = 0 → l = m
 | [], [], _ => rfl
 | [], _ :: _, h => by simp [q5e] at h
 | _ :: _, [], h => by simp [q5e] at h
 | x :: l, y :: m, h => by
  unfold q5e at h
  by_cases h1 : x < y
  ·rw [if_pos h1] at h; simp at h
  ·by_cases h2 : y < x
   ·rw [if_neg h1, if_pos h2] at h; simp at h
   ·rw [if_neg h1, if_neg h2] at h
    rw [qpx h, show x = y by omega]
theorem qa5 : ∀ {l m k : List Int}, q5e l m ≤ 0 → q5e m k ≤ 0 → q5e l k ≤ 0
 | [], _, [], _, _ => by simp [q5e]
 | [], _, _ :: _, _, _ => by simp [q5e]
 | _ :: _, [], _, h, _ => by simp [q5e] at h
 | _ :: _, _ :: _, [], _, h => by simp [q5e] at h
 | x :: l, y :: m, z :: k, h, h' => by
  unfold q5e at h h' ⊢
  by_cases a1 : x < y
  ·by_cases b1 : y < z
   ·rw [if_pos (by omega)]; omega
   ·by_cases b2 : z < y
    ·rw [if_neg b1, if_pos b2] at h'; omega
    ·rw [if_pos (by omega)]; omega
  ·by_cases a2 : y < x
   ·rw [if_neg a1, if_pos a2] at h; omega
   ·rw [if_neg a1, if_neg a2] at h
    by_cases b1 : y < z
    ·rw [if_pos (by omega)]; omega
    ·by_cases b2 : z < y
     ·rw [if_neg b1, if_pos b2] at h'; omega
     ·rw [if_neg b1, if_neg b2] at h'
      rw [if_neg (by omega), if_neg (by omega)]
      exact qa5 h h'
theorem qgr : ∀ (l : List Int) (c d : List Int), q5e (l ++ c) (l ++ d) = q5e c d
 | [], _, _ => rfl
 | x :: l, c, d => by
  show (if x < x then (-1 : Int) else if x < x then 1 else q5e (l ++ c) (l ++ d)) = _
  rw [if_neg (by omega), if_neg (by omega), qgr l]
theorem qpy : ∀ (l m : List Int) (i : Nat) (x y : Int) (c d : List Int), l[i]? = some x → m[i]? = some y → (∀ j, j < i → l[j]? = m[j]?) → x ≠ y → q5e (l ++ c) (m ++ d) = q73 x y
 | [], _, _, _, _, _, _, h, _, _, _ => by simp at h
 | _ :: _, [], _, _, _, _, _, _, h, _, _ => by simp at h
 | a :: l, b :: m, 0, x, y, c, d, h1, h2, _, hn => by
  simp at h1 h2
  subst h1; subst h2
  show q5e (a :: (l ++ c)) (b :: (m ++ d)) = _
  unfold q5e q73
  by_cases e1 : a < b
  ·rw [if_pos e1, if_pos e1]
  ·rw [if_neg e1, if_neg e1, if_pos (by omega), if_pos (by omega)]
 | a :: l, b :: m, i + 1, x, y, c, d, h1, h2, hj, hn => by
  have e := hj 0 (by omega)
  simp at e
  subst e
  show q5e (a :: (l ++ c)) (a :: (m ++ d)) = _
  unfold q5e
  rw [if_neg (by omega), if_neg (by omega)]
  refine qpy l m i x y c d (by simpa using h1) (by simpa using h2) (fun j hjl => ?_) hn
  have := hj (j + 1) (by omega)
  simpa using this
def qee : List Sn → List Int
 | [] => []
 | s :: l => s.1 :: s.2.1 :: s.2.2 :: qee l
theorem qo8 : ∀ {l m : List Sn}, qee l = qee m → l = m
 | [], [], _ => rfl
 | [], _ :: _, h => by simp [qee] at h
 | _ :: _, [], h => by simp [qee] at h
 | x :: l, y :: m, h => by
  simp only [qee, List.cons.injEq] at h
  rw [qo8 h.2.2.2, show x = y from Prod.ext h.1 (Prod.ext h.2.1 h.2.2.1)]
theorem qdu : ∀ l m : List Sn, q5e (qee l) (qee m) = qhl l m
 | [], [] => rfl
 | [], _ :: _ => rfl
 | _ :: _, [] => rfl
 | x :: l, y :: m => by
  have ih := qdu l m
  simp only [qee, q5e, qhl, cmpS, orI, q73, ih]
  by_cases a1 : x.1 < y.1
  ·simp [a1]
  ·by_cases a2 : y.1 < x.1
   ·simp [a1, a2]
   ·by_cases b1 : x.2.1 < y.2.1
    ·simp [a1, a2, b1]
    ·by_cases b2 : y.2.1 < x.2.1
     ·simp [a1, a2, b1, b2]
     ·by_cases c1 : x.2.2 < y.2.2
      ·simp [a1, a2, b1, b2, c1]
      ·by_cases c2 : y.2.2 < x.2.2
       ·simp [a1, a2, b1, b2, c1, c2]
       ·simp [a1, a2, b1, b2, c1, c2]
def vv (p : Pst) (r : Nat) : Int := if r < p.vec.length then q1q p.vec r else 0
def qhq (p : Pst) : List Int := (List.range 16).map (vv p)
def qf3 (p : Pst) : List Int := qhq p ++ qee p.cloud
def zao (p q : Pst) : Int := q5e (qf3 (q16 p)) (qf3 (q16 q))
theorem q45 (p : Pst) {r : Nat} (hr : r < 16) : (qhq p)[r]? = some (vv p r) := by
 unfold qhq
 rw [List.getElem?_map, List.getElem?_range hr]
 rfl
theorem qb8 (p : Pst) : (qhq p).length = 16 := by simp [qhq]
theorem keyP_inj {p q : Pst} (hp : CanP p) (hq : CanP q) (h : qf3 p = qf3 q) : p = q := by
 have h1 : qhq p = qhq q := by
  have := congrArg (List.take 16) h
  unfold qf3 at this
  rwa [List.take_left' (qb8 p), List.take_left' (qb8 q)] at this
 have h2 : p.cloud = q.cloud := by
  have := congrArg (List.drop 16) h
  unfold qf3 at this
  rw [List.drop_left' (qb8 p), List.drop_left' (qb8 q)] at this
  exact qo8 this
 refine hp.ext hq fun r hr n => ?_
 have e : vv p r = vv q r := by
  have a := q45 p hr
  rw [h1, q45 q hr] at a
  exact (Option.some.inj a).symm
 have k : ∀ z : Pst, 1 ≤ n → ((r < z.vec.length ∧ n ≤ q1q z.vec r) ↔ n ≤ vv z r) := fun z hn => by
  unfold vv
  by_cases hz : r < z.vec.length
  ·rw [if_pos hz]; exact ⟨fun h => h.2, fun h => ⟨hz, h⟩⟩
  ·rw [if_neg hz]; exact ⟨fun h => absurd h.1 hz, fun h => by omega⟩
 unfold inP
 rw [h2]
 constructor
 ·rintro ⟨a, b, c, d⟩
  refine ⟨a, b, c, d.imp (fun d => ?_) id⟩
  rw [k q b, ← e, ← k p b]; exact d
 ·rintro ⟨a, b, c, d⟩
  refine ⟨a, b, c, d.imp (fun d => ?_) id⟩
  rw [k p b, e, ← k q b]; exact d
theorem q9n {p q : Pst} : zao p q = 0 ↔ q16 p = q16 q := by
 constructor
 ·intro h
  exact keyP_inj (q9q p) (q9q q) (qpx h)
 ·intro h
  unfold zao
  rw [h, qd1]

def qvp : List SOp := [⟨some 2,.assign (.const (.bool false)),none⟩]
instance : Live qvp := ⟨[0]⟩
def qvo : List SOp := [⟨some 3,.move (.tmp 0),none⟩,⟨some 4,.binOp .leq 5 (.const (.int .u8 65)) (.tmp 3) 5,none⟩,⟨some 5,.move (.tmp 4),none⟩,⟨some 6,.move (.tmp 0),some ((some 5),true)⟩,⟨some 7,.binOp .leq 5 (.tmp 6) (.const (.int .u8 90)) 5,some ((some 5),true)⟩,⟨some 8,.pick (.tmp 5) (.tmp 7) (.const (.bool false)),none⟩,⟨some 2,.assign (.tmp 8),none⟩]
instance : Live qvo := ⟨[0]⟩
def t_k170 : SC :=
 (.seq (.ops false qvp) (.seq (.ops false qvo) .ret))
theorem it_k170 : FnIs Tryz.prog 170 9 [.tmp 2] t_k170 := ⟨Tryz.f170, _, Tryz.func170, rfl, rfl, rfl, rfl, by kernel_rfl⟩

def qvn : List SOp := [⟨some 2,.assign (.const (.bool false)),none⟩]
instance : Live qvn := ⟨[0]⟩
def qvm : List SOp := [⟨some 3,.move (.tmp 0),none⟩,⟨some 4,.binOp .leq 5 (.const (.int .u8 48)) (.tmp 3) 5,none⟩,⟨some 5,.move (.tmp 4),none⟩,⟨some 6,.move (.tmp 0),some ((some 5),true)⟩,⟨some 7,.binOp .leq 5 (.tmp 6) (.const (.int .u8 57)) 5,some ((some 5),true)⟩,⟨some 8,.pick (.tmp 5) (.tmp 7) (.const (.bool false)),none⟩,⟨some 2,.assign (.tmp 8),none⟩]
instance : Live qvm := ⟨[0]⟩
def t_k171 : SC :=
 (.seq (.ops false qvn) (.seq (.ops false qvm) .ret))
theorem it_k171 : FnIs Tryz.prog 171 9 [.tmp 2] t_k171 := ⟨Tryz.f171, _, Tryz.func171, rfl, rfl, rfl, rfl, by kernel_rfl⟩

def qvl : List SOp := [⟨some 2,.assign (.const (.bool false)),none⟩]
instance : Live qvl := ⟨[0]⟩
def qvk : List SOp := [⟨some 3,.move (.tmp 0),none⟩,⟨some 4,.binOp .eql 5 (.tmp 3) (.const (.int .u8 45)) 5,none⟩,⟨some 5,.move (.tmp 4),none⟩,⟨some 6,.move (.tmp 0),some ((some 5),false)⟩,⟨some 7,.binOp .eql 5 (.tmp 6) (.const (.int .u8 46)) 5,some ((some 5),false)⟩,⟨some 8,.pick (.tmp 5) (.const (.bool true)) (.tmp 7),none⟩,⟨some 2,.assign (.tmp 8),none⟩]
instance : Live qvk := ⟨[0]⟩
def t_k172 : SC :=
 (.seq (.ops false qvl) (.seq (.ops false qvk) .ret))
theorem it_k172 : FnIs Tryz.prog 172 9 [.tmp 2] t_k172 := ⟨Tryz.f172, _, Tryz.func172, rfl, rfl, rfl, rfl, by kernel_rfl⟩

def qy4 : List SOp := [⟨some 2,.assign (.const (.int .i64 0)),none⟩,⟨some 3,.assign (.const (.int .i64 0)),none⟩]
instance : Live qy4 := ⟨[0]⟩
def qy3 : List SOp := [⟨some 6,.move (.tmp 0),none⟩,⟨some 7,.binOp .eql 9 (.tmp 6) (.const (.string ⟨#[]⟩)) 9,none⟩]
instance : Live qy3 := ⟨[0]⟩
def qy2 : List SOp := [⟨some 2,.assign (.const (.int .i64 0)),none⟩,⟨some 3,.assign (.const (.int .i64 20)),none⟩]
instance : Live qy2 := ⟨[]⟩
def qy1 : List SOp := [⟨some 8,.move (.tmp 0),none⟩,⟨some 9,.call ⟨.builtin .len,#[.tmp 8],#[9]⟩,none⟩,⟨some 10,.binOp .gtr 3 (.tmp 9) (.const (.int .i64 24)) 3,none⟩]
instance : Live qy1 := ⟨[0]⟩
def qy0 : List SOp := [⟨some 2,.assign (.const (.int .i64 0)),none⟩,⟨some 3,.assign (.const (.int .i64 21)),none⟩]
instance : Live qy0 := ⟨[]⟩
def qxz : List SOp := [⟨some 11,.move (.tmp 0),none⟩,⟨some 12,.call ⟨.builtin .len,#[.tmp 11],#[9]⟩,none⟩,⟨some 13,.move (.const (.int .i64 0)),none⟩]
instance : Live qxz := ⟨[0]⟩
def qxy : List SOp := [⟨some 14,.binOp .lss 3 (.tmp 13) (.tmp 12) 3,none⟩]
instance : Live qxy := ⟨[0,12,13]⟩
def qxx : List SOp := [⟨some 15,.move (.tmp 13),none⟩,⟨some 4,.assign (.tmp 15),none⟩]
instance : Live qxx := ⟨[0,12,13]⟩
def qxw : List SOp := [⟨some 16,.move (.tmp 0),none⟩,⟨some 17,.move (.tmp 4),none⟩,⟨some 18,.index 9 (.tmp 16) (.tmp 17),none⟩,⟨some 5,.assign (.tmp 18),none⟩]
instance : Live qxw := ⟨[0,4,12,13]⟩
def qks : List SOp := [⟨some 19,.move (.tmp 5),none⟩,⟨some 20,.call ⟨.value (.func 170),#[.tmp 19],#[5]⟩,none⟩,⟨some 21,.move (.tmp 20),none⟩,⟨some 22,.move (.tmp 5),some ((some 21),false)⟩,⟨some 23,.call ⟨.value (.func 171),#[.tmp 22],#[5]⟩,some ((some 21),false)⟩,⟨some 24,.pick (.tmp 21) (.const (.bool true)) (.tmp 23),none⟩]
instance : Live qks := ⟨[0,4,5,12,13]⟩
def qkr : List SOp := [⟨some 25,.move (.tmp 5),none⟩,⟨some 26,.call ⟨.value (.func 172),#[.tmp 25],#[5]⟩,none⟩,⟨some 27,.unOp .not 4 (.tmp 26),none⟩,⟨some 28,.move (.tmp 27),none⟩,⟨some 29,.move (.tmp 4),some ((some 28),false)⟩,⟨some 30,.binOp .eql 3 (.tmp 29) (.const (.int .i64 0)) 3,some ((some 28),false)⟩,⟨some 31,.pick (.tmp 28) (.const (.bool true)) (.tmp 30),none⟩,⟨some 32,.move (.tmp 31),none⟩,⟨some 33,.move (.tmp 4),some ((some 32),false)⟩,⟨some 34,.move (.tmp 0),some ((some 32),false)⟩,⟨some 35,.call ⟨.builtin .len,#[.tmp 34],#[9]⟩,some ((some 32),false)⟩,⟨some 36,.binOp .sub 3 (.tmp 35) (.const (.int .i64 1)) 3,some ((some 32),false)⟩,⟨some 37,.binOp .eql 3 (.tmp 33) (.tmp 36) 3,some ((some 32),false)⟩,⟨some 38,.pick (.tmp 32) (.const (.bool true)) (.tmp 37),none⟩,⟨some 39,.move (.tmp 38),none⟩,⟨some 40,.move (.tmp 0),some ((some 39),false)⟩,⟨some 41,.move (.tmp 4),some ((some 39),false)⟩,⟨some 42,.binOp .sub 3 (.tmp 41) (.const (.int .i64 1)) 3,some ((some 39),false)⟩,⟨some 43,.index 9 (.tmp 40) (.tmp 42),some ((some 39),false)⟩,⟨some 44,.call ⟨.value (.func 172),#[.tmp 43],#[5]⟩,some ((some 39),false)⟩,⟨some 45,.pick (.tmp 39) (.const (.bool true)) (.tmp 44),none⟩]
instance : Live qkr := ⟨[0,4,5,12,13]⟩
def qkq : List SOp := [⟨some 46,.move (.tmp 4),none⟩,⟨some 2,.assign (.tmp 46),none⟩,⟨some 3,.assign (.const (.int .i64 22)),none⟩]
instance : Live qkq := ⟨[4]⟩
def qkp : List SOp := [⟨some 47,.binOp .add 3 (.tmp 13) (.const (.int .i64 1)) 3,none⟩,⟨some 13,.move (.tmp 47),none⟩]
instance : Live qkp := ⟨[0,12,13]⟩
def qko : List SOp := [⟨some 2,.assign (.const (.int .i64 0)),none⟩,⟨some 3,.assign (.const (.int .i64 0)),none⟩]
instance : Live qko := ⟨[]⟩
def qi6 : SC :=
 (.seq (.ops false qxy) (.seq (.cond (.tmp 14) .skip (.exit 0)) (.seq (.block 1 (.seq (.ops false qxx) (.seq (.ops false qxw) (.seq (.seq (.ops false qks) (.cond (.tmp 24) (.exit 1) .skip)) (.seq (.ops false qkr) (.cond (.tmp 45) (.seq (.ops false qkq) .ret) .skip)))))) (.ops false qkp))))
def t_k158 : SC :=
 (.seq (.ops false qy4) (.seq (.seq (.ops false qy3) (.cond (.tmp 7) (.seq (.ops false qy2) .ret) .skip)) (.seq (.seq (.ops false qy1) (.cond (.tmp 10) (.seq (.ops false qy0) .ret) .skip)) (.seq (.seq (.ops false qxz) (.block 0 (.loop qi6))) (.seq (.ops false qko) .ret)))))
theorem it_k158 : FnIs Tryz.prog 158 48 [.tmp 2, .tmp 3] t_k158 := ⟨Tryz.f158, _, Tryz.func158, rfl, rfl, rfl, rfl, by kernel_rfl⟩

def z0x : List SOp := [⟨some 2,.assign (.const (.bool false)),none⟩]
instance : Live z0x := ⟨[0]⟩
def z0w : List SOp := [⟨some 6,.move (.tmp 0),none⟩,⟨some 7,.call ⟨.value (.func 158),#[.tmp 6],#[9]⟩,none⟩,⟨some 5,.move (.tmp 7),none⟩,⟨some 8,.extract (.tmp 5) 0,none⟩,⟨some 9,.extract (.tmp 5) 1,none⟩,⟨some 3,.assign (.tmp 8),none⟩,⟨some 4,.assign (.tmp 9),none⟩]
instance : Live z0w := ⟨[0]⟩
def z0v : List SOp := [⟨some 10,.move (.tmp 4),none⟩,⟨some 11,.binOp .eql 32 (.tmp 10) (.const (.int .i64 0)) 32,none⟩,⟨some 2,.assign (.tmp 11),none⟩]
instance : Live z0v := ⟨[4]⟩
def t_k137 : SC :=
 (.seq (.ops false z0x) (.seq (.ops false z0w) (.seq (.ops false z0v) .ret)))
theorem it_k137 : FnIs Tryz.prog 137 12 [.tmp 2] t_k137 := ⟨Tryz.f137, _, Tryz.func137, rfl, rfl, rfl, rfl, by kernel_rfl⟩

def qug : List SOp := [⟨some 2,.assign (.const (.bool false)),none⟩]
instance : Live qug := ⟨[0]⟩
def quf : List SOp := [⟨some 3,.move (.tmp 0),none⟩,⟨some 4,.binOp .geq 5 (.tmp 3) (.const (.int .u8 65)) 5,none⟩,⟨some 5,.move (.tmp 4),none⟩,⟨some 6,.move (.tmp 0),some ((some 5),true)⟩,⟨some 7,.binOp .leq 5 (.tmp 6) (.const (.int .u8 90)) 5,some ((some 5),true)⟩,⟨some 8,.pick (.tmp 5) (.tmp 7) (.const (.bool false)),none⟩,⟨some 2,.assign (.tmp 8),none⟩]
instance : Live quf := ⟨[0]⟩
def t_k193 : SC :=
 (.seq (.ops false qug) (.seq (.ops false quf) .ret))
theorem it_k193 : FnIs Tryz.prog 193 9 [.tmp 2] t_k193 := ⟨Tryz.f193, _, Tryz.func193, rfl, rfl, rfl, rfl, by kernel_rfl⟩

def que : List SOp := [⟨some 2,.assign (.const (.bool false)),none⟩]
instance : Live que := ⟨[0]⟩
def qud : List SOp := [⟨some 3,.move (.tmp 0),none⟩,⟨some 4,.binOp .geq 5 (.tmp 3) (.const (.int .u8 48)) 5,none⟩,⟨some 5,.move (.tmp 4),none⟩,⟨some 6,.move (.tmp 0),some ((some 5),true)⟩,⟨some 7,.binOp .leq 5 (.tmp 6) (.const (.int .u8 57)) 5,some ((some 5),true)⟩,⟨some 8,.pick (.tmp 5) (.tmp 7) (.const (.bool false)),none⟩,⟨some 2,.assign (.tmp 8),none⟩]
instance : Live qud := ⟨[0]⟩
def t_k194 : SC :=
 (.seq (.ops false que) (.seq (.ops false qud) .ret))
theorem it_k194 : FnIs Tryz.prog 194 9 [.tmp 2] t_k194 := ⟨Tryz.f194, _, Tryz.func194, rfl, rfl, rfl, rfl, by kernel_rfl⟩

def quc : List SOp := [⟨some 2,.assign (.const (.bool false)),none⟩]
instance : Live quc := ⟨[0]⟩
def qub : List SOp := [⟨some 3,.move (.tmp 0),none⟩,⟨some 4,.binOp .eql 5 (.tmp 3) (.const (.int .u8 45)) 5,none⟩,⟨some 5,.move (.tmp 4),none⟩,⟨some 6,.move (.tmp 0),some ((some 5),false)⟩,⟨some 7,.binOp .eql 5 (.tmp 6) (.const (.int .u8 46)) 5,some ((some 5),false)⟩,⟨some 8,.pick (.tmp 5) (.const (.bool true)) (.tmp 7),none⟩,⟨some 2,.assign (.tmp 8),none⟩]
instance : Live qub := ⟨[0]⟩
def t_k195 : SC :=
 (.seq (.ops false quc) (.seq (.ops false qub) .ret))
theorem it_k195 : FnIs Tryz.prog 195 9 [.tmp 2] t_k195 := ⟨Tryz.f195, _, Tryz.func195, rfl, rfl, rfl, rfl, by kernel_rfl⟩

def qv4 : List SOp := [⟨some 4,.assign (.const (.bool false)),none⟩]
instance : Live qv4 := ⟨[0,1]⟩
def qv3 : List SOp := [⟨some 6,.move (.tmp 0),none⟩,⟨some 7,.move (.tmp 1),none⟩,⟨some 8,.index 9 (.tmp 6) (.tmp 7),none⟩,⟨some 5,.assign (.tmp 8),none⟩]
instance : Live qv3 := ⟨[0,1]⟩
def qv2 : List SOp := [⟨some 9,.move (.tmp 5),none⟩,⟨some 10,.call ⟨.value (.func 193),#[.tmp 9],#[5]⟩,none⟩,⟨some 11,.move (.tmp 10),none⟩,⟨some 12,.move (.tmp 5),some ((some 11),false)⟩,⟨some 13,.call ⟨.value (.func 194),#[.tmp 12],#[5]⟩,some ((some 11),false)⟩,⟨some 14,.pick (.tmp 11) (.const (.bool true)) (.tmp 13),none⟩]
instance : Live qv2 := ⟨[0,1,5]⟩
def qv1 : List SOp := [⟨some 4,.assign (.const (.bool true)),none⟩]
instance : Live qv1 := ⟨[]⟩
def qv0 : List SOp := [⟨some 15,.move (.tmp 5),none⟩,⟨some 16,.call ⟨.value (.func 195),#[.tmp 15],#[5]⟩,none⟩,⟨some 17,.unOp .not 4 (.tmp 16),none⟩]
instance : Live qv0 := ⟨[0,1,5]⟩
def quz : List SOp := [⟨some 4,.assign (.const (.bool false)),none⟩]
instance : Live quz := ⟨[]⟩
def quy : List SOp := [⟨some 18,.move (.tmp 1),none⟩,⟨some 19,.binOp .eql 3 (.tmp 18) (.const (.int .i64 0)) 3,none⟩,⟨some 20,.move (.tmp 19),none⟩,⟨some 21,.move (.tmp 1),some ((some 20),false)⟩,⟨some 22,.move (.tmp 0),some ((some 20),false)⟩,⟨some 23,.call ⟨.builtin .len,#[.tmp 22],#[9]⟩,some ((some 20),false)⟩,⟨some 24,.binOp .sub 3 (.tmp 23) (.const (.int .i64 1)) 3,some ((some 20),false)⟩,⟨some 25,.binOp .eql 3 (.tmp 21) (.tmp 24) 3,some ((some 20),false)⟩,⟨some 26,.pick (.tmp 20) (.const (.bool true)) (.tmp 25),none⟩]
instance : Live quy := ⟨[0,1]⟩
def qux : List SOp := [⟨some 4,.assign (.const (.bool false)),none⟩]
instance : Live qux := ⟨[]⟩
def quw : List SOp := [⟨some 27,.move (.tmp 0),none⟩,⟨some 28,.move (.tmp 1),none⟩,⟨some 29,.binOp .sub 3 (.tmp 28) (.const (.int .i64 1)) 3,none⟩,⟨some 30,.index 9 (.tmp 27) (.tmp 29),none⟩,⟨some 31,.call ⟨.value (.func 195),#[.tmp 30],#[5]⟩,none⟩,⟨some 32,.unOp .not 4 (.tmp 31),none⟩,⟨some 4,.assign (.tmp 32),none⟩]
instance : Live quw := ⟨[0,1]⟩
def t_k184 : SC :=
 (.seq (.ops false qv4) (.seq (.ops false qv3) (.seq (.seq (.ops false qv2) (.cond (.tmp 14) (.seq (.ops false qv1) .ret) .skip)) (.seq (.seq (.ops false qv0) (.cond (.tmp 17) (.seq (.ops false quz) .ret) .skip)) (.seq (.seq (.ops false quy) (.cond (.tmp 26) (.seq (.ops false qux) .ret) .skip)) (.seq (.ops false quw) .ret))))))
theorem it_k184 : FnIs Tryz.prog 184 33 [.tmp 4] t_k184 := ⟨Tryz.f184, _, Tryz.func184, rfl, rfl, rfl, rfl, by kernel_rfl⟩

def qwm : List SOp := [⟨some 2,.assign (.const (.int .i64 0)),none⟩,⟨some 3,.assign (.const (.int .i64 0)),none⟩]
instance : Live qwm := ⟨[0]⟩
def qwl : List SOp := [⟨some 5,.move (.tmp 0),none⟩,⟨some 6,.call ⟨.builtin .len,#[.tmp 5],#[9]⟩,none⟩,⟨some 7,.binOp .eql 3 (.tmp 6) (.const (.int .i64 0)) 3,none⟩]
instance : Live qwl := ⟨[0]⟩
def qwk : List SOp := [⟨some 2,.assign (.const (.int .i64 0)),none⟩,⟨some 3,.assign (.const (.int .i64 20)),none⟩]
instance : Live qwk := ⟨[]⟩
def qwj : List SOp := [⟨some 8,.move (.tmp 0),none⟩,⟨some 9,.call ⟨.builtin .len,#[.tmp 8],#[9]⟩,none⟩,⟨some 10,.binOp .gtr 3 (.tmp 9) (.const (.int .i64 24)) 3,none⟩]
instance : Live qwj := ⟨[0]⟩
def qwi : List SOp := [⟨some 2,.assign (.const (.int .i64 0)),none⟩,⟨some 3,.assign (.const (.int .i64 21)),none⟩]
instance : Live qwi := ⟨[]⟩
def qwh : List SOp := [⟨some 4,.assign (.const (.int .i64 0)),none⟩]
instance : Live qwh := ⟨[0]⟩
def qwg : List SOp := [⟨some 11,.move (.tmp 4),none⟩,⟨some 12,.move (.tmp 0),none⟩,⟨some 13,.call ⟨.builtin .len,#[.tmp 12],#[9]⟩,none⟩,⟨some 14,.binOp .lss 3 (.tmp 11) (.tmp 13) 3,none⟩]
instance : Live qwg := ⟨[0,4]⟩
def qwf : List SOp := [⟨some 17,.move (.tmp 0),none⟩,⟨some 18,.move (.tmp 4),none⟩,⟨some 19,.call ⟨.value (.func 184),#[.tmp 17,.tmp 18],#[9,3]⟩,none⟩,⟨some 20,.unOp .not 4 (.tmp 19),none⟩]
instance : Live qwf := ⟨[0,4]⟩
def qwe : List SOp := [⟨some 21,.move (.tmp 4),none⟩,⟨some 2,.assign (.tmp 21),none⟩,⟨some 3,.assign (.const (.int .i64 22)),none⟩]
instance : Live qwe := ⟨[4]⟩
def qju : List SOp := [⟨some 15,.move (.tmp 4),none⟩,⟨some 16,.binOp .add 3 (.tmp 15) (.const (.int .i64 1)) 3,none⟩,⟨some 4,.assign (.tmp 16),none⟩]
instance : Live qju := ⟨[0,4]⟩
def qjt : List SOp := [⟨some 2,.assign (.const (.int .i64 0)),none⟩,⟨some 3,.assign (.const (.int .i64 0)),none⟩]
instance : Live qjt := ⟨[]⟩
def qi1 : SC :=
 (.seq (.seq (.ops false qwg) (.cond (.tmp 14) .skip (.exit 0))) (.seq (.block 1 (.seq (.ops false qwf) (.cond (.tmp 20) (.seq (.ops false qwe) .ret) .skip))) (.ops false qju)))
def t_k165 : SC :=
 (.seq (.ops false qwm) (.seq (.seq (.ops false qwl) (.cond (.tmp 7) (.seq (.ops false qwk) .ret) .skip)) (.seq (.seq (.ops false qwj) (.cond (.tmp 10) (.seq (.ops false qwi) .ret) .skip)) (.seq (.seq (.ops false qwh) (.block 0 (.loop qi1))) (.seq (.ops false qjt) .ret)))))
theorem it_k165 : FnIs Tryz.prog 165 22 [.tmp 2, .tmp 3] t_k165 := ⟨Tryz.f165, _, Tryz.func165, rfl, rfl, rfl, rfl, by kernel_rfl⟩

def z02 : List SOp := [⟨some 2,.assign (.const (.bool false)),none⟩]
instance : Live z02 := ⟨[0]⟩
def z01 : List SOp := [⟨some 6,.move (.tmp 0),none⟩,⟨some 7,.call ⟨.value (.func 165),#[.tmp 6],#[9]⟩,none⟩,⟨some 5,.move (.tmp 7),none⟩,⟨some 8,.extract (.tmp 5) 0,none⟩,⟨some 9,.extract (.tmp 5) 1,none⟩,⟨some 3,.assign (.tmp 8),none⟩,⟨some 4,.assign (.tmp 9),none⟩]
instance : Live z01 := ⟨[0]⟩
def z00 : List SOp := [⟨some 10,.move (.tmp 4),none⟩,⟨some 11,.binOp .eql 3 (.tmp 10) (.const (.int .i64 0)) 3,none⟩,⟨some 2,.assign (.tmp 11),none⟩]
instance : Live z00 := ⟨[4]⟩
def t_k146 : SC :=
 (.seq (.ops false z02) (.seq (.ops false z01) (.seq (.ops false z00) .ret)))
theorem it_k146 : FnIs Tryz.prog 146 12 [.tmp 2] t_k146 := ⟨Tryz.f146, _, Tryz.func146, rfl, rfl, rfl, rfl, by kernel_rfl⟩

def qq2 (c : Int) : Bool := decide (65 ≤ c) && decide (c ≤ 90)
def qq3 (c : Int) : Bool := decide (48 ≤ c) && decide (c ≤ 57)
def zl4 (c : Int) : Bool := decide (c = 45) || decide (c = 46)
def qe1 (s : ByteArray) (i : Nat) : Int := match s[i]? with | some b => (b.toNat : Int) | none => 0
theorem q83 {s : ByteArray} {i : Nat} (h : i < s.size) : ∃ b : UInt8, s[i]? = some b ∧ qe1 s i = (b.toNat : Int) := by
 have e : s[i]? = some s[i] := by
  rw [getElem?_pos s i h]
 exact ⟨s[i], e, by unfold qe1; rw [e]⟩
def q5h (s : ByteArray) (i : Nat) : Bool := (qq2 (qe1 s i) || qq3 (qe1 s i)) || (zl4 (qe1 s i) && (!decide (i = 0) && (!decide (i = s.size - 1) && !zl4 (qe1 s (i - 1)))))
def badS (s : ByteArray) : Option Nat := (List.range s.size).find? fun i => !q5h s i
def qos (s : ByteArray) : Int × Int := if s.size = 0 then (0, 20) else if 24 < s.size then (0, 21) else match badS s with | some i => (i, 22) | none => (0, 0)
def q6z (s : ByteArray) : Bool := decide ((qos s).2 = 0)
theorem ev_k170 (c : Int) : Ev (En Tryz.prog rfl).P 170 [.int .u8 c] (.ret (.bool (qq2 c))) := by
 refine Ev.of_body it_k170 (by simp) (Run.start ?_)
 unfold t_k170 qq2
 by_cases h1 : 65 ≤ c <;> by_cases h2 : c ≤ 90
 all_goals
  simp only [h1, h2, decide_true, decide_false, Bool.and_true, Bool.and_false, Bool.true_and, Bool.false_and]
  (have hF := True.intro; refine q01 (k:=?_); clear hF)
  all_goals first | exact Fin.tmp' rfl rfl | (exfalso; omega)
theorem ev_k171 (c : Int) : Ev (En Tryz.prog rfl).P 171 [.int .u8 c] (.ret (.bool (qq3 c))) := by
 refine Ev.of_body it_k171 (by simp) (Run.start ?_)
 unfold t_k171 qq3
 by_cases h1 : 48 ≤ c <;> by_cases h2 : c ≤ 57
 all_goals
  simp only [h1, h2, decide_true, decide_false, Bool.and_true, Bool.and_false, Bool.true_and, Bool.false_and]
  (have hF := True.intro; refine q01 (k:=?_); clear hF)
  all_goals first | exact Fin.tmp' rfl rfl | (exfalso; omega)
theorem zm2 (c : Int) : Ev (En Tryz.prog rfl).P 172 [.int .u8 c] (.ret (.bool (zl4 c))) := by
 refine Ev.of_body it_k172 (by simp) (Run.start ?_)
 unfold t_k172 zl4
 by_cases h1 : c = 45 <;> by_cases h2 : c = 46
 all_goals
  simp only [h1, h2, decide_true, decide_false, Bool.or_true, Bool.or_false, Bool.true_or, Bool.false_or]
  (have hF := True.intro; refine q01 (k:=?_); clear hF)
  all_goals first | exact Fin.tmp' rfl rfl | (exfalso; omega)
theorem ev_k193 (c : Int) : Ev (En Tryz.prog rfl).P 193 [.int .u8 c] (.ret (.bool (qq2 c))) := by
 refine Ev.of_body it_k193 (by simp) (Run.start ?_)
 unfold t_k193 qq2
 by_cases h1 : 65 ≤ c <;> by_cases h2 : c ≤ 90
 all_goals
  simp only [h1, h2, decide_true, decide_false, Bool.and_true, Bool.and_false, Bool.true_and, Bool.false_and]
  (have hF := True.intro; refine q01 (k:=?_); clear hF)
  all_goals first | exact Fin.tmp' rfl rfl | (exfalso; omega)
theorem ev_k194 (c : Int) : Ev (En Tryz.prog rfl).P 194 [.int .u8 c] (.ret (.bool (qq3 c))) := by
 refine Ev.of_body it_k194 (by simp) (Run.start ?_)
 unfold t_k194 qq3
 by_cases h1 : 48 ≤ c <;> by_cases h2 : c ≤ 57
 all_goals
  simp only [h1, h2, decide_true, decide_false, Bool.and_true, Bool.and_false, Bool.true_and, Bool.false_and]
  (have hF := True.intro; refine q01 (k:=?_); clear hF)
  all_goals first | exact Fin.tmp' rfl rfl | (exfalso; omega)
theorem zm1 (c : Int) : Ev (En Tryz.prog rfl).P 195 [.int .u8 c] (.ret (.bool (zl4 c))) := by
 refine Ev.of_body it_k195 (by simp) (Run.start ?_)
 unfold t_k195 zl4
 by_cases h1 : c = 45 <;> by_cases h2 : c = 46
 all_goals
  simp only [h1, h2, decide_true, decide_false, Bool.or_true, Bool.or_false, Bool.true_or, Bool.false_or]
  (have hF := True.intro; refine q01 (k:=?_); clear hF)
  all_goals first | exact Fin.tmp' rfl rfl | (exfalso; omega)
theorem zlj {q : Nat → Bool} {n i : Nat} (hi : i < n) (h0 : ∀ j, j < i → q j = false) (h : q i = true) : (List.range n).find? q = some i := by
 rw [List.find?_eq_some_iff_getElem]
 refine ⟨h, i, by simpa using hi, by simp, fun j hj => by simp [h0 j hj]⟩
theorem zlk {q : Nat → Bool} {n : Nat} (h0 : ∀ j, j < n → q j = false) : (List.range n).find? q = none := by
 rw [List.find?_eq_none]
 intro j hj
 simp [h0 j (by simpa using hj)]
theorem z7z {s : ByteArray} (h1 : ¬ s.size = 0) (h2 : ¬ 24 < s.size) {i : Nat} (hi : i < s.size) (h0 : ∀ j, j < i → q5h s j = true) (h : q5h s i = false) : qos s = ((i : Int), 22) := by
 unfold qos badS
 rw [if_neg h1, if_neg h2, zlj hi (fun j hj => by simp [h0 j hj]) (by simp [h])]
theorem zmw {s : ByteArray} (h1 : ¬ s.size = 0) (h2 : ¬ 24 < s.size) (h0 : ∀ j, j < s.size → q5h s j = true) : qos s = (0, 0) := by
 unfold qos badS
 rw [if_neg h1, if_neg h2, zlk (fun j hj => by simp [h0 j hj])]
theorem q4v {s : ByteArray} : s = ByteArray.empty ↔ s.size = 0 := by
 constructor
 ·intro h; rw [h]; rfl
 ·intro h
  cases s with
  | mk d =>
   have : d = #[] := Array.eq_empty_of_size_eq_zero h
   rw [this]; rfl
theorem ev_k158 (s : ByteArray) : Ev (En Tryz.prog rfl).P 158 [.str s] (.ret (.tup [.int .i64 (qos s).1, .int .i64 (qos s).2])) := by
 refine Ev.of_body it_k158 (by simp) (Run.start ?_)
 unfold t_k158
 by_cases h1 : s.size = 0
 ·have h1' : (s = (⟨#[]⟩ : ByteArray)) = True := eq_true (q4v.2 h1)
  have : qos s = (0, 20) := by unfold qos; rw [if_pos h1]
  rw [this]
  (have hF := @h1'; refine q01 (k:=?_); clear hF)
  exact Fin.all rfl rfl rfl
 ·have h1' : (s = (⟨#[]⟩ : ByteArray)) = False := eq_false fun h => h1 (q4v.1 h)
  by_cases h2 : 24 < s.size
  ·have : qos s = (0, 21) := by unfold qos; rw [if_neg h1, if_pos h2]
   rw [this]
   (have hF := @h1'; refine q01 (k:=?_); clear hF)
   exact Fin.all rfl rfl rfl
  ·(have hF := @h1'; refine q01 (k:=?_); clear hF)
   refine Run.while (σ := Nat) (fun i => ⟨tms [(0, .str s), (12, .int .i64 (s.size : Int)), (13, .int .i64 (i : Int))], mms []⟩) (fun i => i ≤ s.size ∧ ∀ j, j < i → q5h s j = true) (fun i => s.size - i) 0 (have hW := True.intro; q0g) ⟨Nat.zero_le _, fun j hj => absurd hj (Nat.not_lt_zero _)⟩ ?_
   rintro i ⟨hi, hp⟩
   unfold qi6
   by_cases hlt : i < s.size
   ·obtain ⟨b, hb, hbe⟩ := q83 hlt
    have hok : q5h s i = true → ∀ j, j < i + 1 → q5h s j = true := fun h j hj => by
     by_cases e : j = i
     ·rw [e]; exact h
     ·exact hp j (by omega)
    have hbad := z7z h1 h2 hlt hp
    have c1 := ev_k170 (b.toNat : Int)
    have c2 := ev_k171 (b.toNat : Int)
    have c3 := zm2 (b.toNat : Int)
    unfold q5h at hok hbad
    rw [hbe] at hok hbad
    generalize qq2 (b.toNat : Int) = v1 at c1 hok hbad
    generalize qq3 (b.toNat : Int) = v2 at c2 hok hbad
    generalize zl4 (b.toNat : Int) = v3 at c3 hok hbad
    (have hF := @hb; refine q01 (k:=?_); clear hF)
    refine q00 [.int .u8 (b.toNat : Int)] (he := c1) (k:=?_)
    cases v1
    case' true =>
     have hn := hok (by simp)
     (have hF := @hb; refine q01 (k:=?_); clear hF)
     (refine Fin.nextW (i + 1) ?_ (have hW := True.intro; q0g); (try dsimp only))
     exact ⟨⟨hlt, hn⟩, by omega⟩
    case' false =>
     (have hF := @hb; refine q01 (k:=?_); clear hF)
     refine q00 [.int .u8 (b.toNat : Int)] (he := c2) (k:=?_)
     cases v2
     case' true =>
      have hn := hok (by simp)
      (have hF := @hb; refine q01 (k:=?_); clear hF)
      (refine Fin.nextW (i + 1) ?_ (have hW := True.intro; q0g); (try dsimp only))
      exact ⟨⟨hlt, hn⟩, by omega⟩
     case' false =>
      (have hF := @hb; refine q01 (k:=?_); clear hF)
      refine q00 [.int .u8 (b.toNat : Int)] (he := c3) (k:=?_)
      cases v3
      case' false =>
       rw [hbad (by simp)]
       (have hF := @hb; refine q01 (k:=?_); clear hF)
       exact Fin.all rfl rfl rfl
      case' true =>
       by_cases i0 : i = 0
       ·rw [hbad (by simp [i0])]
        subst i0
        (have hF := @hb; refine q01 (k:=?_); clear hF)
        exact Fin.all rfl rfl rfl
       ·by_cases i1 : i = s.size - 1
        ·rw [hbad (by simp [i1])]
         have i1' : (i : Int) = (s.size : Int) - 1 := by omega
         have i0' : ¬ (i : Int) = 0 := by omega
         have i2' : IntKind.i64.wrap ((s.size : Int) - 1) = (i : Int) := by rw [q2i (by omega)]; omega
         (have hF := (aI @hb (aI @i0' @i2')); refine q01 (k:=?_); clear hF)
         exact Fin.all rfl rfl rfl
        ·have i0' : ¬ (i : Int) = 0 := by omega
         have i1' : ¬ (i : Int) = (s.size : Int) - 1 := by omega
         obtain ⟨c, hc, hce⟩ := q83 (s := s) (i := i - 1) (by omega)
         have c4 := zm2 (c.toNat : Int)
         have hpw : IntKind.i64.wrap ((i : Int) - 1) = ((i - 1 : Nat) : Int) := by rw [q2i (by omega)]; omega
         rw [hce] at hok hbad
         generalize zl4 (c.toNat : Int) = v4 at c4 hok hbad
         (have hF := (aI (aI @hb @i0') (aI @i1' (aI @hpw @hc))); refine q01 (k:=?_); clear hF)
         refine q00 [.int .u8 (c.toNat : Int)] (he := c4) (k:=?_)
         cases v4
         ·have hn := hok (by simp [i0, i1])
          (have hF := @hb; refine q01 (k:=?_); clear hF)
          (refine Fin.nextW (i + 1) ?_ (have hW := True.intro; q0g); (try dsimp only))
          exact ⟨⟨hlt, hn⟩, by omega⟩
         ·rw [hbad (by simp)]
          (have hF := @hb; refine q01 (k:=?_); clear hF)
          exact Fin.all rfl rfl rfl
   ·rw [zmw h1 h2 fun j hj => hp j (by omega)]
    (have hF := True.intro; refine q01 (k:=?_); clear hF)
    exact Fin.all rfl rfl rfl
theorem qqa (s : ByteArray) : Ev (En Tryz.prog rfl).P 137 [.str s] (.ret (.bool (q6z s))) := by
 refine Ev.of_body it_k137 (by simp) (Run.start ?_)
 unfold t_k137 q6z
 (have hF := True.intro; refine q01 (k:=?_); clear hF)
 refine q00 [.str s] (he := ev_k158 s) (k:=?_)
 (have hF := True.intro; refine q01 (k:=?_); clear hF)
 exact Fin.tmp' rfl rfl
theorem ev_k184 (s : ByteArray) (i : Nat) (hi : i < s.size) (hs : s.size ≤ 1000000) : Ev (En Tryz.prog rfl).P 184 [.str s, .int .i64 (i : Int)] (.ret (.bool (q5h s i))) := by
 refine Ev.of_body it_k184 (by simp) (Run.start ?_)
 unfold t_k184 q5h
 obtain ⟨b, hb, hbe⟩ := q83 hi
 rw [hbe]
 have c1 := ev_k193 (b.toNat : Int)
 have c2 := ev_k194 (b.toNat : Int)
 have c3 := zm1 (b.toNat : Int)
 generalize qq2 (b.toNat : Int) = v1 at c1 ⊢
 generalize qq3 (b.toNat : Int) = v2 at c2 ⊢
 generalize zl4 (b.toNat : Int) = v3 at c3 ⊢
 (have hF := @hb; refine q01 (k:=?_); clear hF)
 refine q00 [.int .u8 (b.toNat : Int)] (he := c1) (k:=?_)
 cases v1
 case' true =>
  (have hF := @hb; refine q01 (k:=?_); clear hF)
  exact Fin.tmp' rfl rfl
 case' false =>
  (have hF := @hb; refine q01 (k:=?_); clear hF)
  refine q00 [.int .u8 (b.toNat : Int)] (he := c2) (k:=?_)
  cases v2
  case' true =>
   (have hF := @hb; refine q01 (k:=?_); clear hF)
   exact Fin.tmp' rfl rfl
  case' false =>
   (have hF := @hb; refine q01 (k:=?_); clear hF)
   refine q00 [.int .u8 (b.toNat : Int)] (he := c3) (k:=?_)
   cases v3
   case' false =>
    (have hF := @hb; refine q01 (k:=?_); clear hF)
    exact Fin.tmp' rfl rfl
   case' true =>
    by_cases i0 : i = 0
    ·subst i0
     (have hF := @hb; refine q01 (k:=?_); clear hF)
     exact Fin.tmp' rfl rfl
    ·by_cases i1 : i = s.size - 1
     ·have e : (false || false || (true && (!decide (i = 0) && (!decide (i = s.size - 1) && !zl4 (qe1 s (i - 1)))))) = false := by simp [i1]
      rw [e]
      (have hF := @hb; refine q01 (k:=?_); clear hF)
      all_goals first | exact Fin.tmp' rfl rfl | (exfalso; omega)
     ·obtain ⟨c, hc, hce⟩ := q83 (s := s) (i := i - 1) (by omega)
      have c4 := zm1 (c.toNat : Int)
      have hpw : IntKind.i64.wrap ((i : Int) - 1) = ((i - 1 : Nat) : Int) := by rw [q2i (by omega)]; omega
      rw [hce]
      generalize zl4 (c.toNat : Int) = v4 at c4 ⊢
      have e : (false || false || (true && (!decide (i = 0) && (!decide (i = s.size - 1) && !v4)))) = !v4 := by simp [i0, i1]
      rw [e]
      have i1' : ¬ (i : Int) = (s.size : Int) - 1 := by omega
      (have hF := (aI (aI @hb @i1') (aI @hpw @hc)); refine q01 (k:=?_); clear hF)
      refine q00 [.int .u8 (c.toNat : Int)] (he := c4) (k:=?_)
      (have hF := @hb; refine q01 (k:=?_); clear hF)
      exact Fin.tmp' rfl rfl
theorem ev_k165 (s : ByteArray) : Ev (En Tryz.prog rfl).P 165 [.str s] (.ret (.tup [.int .i64 (qos s).1, .int .i64 (qos s).2])) := by
 refine Ev.of_body it_k165 (by simp) (Run.start ?_)
 unfold t_k165
 by_cases h1 : s.size = 0
 ·have : qos s = (0, 20) := by unfold qos; rw [if_pos h1]
  rw [this]
  have h1' : ((s.size : Int) = 0) = True := eq_true (by omega)
  (have hF := @h1'; refine q01 (k:=?_); clear hF)
  exact Fin.all rfl rfl rfl
 ·by_cases h2 : 24 < s.size
  ·have : qos s = (0, 21) := by unfold qos; rw [if_neg h1, if_pos h2]
   rw [this]
   (have hF := True.intro; refine q01 (k:=?_); clear hF)
   exact Fin.all rfl rfl rfl
  ·(have hF := True.intro; refine q01 (k:=?_); clear hF)
   refine Run.while (σ := Nat) (fun i => ⟨tms [(0, .str s), (4, .int .i64 (i : Int))], mms []⟩) (fun i => i ≤ s.size ∧ ∀ j, j < i → q5h s j = true) (fun i => s.size - i) 0 (have hW := True.intro; q0g) ⟨Nat.zero_le _, fun j hj => absurd hj (Nat.not_lt_zero _)⟩ ?_
   rintro i ⟨hi, hp⟩
   unfold qi1
   by_cases hlt : i < s.size
   ·have hok : q5h s i = true → ∀ j, j < i + 1 → q5h s j = true := fun h j hj => by
     by_cases e : j = i
     ·rw [e]; exact h
     ·exact hp j (by omega)
    have hbad := z7z h1 h2 hlt hp
    have c1 := ev_k184 s i hlt (by omega)
    generalize q5h s i = v at c1 hok hbad
    (have hF := True.intro; refine q01 (k:=?_); clear hF)
    refine q00 [.str s, .int .i64 (i : Int)] (he := c1) (k:=?_)
    cases v
    ·rw [hbad rfl]
     (have hF := True.intro; refine q01 (k:=?_); clear hF)
     exact Fin.all rfl rfl rfl
    ·have hn := hok rfl
     (have hF := True.intro; refine q01 (k:=?_); clear hF)
     (refine Fin.nextW (i + 1) ?_ (have hW := True.intro; q0g); (try dsimp only))
     exact ⟨⟨hlt, hn⟩, by omega⟩
   ·rw [zmw h1 h2 fun j hj => hp j (by omega)]
    (have hF := True.intro; refine q01 (k:=?_); clear hF)
    exact Fin.all rfl rfl rfl
theorem zm5 (s : ByteArray) : Ev (En Tryz.prog rfl).P 146 [.str s] (.ret (.bool (q6z s))) := by
 refine Ev.of_body it_k146 (by simp) (Run.start ?_)
 unfold t_k146 q6z
 (have hF := True.intro; refine q01 (k:=?_); clear hF)
 refine q00 [.str s] (he := ev_k165 s) (k:=?_)
 (have hF := True.intro; refine q01 (k:=?_); clear hF)
 exact Fin.tmp' rfl rfl

def bs (s : ByteArray) : List Int := s.data.toList.map fun b => (b.toNat : Int)
def q7k (a b : ByteArray) : Int := q5e (bs a) (bs b)
theorem qav : ∀ a b : List UInt8, Go.Lib.compareBytes a b = q5e (a.map fun b => (b.toNat : Int)) (b.map fun b => (b.toNat : Int))
 | [], [] => rfl
 | [], _ :: _ => rfl
 | _ :: _, [] => rfl
 | x :: a, y :: b => by
  have ih := qav a b
  unfold Go.Lib.compareBytes
  simp only [List.map_cons]
  unfold q5e
  rw [ih]
  by_cases h1 : x < y
  ·have h2 : ((x.toNat : Int) < (y.toNat : Int)) := by have := UInt8.lt_iff_toNat_lt.1 h1; omega
   rw [if_pos h1, if_pos h2]
  ·have h2 : ¬ ((x.toNat : Int) < (y.toNat : Int)) := fun h => h1 (UInt8.lt_iff_toNat_lt.2 (by omega))
   rw [if_neg h1, if_neg h2]
   by_cases h3 : y < x
   ·have h4 : ((y.toNat : Int) < (x.toNat : Int)) := by have := UInt8.lt_iff_toNat_lt.1 h3; omega
    rw [if_pos h3, if_pos h4]
   ·have h4 : ¬ ((y.toNat : Int) < (x.toNat : Int)) := fun h => h3 (UInt8.lt_iff_toNat_lt.2 (by omega))
    rw [if_neg h3, if_neg h4]
theorem z7b : ∀ a b : List UInt8, Op.bytesLess a b = decide (q5e (a.map fun b => (b.toNat : Int)) (b.map fun b => (b.toNat : Int)) < 0)
 | [], [] => rfl
 | [], _ :: _ => rfl
 | _ :: _, [] => rfl
 | x :: a, y :: b => by
  have ih := z7b a b
  unfold Op.bytesLess
  simp only [List.map_cons]
  unfold q5e
  rw [ih]
  by_cases h1 : x < y
  ·have h2 : ((x.toNat : Int) < (y.toNat : Int)) := by have := UInt8.lt_iff_toNat_lt.1 h1; omega
   rw [if_pos h2]
   simp [h1]
  ·have h2 : ¬ ((x.toNat : Int) < (y.toNat : Int)) := fun h => h1 (UInt8.lt_iff_toNat_lt.2 (by omega))
   rw [if_neg h2]
   by_cases h3 : y < x
   ·have h4 : ((y.toNat : Int) < (x.toNat : Int)) := by have := UInt8.lt_iff_toNat_lt.1 h3; omega
    have h5 : ¬ x = y := fun e => by rw [e] at h4; omega
    rw [if_pos h4]
    simp [h1, h5]
   ·have h4 : ¬ ((y.toNat : Int) < (x.toNat : Int)) := fun h => h3 (UInt8.lt_iff_toNat_lt.2 (by omega))
    have h5 : x = y := UInt8.toNat_inj.1 (by omega)
    rw [if_neg h4]
    subst h5
    simp [h1]
theorem qbv (s : ByteArray) : s.toList = s.data.toList := by
 have := ByteArray.toList_eq (bs := s)
 exact this
theorem qoq (a b : ByteArray) : Op.bytesLess a.toList b.toList = decide (q7k a b < 0) := by
 rw [qbv, qbv, z7b]
 rfl
theorem bs_inj {a b : ByteArray} (h : bs a = bs b) : a = b := by
 have : ∀ l m : List UInt8, l.map (fun b => (b.toNat : Int)) = m.map (fun b => (b.toNat : Int)) → l = m := by
  intro l
  induction l with
  | nil => intro m h; cases m with | nil => rfl | cons y m => simp at h
  | cons x l ih =>
   intro m h
   cases m with
   | nil => simp at h
   | cons y m =>
    simp only [List.map_cons, List.cons.injEq] at h
    rw [ih m h.2, show x = y from UInt8.toNat_inj.1 (by omega)]
 cases a with
 | mk da => cases b with
  | mk db =>
   have := this _ _ h
   congr 1
   exact Array.toList_inj.1 this
theorem q4g {a b : ByteArray} : q7k a b = 0 ↔ a = b := ⟨fun h => bs_inj (qpx h), fun h => by rw [h]; exact qd1 _⟩
structure Ent where
 rep : Int
 num : Int
 sku : ByteArray
 qty : Int
structure Rec where
 sku : ByteArray
 past : Pst
def qb1 (e : Ent) : AVal := .agg [.int .i64 e.rep, .int .i64 e.num, .str e.sku, .int .i64 e.qty]
def q3p (r : Rec) : AVal := .agg [.str r.sku, .sl 1 (q05 r.past.vec), .sl 3 (q0d r.past.cloud)]
def q0b (l : List Ent) : List AVal := l.map qb1
def q09 (l : List Rec) : List AVal := l.map q3p
theorem qhb (e : Ent) : (qb1 e).stb = true := rfl
theorem qha (r : Rec) : (q3p r).stb = true := by simp [q3p, AVal.stb, q0k, q03, q04]
theorem q07 (l : List Ent) : q0k (q0b l) = true := q46 qhb
theorem q02 (l : List Rec) : q0k (q09 l) = true := q46 qha
theorem qpa : (∀ e, (qb1 e).stb = true) ∧ (∀ r, (q3p r).stb = true) ∧ (∀ l, q0k (q0b l) = true) ∧ (∀ l, q0k (q09 l) = true) := ⟨qhb, qha, q07, q02⟩
theorem q0n (l : List Ent) : (q0b l).length = l.length := by simp [q0b]
theorem q0h (l : List Rec) : (q09 l).length = l.length := by simp [q09]
theorem q0w {l : List Ent} {i : Nat} {e : Ent} (h : l[i]? = some e) : (q0b l)[i]? = some (.agg [.int .i64 e.rep, .int .i64 e.num, .str e.sku, .int .i64 e.qty]) := by simp [q0b, h, qb1]
theorem q0o {l : List Rec} {i : Nat} {r : Rec} (h : l[i]? = some r) : (q09 l)[i]? = some (.agg [.str r.sku, .sl 1 (q05 r.past.vec), .sl 3 (q0d r.past.cloud)]) := by simp [q09, h, q3p]
theorem q12 (l : List Ent) (a b : Int) (s : ByteArray) (q : Int) : q0b l ++ [.agg [.int .i64 a, .int .i64 b, .str s, .int .i64 q]] = q0b (l ++ [⟨a, b, s, q⟩]) := by simp [q0b, qb1]
theorem q2h (l : List Rec) (s : ByteArray) (v : List Int) (c : List Sn) : q09 l ++ [.agg [.str s, .sl 1 (q05 v), .sl 3 (q0d c)]] = q09 (l ++ [⟨s, ⟨v, c⟩⟩]) := by simp [q09, q3p]
def q34 (a b : Rn) : Bool := decide (a.1 < b.1) || (decide (a.1 = b.1) && decide (a.2 < b.2))
def Ent.dot (e : Ent) : Rn := (e.rep, e.num)
def q21 (e : Ent) : Int := if e.rep < 0 ∨ 16 ≤ e.rep then 3 else if e.num < 1 ∨ 1000000000 < e.num then 2 else if q6z e.sku = false then 5 else if e.qty < 1 ∨ 1000000 < e.qty then 6 else 0
def q71 (l : List Ent) : Prop := (∀ (i : Nat) e, l[i]? = some e → q21 e = 0) ∧ ∀ (i : Nat) a b, l[i]? = some a → l[i + 1]? = some b → q34 a.dot b.dot = true
open Classical in
noncomputable def q70 (l : List Ent) : Bool := decide (q71 l)
theorem q4o {l : List Ent} (h : q71 l) : q70 l = true := by classical exact decide_eq_true h
theorem q6q {l : List Ent} (h : ¬ q71 l) : q70 l = false := by classical exact decide_eq_false h
theorem qdg {l : List Ent} : q70 l = true ↔ q71 l := by classical exact decide_eq_true_iff
def q31 (a b : Rec) : Int := if q7k a.sku b.sku = 0 then zao a.past b.past else q7k a.sku b.sku
def q2z (r : Rec) : Int := if ¬ r.sku.size = 0 ∧ q6z r.sku = false then 5 else if q1j r.past = false ∨ q3e r.past = 0 then 1 else 0
def q3g (l : List Rec) : Prop := (∀ (i : Nat) r, l[i]? = some r → q2z r = 0) ∧ ∀ (i : Nat) a b, l[i]? = some a → l[i + 1]? = some b → q31 a b < 0
open Classical in
noncomputable def q3f (l : List Rec) : Bool := decide (q3g l)
theorem q2g {l : List Rec} (h : q3g l) : q3f l = true := by classical exact decide_eq_true h
theorem q53 {l : List Rec} (h : ¬ q3g l) : q3f l = false := by classical exact decide_eq_false h
theorem q7d {l : List Rec} : q3f l = true ↔ q3g l := by classical exact decide_eq_true_iff
def wtK (r : Rec) : Nat := wt r.past + 1
def q5d (l : List Rec) : Nat := (l.map wtK).sum
theorem qek {l : List Rec} {r : Rec} (h : r ∈ l) : wtK r ≤ q5d l := by
 unfold q5d
 obtain ⟨i, hi, rfl⟩ := List.getElem_of_mem h
 have := zb5 (l.map wtK) i
 simpa [List.getD_eq_getElem?_getD, hi] using this
theorem q6f (l : List Rec) : l.length ≤ q5d l := by
 induction l with
 | nil => exact Nat.zero_le _
 | cons r l ih =>
  unfold q5d at *
  simp only [List.map_cons, List.sum_cons, List.length_cons, wtK]
  omega

section
open Go.Proofs Go.Shelf Go.RowKit Go.Lib Go.Sort
theorem zmq (a b : ByteArray) : q7k b a = - q7k a b := qgq _ _
theorem cmpP_neg (p q : Pst) : zao q p = - zao p q := qgq _ _
theorem q4l (a b : Rec) : q31 b a = - q31 a b := by
 unfold q31
 rw [zmq a.sku b.sku, cmpP_neg a.past b.past]
 by_cases h : q7k a.sku b.sku = 0
 ·rw [if_pos (by omega), if_pos h]
 ·rw [if_neg (by omega), if_neg h]
theorem qds (a : Rec) : q31 a a = 0 := by
 unfold q31
 rw [if_pos (q4g.2 rfl)]
 exact q9n.2 rfl
theorem qqn {a b c : Rec} (h1 : q31 a b ≤ 0) (h2 : q31 b c ≤ 0) : q31 a c ≤ 0 := by
 have s1 : q7k a.sku b.sku ≤ 0 := by
  unfold q31 at h1
  split at h1
  ·omega
  ·exact h1
 have s2 : q7k b.sku c.sku ≤ 0 := by
  unfold q31 at h2
  split at h2
  ·omega
  ·exact h2
 have s3 : q7k a.sku c.sku ≤ 0 := qa5 s1 s2
 by_cases h : q7k a.sku c.sku = 0
 ·have e := q4g.1 h
  have s4 : q7k a.sku b.sku = 0 := by
   have := zmq b.sku c.sku
   rw [← e] at this s2
   omega
  have s5 : q7k b.sku c.sku = 0 := by rw [← q4g.1 s4]; exact h
  unfold q31 at h1 h2 ⊢
  rw [if_pos s4] at h1
  rw [if_pos s5] at h2
  rw [if_pos h]
  exact qa5 h1 h2
 ·unfold q31
  rw [if_neg h]
  exact s3
theorem q8q {a b c : Rec} (h1 : q31 a b < 0) (h2 : q31 b c < 0) : q31 a c < 0 := by
 have h3 := qqn (a := a) (b := b) (c := c) (by omega) (by omega)
 rcases Int.lt_or_eq_of_le h3 with h | h
 ·exact h
 ·have h4 := qqn (a := b) (b := c) (c := a) (by omega) (by have := q4l a c; omega)
  have := q4l a b
  omega
theorem cmpR_SWO : SWO (ltOf q31) := by
 refine ⟨fun x => ?_, fun x y z h1 h2 => ?_, fun x y z h1 h2 => ?_⟩
 ·unfold ltOf
  rw [qds]
  rfl
 ·unfold ltOf at *
  simp only [decide_eq_true_eq] at *
  exact q8q h1 h2
 ·unfold ltOf at *
  simp only [decide_eq_false_iff_not] at *
  have := qqn (a := z) (b := y) (c := x) (by have := q4l y z; omega) (by have := q4l x y; omega)
  have := q4l x z
  omega
def q72 (r : Rec) : Prop := q16 r.past = r.past
theorem qdt {a b : Rec} (ha : q72 a) (hb : q72 b) (h : q31 a b = 0) : a = b := by
 unfold q31 at h
 split at h
 ·rename_i hs
  have e1 := q4g.1 hs
  have e2 := q9n.1 h
  unfold q72 at ha hb
  rw [ha, hb] at e2
  cases a; cases b
  simp only at e1 e2
  rw [e1, e2]
 ·rename_i hs
  exact absurd h hs
def SrtR (l : List Rec) : Prop := l.Pairwise fun a b => q31 a b < 0
theorem SrtR.ext : ∀ {l m : List Rec}, SrtR l → SrtR m → (∀ x, x ∈ l ↔ x ∈ m) → l = m
 | [], [], _, _, _ => rfl
 | [], y :: m, _, _, h => absurd ((h y).2 (by simp)) (by simp)
 | x :: l, [], _, _, h => absurd ((h x).1 (by simp)) (by simp)
 | x :: l, y :: m, hl, hm, h => by
  unfold SrtR at hl hm
  rw [List.pairwise_cons] at hl hm
  have irr : ∀ a : Rec, ¬ q31 a a < 0 := fun a => by rw [qds]; omega
  have e : x = y := by
   rcases List.mem_cons.1 ((h x).1 (by simp)) with e | e
   ·exact e
   ·rcases List.mem_cons.1 ((h y).2 (by simp)) with e' | e'
    ·exact e'.symm
    ·have h1 := hm.1 x e
     have h2 := hl.1 y e'
     exact absurd (q8q h1 h2) (irr _)
  subst e
  have : l = m := by
   refine SrtR.ext hl.2 hm.2 fun z => ⟨fun hz => ?_, fun hz => ?_⟩
   ·rcases List.mem_cons.1 ((h z).1 (by simp [hz])) with e | e
    ·subst e; exact absurd (hl.1 z hz) (irr z)
    ·exact e
   ·rcases List.mem_cons.1 ((h z).2 (by simp [hz])) with e | e
    ·subst e; exact absurd (hm.1 z hz) (irr z)
    ·exact e
  rw [this]
def z7f (x : Rec) : List Rec → List Rec
 | [] => [x]
 | y :: l => if q31 x y < 0 then x :: y :: l else if q31 x y = 0 then y :: l else y :: z7f x l
def q8b : List Rec → List Rec
 | [] => []
 | x :: l => z7f x (q8b l)
theorem qgs {x : Rec} : ∀ {l : List Rec} {z : Rec}, z ∈ z7f x l → z = x ∨ z ∈ l
 | [], z, h => by simp only [z7f, List.mem_singleton] at h; exact .inl h
 | y :: l, z, h => by
  unfold z7f at h
  split at h
  ·simpa using h
  ·split at h
   ·exact .inr h
   ·rcases List.mem_cons.1 h with h | h
    ·exact .inr (by simp [h])
    ·rcases qgs h with h | h
     ·exact .inl h
     ·exact .inr (by simp [h])
theorem qq4 {x : Rec} (hx : q72 x) : ∀ {l : List Rec}, (∀ y ∈ l, q72 y) → ∀ z, (z = x ∨ z ∈ l) → z ∈ z7f x l
 | [], _, z, h => by
  rcases h with h | h
  ·simp [z7f, h]
  ·cases h
 | y :: l, hl, z, h => by
  unfold z7f
  split
  ·rcases h with h | h
   ·simp [h]
   ·exact List.mem_cons_of_mem _ h
  ·split
   ·rename_i h0
    rcases h with h | h
    ·rw [h, qdt hx (hl y (by simp)) h0]; simp
    ·exact h
   ·rcases h with h | h
    ·exact List.mem_cons_of_mem _ (qq4 hx (fun y hy => hl y (by simp [hy])) z (.inl h))
    ·rcases List.mem_cons.1 h with h | h
     ·simp [h]
     ·exact List.mem_cons_of_mem _ (qq4 hx (fun y hy => hl y (by simp [hy])) z (.inr h))
theorem z7e {x : Rec} : ∀ {l : List Rec}, SrtR l → SrtR (z7f x l)
 | [], _ => by simp [z7f, SrtR]
 | y :: l, h => by
  unfold SrtR at h
  rw [List.pairwise_cons] at h
  unfold z7f
  split
  ·rename_i hxy
   unfold SrtR
   rw [List.pairwise_cons, List.pairwise_cons]
   refine ⟨fun z hz => ?_, h⟩
   rcases List.mem_cons.1 hz with e | e
   ·rw [e]; exact hxy
   ·exact q8q hxy (h.1 z e)
  ·split
   ·unfold SrtR
    rw [List.pairwise_cons]
    exact h
   ·rename_i h1 h2
    unfold SrtR
    rw [List.pairwise_cons]
    refine ⟨fun z hz => ?_, z7e h.2⟩
    rcases qgs hz with e | e
    ·rw [e]; have := q4l x y; omega
    ·exact h.1 z e
theorem q97 : ∀ l : List Rec, SrtR (q8b l)
 | [] => List.Pairwise.nil
 | x :: l => z7e (q97 l)
theorem q7o : ∀ {l : List Rec} {z : Rec}, z ∈ q8b l → z ∈ l
 | [], z, h => by cases h
 | x :: l, z, h => by
  rcases qgs h with h | h
  ·simp [h]
  ·exact List.mem_cons_of_mem _ (q7o h)
theorem zk9 : ∀ {l : List Rec}, (∀ y ∈ l, q72 y) → ∀ z, z ∈ l → z ∈ q8b l
 | [], _, z, h => by cases h
 | x :: l, hl, z, h => by
  refine qq4 (hl x (by simp)) (fun y hy => hl y (List.mem_cons_of_mem _ (q7o hy))) z ?_
  rcases List.mem_cons.1 h with h | h
  ·exact .inl h
  ·exact .inr (zk9 (fun y hy => hl y (by simp [hy])) z h)
theorem qgf {l : List Rec} (hl : ∀ y ∈ l, q72 y) (z : Rec) : z ∈ q8b l ↔ z ∈ l := ⟨q7o, zk9 hl z⟩
theorem qcs {l m : List Rec} (hl : ∀ y ∈ l, q72 y) (hm : SrtR m) (h : ∀ x, x ∈ m ↔ x ∈ l) : m = q8b l :=
 hm.ext (q97 l) fun x => by rw [h x, qgf hl]
def cpt (l : List Rec) : Nat → List Rec
 | 0 => []
 | n + 1 => cpt l n ++ match l[n]? with
  | none => []
  | some x => if n = 0 then [x] else match l[n - 1]? with
   | none => []
   | some y => if q31 x y = 0 then [] else [x]
theorem qbh {l : List Rec} {n : Nat} {x y : Rec} (hn : 0 < n) (hx : l[n]? = some x) (hy : l[n - 1]? = some y) : cpt l (n + 1) = cpt l n ++ if q31 x y = 0 then [] else [x] := by
 conv => lhs; unfold cpt
 rw [hx]
 simp only
 rw [if_neg (by omega), hy]
theorem zmo {l : List Rec} {x : Rec} (hx : l[0]? = some x) : cpt l 1 = [x] := by
 simp [cpt, hx]
theorem qbi {l : List Rec} : ∀ {n : Nat}, n ≤ l.length → (∀ (j : Nat) x y, j + 1 < n → l[j]? = some y → l[j + 1]? = some x → q31 x y ≠ 0) → cpt l n = l.take n
 | 0, _, _ => by simp [cpt]
 | n + 1, hn, h => by
  have ih := qbi (l := l) (n := n) (by omega) fun j x y hj => h j x y (by omega)
  obtain ⟨x, hx⟩ : ∃ x, l[n]? = some x := ⟨l[n], by simp [show n < l.length by omega]⟩
  rcases Nat.eq_zero_or_pos n with h0 | h0
  ·subst h0
   rw [zmo hx, List.take_add_one, hx]
   simp
  ·obtain ⟨y, hy⟩ : ∃ y, l[n - 1]? = some y := ⟨l[n - 1], by simp [show n - 1 < l.length by omega]⟩
   rw [qbh h0 hx hy, ih, if_neg (h (n - 1) x y (by omega) hy (by rw [show n - 1 + 1 = n by omega]; exact hx)), List.take_add_one, hx]
   rfl
theorem z7x {l : List Rec} (hs : l.Pairwise fun a b => q31 a b ≤ 0) (hc : ∀ y ∈ l, q72 y) : ∀ {n : Nat}, n ≤ l.length → SrtR (cpt l n) ∧ (∀ x, x ∈ cpt l n ↔ x ∈ l.take n) ∧ (∀ x, l[n - 1]? = some x → 0 < n → ∀ z ∈ cpt l n, z = x ∨ q31 z x < 0)
 | 0, _ => ⟨List.Pairwise.nil, fun x => by simp [cpt], fun x _ h => by omega⟩
 | n + 1, hn => by
  obtain ⟨i1, i2, i3⟩ := z7x hs hc (n := n) (by omega)
  obtain ⟨x, hx⟩ : ∃ x, l[n]? = some x := ⟨l[n], by simp [show n < l.length by omega]⟩
  have hxl := List.mem_of_getElem? hx
  rcases Nat.eq_zero_or_pos n with h0 | h0
  ·subst h0
   rw [zmo hx]
   refine ⟨by simp [SrtR], fun z => by rw [List.take_add_one, hx]; simp, fun z hz _ w hw => ?_⟩
   simp only [Nat.add_sub_cancel] at hz
   rw [hx] at hz
   cases hz
   exact .inl (by simpa using hw)
  ·obtain ⟨y, hy⟩ : ∃ y, l[n - 1]? = some y := ⟨l[n - 1], by simp [show n - 1 < l.length by omega]⟩
   have hyl := List.mem_of_getElem? hy
   have hle : q31 y x ≤ 0 := by
    rw [List.pairwise_iff_getElem] at hs
    have := hs (n - 1) n (by omega) (by omega) (by omega)
    have e1 : l[n - 1] = y := by rw [List.getElem?_eq_getElem (by omega)] at hy; exact Option.some.inj hy
    have e2 : l[n] = x := by rw [List.getElem?_eq_getElem (by omega)] at hx; exact Option.some.inj hx
    rw [e1, e2] at this
    exact this
   rw [qbh h0 hx hy]
   have hn := q4l x y
   have i3' := i3 y hy h0
   by_cases hz : q31 x y = 0
   ·rw [if_pos hz, List.append_nil]
    have e := qdt (hc x hxl) (hc y hyl) hz
    subst e
    refine ⟨i1, fun z => ?_, fun z hz' _ w hw => ?_⟩
    ·rw [i2 z, List.take_add_one, hx]
     simp only [Option.toList_some, List.mem_append, List.mem_singleton]
     refine ⟨fun h => .inl h, fun h => h.elim id fun e => ?_⟩
     subst e
     exact List.mem_of_getElem? (i := n - 1) (by rw [List.getElem?_take, if_pos (by omega)]; exact hy)
    ·simp only [Nat.add_sub_cancel] at hz'
     rw [hx] at hz'
     cases hz'
     exact i3' w hw
   ·rw [if_neg hz]
    have hlt : q31 y x < 0 := by omega
    have hall : ∀ w ∈ cpt l n, q31 w x < 0 := fun w hw => by
     rcases i3' w hw with e | e
     ·rw [e]; exact hlt
     ·exact q8q e hlt
    refine ⟨?_, fun z => ?_, fun z hz' _ w hw => ?_⟩
    ·unfold SrtR
     rw [List.pairwise_append]
     exact ⟨i1, by simp, fun a ha b hb => by rw [List.mem_singleton.1 hb]; exact hall a ha⟩
    ·rw [List.take_add_one, hx]
     simp only [Option.toList_some, List.mem_append, List.mem_singleton, i2 z]
    ·simp only [Nat.add_sub_cancel] at hz'
     rw [hx] at hz'
     cases hz'
     rcases List.mem_append.1 hw with h | h
     ·exact .inr (hall w h)
     ·exact .inl (List.mem_singleton.1 h)
theorem cpt_ord {l s : List Rec} (hp : s.Perm l) (hs : s.Pairwise fun a b => q31 a b ≤ 0) (hc : ∀ y ∈ l, q72 y) : cpt s s.length = q8b l := by
 have hc' : ∀ y ∈ s, q72 y := fun y hy => hc y (hp.mem_iff.1 hy)
 obtain ⟨h1, h2, _⟩ := z7x hs hc' (Nat.le_refl s.length)
 refine qcs hc h1 fun x => ?_
 rw [h2 x, List.take_length]
 exact hp.mem_iff
end
def qa3 : List Rec → List Rec → List Rec
 | [], b => b
 | x :: a, [] => x :: a
 | x :: a, y :: b => if q31 x y < 0 then x :: qa3 a (y :: b) else if q31 x y = 0 then x :: qa3 a b else y :: qa3 (x :: a) b
 termination_by a b => a.length + b.length
theorem q99 (b : List Rec) : qa3 [] b = b := by rw [qa3]
theorem q98 (a : List Rec) : qa3 a [] = a := by cases a <;> rw [qa3]
theorem q6l : ∀ (a b : List Rec), (∀ y ∈ a, q72 y) → (∀ y ∈ b, q72 y) → ∀ z, z ∈ qa3 a b ↔ z ∈ a ∨ z ∈ b
 | [], b, _, _, z => by rw [q99]; simp
 | x :: a, [], _, _, z => by rw [q98]; simp
 | x :: a, y :: b, ha, hb, z => by
  have ha' : ∀ y ∈ a, q72 y := fun w hw => ha w (by simp [hw])
  have hb' : ∀ y ∈ b, q72 y := fun w hw => hb w (by simp [hw])
  rw [qa3]
  split
  ·rw [List.mem_cons, q6l a (y :: b) ha' hb z, ← or_assoc, ← List.mem_cons]
  ·split
   ·rename_i h0
    have e := qdt (ha x (by simp)) (hb y (by simp)) h0
    subst e
    rw [List.mem_cons, q6l a b ha' hb' z, List.mem_cons, List.mem_cons]
    constructor
    ·rintro (h | h | h)
     ·exact .inl (.inl h)
     ·exact .inl (.inr h)
     ·exact .inr (.inr h)
    ·rintro ((h | h) | (h | h))
     ·exact .inl h
     ·exact .inr (.inl h)
     ·exact .inl h
     ·exact .inr (.inr h)
   ·rw [List.mem_cons, q6l (x :: a) b ha hb' z, List.mem_cons (a := z) (b := y)]
    constructor
    ·rintro (h | h | h)
     ·exact .inr (.inl h)
     ·exact .inl h
     ·exact .inr (.inr h)
    ·rintro (h | h | h)
     ·exact .inr (.inl h)
     ·exact .inl h
     ·exact .inr (.inr h)
 termination_by a b => a.length + b.length
theorem qbc : ∀ (a b : List Rec), SrtR a → SrtR b → (∀ y ∈ a, q72 y) → (∀ y ∈ b, q72 y) → SrtR (qa3 a b)
 | [], b, _, h, _, _ => by rw [q99]; exact h
 | x :: a, [], h, _, _, _ => by rw [q98]; exact h
 | x :: a, y :: b, h1, h2, ha, hb => by
  have ha' : ∀ y ∈ a, q72 y := fun w hw => ha w (by simp [hw])
  have hb' : ∀ y ∈ b, q72 y := fun w hw => hb w (by simp [hw])
  have k1 := h1
  have k2 := h2
  unfold SrtR at k1 k2
  rw [List.pairwise_cons] at k1 k2
  rw [qa3]
  split
  ·rename_i hxy
   unfold SrtR
   rw [List.pairwise_cons]
   refine ⟨fun z hz => ?_, qbc a (y :: b) k1.2 h2 ha' hb⟩
   rcases (q6l a (y :: b) ha' hb z).1 hz with h | h
   ·exact k1.1 z h
   ·rcases List.mem_cons.1 h with h | h
    ·rw [h]; exact hxy
    ·exact q8q hxy (k2.1 z h)
  ·split
   ·rename_i h0
    have e := qdt (ha x (by simp)) (hb y (by simp)) h0
    subst e
    unfold SrtR
    rw [List.pairwise_cons]
    refine ⟨fun z hz => ?_, qbc a b k1.2 k2.2 ha' hb'⟩
    rcases (q6l a b ha' hb' z).1 hz with h | h
    ·exact k1.1 z h
    ·exact k2.1 z h
   ·rename_i n1 n2
    have hyx : q31 y x < 0 := by have := q4l x y; omega
    unfold SrtR
    rw [List.pairwise_cons]
    refine ⟨fun z hz => ?_, qbc (x :: a) b h1 k2.2 ha hb'⟩
    rcases (q6l (x :: a) b ha hb' z).1 hz with h | h
    ·rcases List.mem_cons.1 h with h | h
     ·rw [h]; exact hyx
     ·exact q8q hyx (k1.1 z h)
    ·exact k2.1 z h
 termination_by a b => a.length + b.length
theorem mrgR_ord {l a b : List Rec} (hl : ∀ y ∈ l, q72 y) (h : ∀ x, x ∈ l ↔ x ∈ a ∨ x ∈ b) : qa3 (q8b a) (q8b b) = q8b l := by
 have ha : ∀ y ∈ a, q72 y := fun y hy => hl y ((h y).2 (.inl hy))
 have hb : ∀ y ∈ b, q72 y := fun y hy => hl y ((h y).2 (.inr hy))
 have ha' : ∀ y ∈ q8b a, q72 y := fun y hy => ha y (q7o hy)
 have hb' : ∀ y ∈ q8b b, q72 y := fun y hy => hb y (q7o hy)
 refine qcs hl (qbc _ _ (q97 a) (q97 b) ha' hb') fun x => ?_
 rw [q6l _ _ ha' hb', qgf ha, qgf hb, h x]
theorem zkp {a b : List Rec} {i j : Nat} {x y : Rec} (hx : a[i]? = some x) (hy : b[j]? = some y) : qa3 (a.drop i) (b.drop j) = if q31 x y < 0 then x :: qa3 (a.drop (i + 1)) (b.drop j) else if q31 x y = 0 then x :: qa3 (a.drop (i + 1)) (b.drop (j + 1)) else y :: qa3 (a.drop i) (b.drop (j + 1)) := by
 have e1 : a.drop i = x :: a.drop (i + 1) := by
  rw [List.getElem?_eq_some_iff] at hx
  obtain ⟨h, rfl⟩ := hx
  exact List.drop_eq_getElem_cons h
 have e2 : b.drop j = y :: b.drop (j + 1) := by
  rw [List.getElem?_eq_some_iff] at hy
  obtain ⟨h, rfl⟩ := hy
  exact List.drop_eq_getElem_cons h
 conv => lhs; rw [e1, e2, qa3, ← e1, ← e2]

def NewQ (t : Tmp) (cs : List AVal) : Ex → AS → Prop
 | .ret, s => ∃ k, s.T t = .ptr k 0 ∧ s.M k = some (.cells cs) ∧ q0k cs = true
 | _, _ => False
theorem qc9 {P : Program} {fn : Func} {t : Tmp} (hrs : fn.results.toList = [.tmp t]) (tm : Array Value) (w : World) : (results fn tm).run P w = .ok (tm.getD t undef) w := by
 have hm : (fn.results.mapM (fun r => match r with | .tmp t => pure (tm.getD t undef) | .cell c t => do loadVar t (← asAddr (tm.getD c undef)) : ResultVar → Sem Value)).run P w = .ok #[tm.getD t undef] w := by
  rw [Array.mapM_eq_mapM_toList, hrs]
  simp only [Sem.run_map, List.mapM_cons, List.mapM_nil, Sem.run_bind, Sem.run_pure, Result.andThen]
 unfold results
 simp only [Sem.run_bind]
 refine Eq.trans (congrArg (fun r => Result.andThen r _) hm) ?_
 simp [Result.andThen]
theorem EvNew.of_body {E : Env} {f : FuncId} {n : Nat} {t : Tmp} {sc : SC} (hf : FnIs E.P f n [.tmp t] sc) {args cs : List AVal} (hl : args.length ≤ n)
 (h : AW E n sc (NewQ t cs) ⟨q85 args, NoM⟩) : EvNew E.P f args cs := by
 obtain ⟨fn, c, h1, h2, h3, rfl, hrs, h6⟩ := hf
 refine ⟨⟨fn, h1, h2, by simp [h3]⟩, fun B w vs G hG hsz hv hB => ?_⟩
 refine calls_of_wp h1 h3 ?_
 have hR : Rel fn.ntmps B G ⟨q85 args, NoM⟩ { tmps := vs ++ Array.replicate (fn.ntmps - vs.size) undef, defers := [] } w := by
  refine ⟨by simp; omega, rfl, fun t => ?_, fun k blk hk => by simp [NoM] at hk, fun b hb => ⟨hB b hb, hG b⟩, fun b hb => absurd (hG b) hb⟩
  simp only [q85]
  cases ht : args[t]? with
  | none => exact .undef _
  | some x =>
   have hlt : t < vs.size := by
    rw [hsz]
    rcases Nat.lt_or_ge t args.length with h' | h'
    ·exact h'
    ·rw [List.getElem?_eq_none h'] at ht; cases ht
   have : (vs ++ Array.replicate (fn.ntmps - vs.size) undef).getD t undef = vs[t] := by
    rw [Array.getD_eq_getD_getElem?, Array.getElem?_append_left hlt]
    simp [hlt]
   simp only [Option.getD_some, this]
   exact hv t x _ ht (by simp [hlt])
 refine h c h6 B G _ w hR _ fun e s a' w' G' hA hR' hq => ?_
 cases e with
 | normal => exact hq.elim
 | exit id => exact hq.elim
 | pan x => exact hq.elim
 | ret =>
  obtain ⟨k, q1, q2, q3⟩ := hq
  have hx := hR'.temps t
  rw [q1] at hx
  have e1 : a'.tmps.getD t undef = .pointer (some ⟨G'.β k, 0, none⟩) := by
   generalize a'.tmps.getD t undef = tv at hx
   cases hx
   rfl
  obtain ⟨cc, el, b1, b2, b3, b4, b5⟩ := hR'.mem k _ q2
  let G2 : Gh := { G' with ow := fun b => if b = G'.β k then G'.ow b else none }
  have g2 : ∀ b, G'.ow b = none → G2.ow b = none := fun b hb => by simp only [G2]; split <;> first | exact hb | rfl
  have hge : w.heap.size ≤ G'.β k := by
   rcases Nat.lt_or_ge (G'.β k) w.heap.size with h' | h'
   ·have := (hA.keep _ h' (hG _)).2
    rw [b1] at this
    cases this
   ·exact h'
  refine ⟨hR'.defers, _, qc9 hrs a'.tmps w', G2, G'.β k, cc, el, hge, hR'.ol _ (by rw [b1]; simp), by simp only [G2, if_true]; rw [b1]; simp,
   ⟨hA.os, hA.tape, hA.output, hA.size, fun b hb ho => ⟨(hA.keep b hb ho).1, g2 b (hA.keep b hb ho).2⟩⟩, by rw [e1], b3, b4, fun i x hx => ?_⟩
  obtain ⟨u, hu, hcr⟩ := b5 i x hx
  have hst : x.stb = true := q3s q3 hx
  refine ⟨u, hu, ?_⟩
  have hvr : VR (Dm s.M) G' B w' x u := by
   cases x <;> first | exact hcr | (simp [AVal.stb] at hst; done)
  exact hvr.stable (fun b _ hn ho => ⟨rfl, hn, g2 b ho⟩) hst

def FrQ (t : Tmp) (sz : Nat) (xs : List AVal) : Ex → AS → Prop
 | .ret, s => ∃ k e, s.T t = .os k e ∧ s.M k = some (.arr e sz xs) ∧ q0k xs = true
 | _, _ => False
theorem EvFresh.of_body {E : Env} {f : FuncId} {n : Nat} {t : Tmp} {sc : SC} (hf : FnIs E.P f n [.tmp t] sc) {args xs : List AVal} {sz : Nat} (hl : args.length ≤ n)
 (h : AW E n sc (FrQ t sz xs) ⟨q85 args, NoM⟩) : EvFresh E.P f args sz xs := by
 obtain ⟨fn, c, h1, h2, h3, rfl, hrs, h6⟩ := hf
 refine ⟨⟨fn, h1, h2, by simp [h3]⟩, fun B w vs G hG hsz hv hB => ?_⟩
 refine calls_of_wp h1 h3 ?_
 have hR : Rel fn.ntmps B G ⟨q85 args, NoM⟩ { tmps := vs ++ Array.replicate (fn.ntmps - vs.size) undef, defers := [] } w := by
  refine ⟨by simp; omega, rfl, fun t => ?_, fun k blk hk => by simp [NoM] at hk, fun b hb => ⟨hB b hb, hG b⟩, fun b hb => absurd (hG b) hb⟩
  simp only [q85]
  cases ht : args[t]? with
  | none => exact .undef _
  | some x =>
   have hlt : t < vs.size := by
    rw [hsz]
    rcases Nat.lt_or_ge t args.length with h' | h'
    ·exact h'
    ·rw [List.getElem?_eq_none h'] at ht; cases ht
   have : (vs ++ Array.replicate (fn.ntmps - vs.size) undef).getD t undef = vs[t] := by
    rw [Array.getD_eq_getD_getElem?, Array.getElem?_append_left hlt]
    simp [hlt]
   simp only [Option.getD_some, this]
   exact hv t x _ ht (by simp [hlt])
 refine h c h6 B G _ w hR _ fun e s a' w' G' hA hR' hq => ?_
 cases e with
 | normal => exact hq.elim
 | exit id => exact hq.elim
 | pan x => exact hq.elim
 | ret =>
  obtain ⟨k, e, q1, q2, q3⟩ := hq
  have hx := hR'.temps t
  rw [q1] at hx
  have e1 : a'.tmps.getD t undef = G'.hd k e := by generalize a'.tmps.getD t undef = q at hx; cases hx with | os _ _ _ v hv => exact hv
  have hb : OwnAt (Dm s.M) G' B w' (.arr k) sz xs (G'.hd k e) := hR'.mem k _ q2
  let G2 : Gh := { G' with ow := fun b => if G'.ow b = some (.arr k) then some (.arr k) else none }
  have g2 : ∀ b, G'.ow b = none → G2.ow b = none := fun b hb => by simp [G2, hb]
  refine ⟨hR'.defers, _, qc9 hrs a'.tmps w', G2, G'.hd k e, .arr k, by rw [e1], ⟨hA.os, hA.tape, hA.output, hA.size, fun b hb ho => ⟨(hA.keep b hb ho).1, g2 b (hA.keep b hb ho).2⟩⟩, fun b hb' => hR'.ol b fun hn => hb' (g2 b hn), ?_⟩
  exact hb.trade (fun b hb ho => ⟨hb, by simp [G2, ho]⟩) fun x hx u hr => hr.stable (fun b _ hn ho => ⟨rfl, hn, g2 b ho⟩) (q4b q3 x hx)
theorem z9f {P : Program} {s : AS} {x : Operand} {args : Array Operand} {ts : Array TypeId} {f : FuncId} {caps l xs : List AVal} {sz : Nat} (k : Nat) (hf : ev s.T x = .fn f caps)
 (hl : (evs s.T args.toList ++ caps).map (fz (fun _ => false) s.M) = l) (hst : q0k l = true) (he : EvFresh P f l sz xs) (hk : s.M k = none) :
 Hook P s (.call ⟨.value x, args, ts⟩) (fun v M' => v = .os k 0 ∧ M' = upd s.M k (some (.arr 0 sz xs))) := by
 intro n B G a w h o ho K Q hK
 subst hl
 obtain ⟨fn, hfn, hnm, hbd⟩ := he.1.ok
 have hx := h.ev x
 rw [hf] at hx
 generalize hxv : a.eval x = xv at hx
 cases hx with
 | fn _ _ vs hl hh =>
  have hrun : (execOp a.eval o).run P w = .ok (.enter f (args.map a.eval ++ vs)) w := by
   unfold execOp
   rw [ho]
   have h1 : (fn.name = "runtime.NumGoroutine") = False := by simpa using hnm
   have h2 : (fn.body = none) = False := by simp only [eq_iff_iff, iff_false]; intro hn; rw [hn] at hbd; simp at hbd
   simp [resolve, hxv, Deferred.ofValue, invoke, callFunc, hfn, h1, h2]
  unfold Oper.wp
  rw [hrun]
  simp only [Oper.upon]
  obtain ⟨q1, q2⟩ := qam h args
  refine qax h (args := evs s.T args.toList ++ caps) (by simp [q1, hl]) (fun i y u hy hu => ?_) hst he hk (fun v' w' G' hA hR hV => hK _ v' _ w' G' ⟨rfl, rfl⟩ hA hR hV)
  rcases Nat.lt_or_ge i (evs s.T args.toList).length with hlt | hge
  ·rw [List.getElem?_append_left hlt] at hy
   rw [Array.getElem?_append_left (by rw [q1]; exact hlt)] at hu
   obtain ⟨u', hu', hr'⟩ := q2 i y hy
   rw [hu] at hu'
   exact (Option.some.inj hu') ▸ hr'
  ·rw [List.getElem?_append_right hge] at hy
   rw [Array.getElem?_append_right (by rw [q1]; exact hge), q1] at hu
   exact hh _ y u hy hu
theorem zl8 {P : Program} {TE : TyE} (hT : q40 P TE) {s : AS} {t el : TypeId} {i ei : TyI} {x y : Operand} {k e sz : Nat} {xs : List AVal} {kk : IntKind} {m : Nat} (hx : ev s.T x = .os k e) (hk : s.M k = some (.arr e sz xs)) (hy : ev s.T y = .int kk (m : Int))
 (hm : m ≤ xs.length) (ht : TE t = some i) (htd : i.td = .slice el) (he : TE el = some ei) (hei : ei.size = sz) :
 Hook P s (.slice t x none (some y) none) (fun v M' => v = .os k (e + 1) ∧ M' = upd s.M k (some (.arr (e + 1) sz (xs.take m)))) := by
 intro n B G a w h o ho K Q hK
 have qx := h.ev x
 have qy := h.ev y
 rw [hx] at qx
 rw [hy] at qy
 generalize hxv : a.eval x = xv at qx
 generalize hyv : a.eval y = yv at qy
 have hO : OVR (Dm s.M) G B w (some (.int kk (m : Int))) (some yv) := qy
 have hO0 : OVR (Dm s.M) G B w none none := trivial
 have hb1 : q28 none 0 = some 0 := rfl
 have hb2 : ∀ d, q28 (some (.int kk (m : Int))) d = some m := fun d => by simp [q28]
 have fin : ∀ (v' : Value) (G' : Gh), (Instr.sliceAt t xv none (some yv) none).run P w = .ok v' w → Adv G w G' w → Rel n B G' ⟨s.T, upd s.M k (some (.arr (e + 1) sz (xs.take m)))⟩ a w → v' = G'.hd k (e + 1) → o.wp P a w K Q := by
  intro v' G' hrun hA hR hv
  have : (execOp a.eval o).run P w = .ok (.value v') w := by
   unfold execOp
   rw [ho]
   simp [hxv, hyv, hrun]
  unfold Oper.wp
  rw [this]
  exact hK (.os k (e + 1)) v' _ w G' ⟨rfl, rfl⟩ hA hR (.os k (e + 1) (by simp [Dm, q0a]) v' hv)
 cases qx with
 | os _ _ hD _ hvv =>
  have hown := h.mem k _ hk
  simp only [BlkRel] at hown
  rcases hown with ⟨hn, rfl⟩ | ⟨b, o', cap, c, el', q1, q2, q3, q4, q5, q6, q7, q7', q8⟩
  ·obtain rfl : m = 0 := by simpa using hm
   have := q2d (P := P) hO0 hO (isS := true) (len := 0) (cap := 0) hb1 (hb2 0) (Nat.le_refl _) (Nat.le_refl _)
   obtain ⟨G', hA, hR, hh⟩ := h.nil_arr (k := k) (e := e + 1) (.inr ⟨e, sz, _, hk, rfl⟩) sz
   refine fin (.slice none 0 0) G' ?_ hA (by simpa using hR) hh.symm
   rw [hvv, hn, q0x hT ht htd he this]
   simp
  ·have := q2d (P := P) hO0 hO (isS := true) (len := xs.length) (cap := cap) hb1 (hb2 _) (Nat.zero_le _) (by omega)
   have hself : w.setRow b c = w := setRow_self w b c el' (0, 0) q5
   obtain ⟨G', hA, hR, hh⟩ := h.set_arr hk q1 (e + 1) o' (.inl rfl) (xs.take m) (fun h => by omega) cap (by simp; omega) (fun h => by omega) q5 q3 c q6
    (fun z hz => q7 z (List.mem_of_mem_take hz)) (fun z hz => by rw [q66 q7] at hz; exact q7' z (List.mem_of_mem_take hz)) (fun i x hx => by
     rw [q66 q7, List.getElem?_take] at hx
     split at hx
     ·exact q8 i x hx
     ·cases hx)
   rw [hself] at hA hR
   refine fin _ G' ?_ hA hR hh.symm
   rw [hvv, q1, q0x hT ht htd he this, List.length_take, Nat.min_eq_left hm]
   by_cases hc : cap = 0
   ·simp [hc]
   ·rw [if_neg hc]
    simp [q3c]
theorem qg2 {P : Program} {t1 t2 e ty : TypeId} {ik : IntKind} {nm : Bool} (hu : P.underlying t1 = some (.slice e)) (hu2 : P.underlying t2 = some (.int ik)) {inf : TypeInfo} (hi : P.info? e = some inf) {z : Value} (hz : inf.zero = some z) {w : World} {m : Nat} (h0 : 0 < m) (hsz : 0 < inf.size)
 (hm : m ≤ 1000000000) (hfit : m * inf.bytes ≤ 281474976710656) :
 (Builtin.append_ #[t1, t2] ty #[.slice none 0 0, .int .i64 (m : Int)]).run P w =
  .ok (.slice (some ⟨w.heap.size, 0, none⟩) m (grownCap w m 0 e)) (w.drew.alloc (.cells (Builtin.zeroCells z.cells m ++ Builtin.zeroCells z.cells (grownCap w m 0 e - m)) e)) := by
 have hw : IntKind.i64.wrap (m : Int) = (m : Int) := q8g (by omega) (by omega)
 have hne : ¬ (m * inf.size = 0) := by
  intro h
  rcases Nat.mul_eq_zero.1 h with h | h <;> omega
 have hnx : Builtin.nextslicecap m 0 = m := by
  unfold Builtin.nextslicecap
  rw [if_pos (by omega)]
 have h48b : ¬ ((m : Int) * (inf.bytes : Int) > 281474976710656) := by
  have h1 : (m : Int) * (inf.bytes : Int) = ((m * inf.bytes : Nat) : Int) := (Int.natCast_mul m inf.bytes).symm
  rw [h1]
  omega
 have h48 : ¬ ((m : Int) * (inf.bytes : Int) > 2 ^ 48) := by
  rw [show (2 : Int) ^ 48 = 281474976710656 by decide]
  exact h48b
 have hmax : IntKind.i64.max = 9223372036854775807 := by decide
 have h63 : ¬ ((m : Int) > IntKind.i64.max) := by rw [hmax]; omega
 have h49 : ¬ (281474976710656 < m * inf.bytes) := by omega
 simp [Builtin.append_, run_underlying hu, run_underlying hu2, sizeOf, typeInfo, zeroValue, hi, hz, asInt, asIntOf, hw, hne, hnx, h48, h48b, h63, h49, Question.forced, Builtin.firstCells, newRow, grownCap]
 rw [if_neg (by omega), if_neg (by omega), if_neg (by omega)]
theorem z9e {P : Program} {TE : TyE} (hT : q40 P TE) {s : AS} {t1 t2 el : TypeId} {i1 i2 ei : TyI} {ik : IntKind} {x y : Operand} {m : Nat} (d : Nat) (hx : ev s.T x = .nil) (hy : ev s.T y = .int .i64 (m : Int)) (h0 : 0 < m) (hm : m ≤ 1000000000)
 (ht1 : TE t1 = some i1) (hd1 : i1.td = .slice el) (ht2 : TE t2 = some i2) (hd2 : i2.td = .int ik) (he : TE el = some ei) (hok : ei.okElem = true) (hb : m * ei.bytes ≤ 281474976710656) (hd : s.M d = none) :
 Hook P s (.call ⟨.builtin .append, #[x, y], #[t1, t2]⟩) (fun v M' => v = .os d 0 ∧ M' = upd s.M d (some (.arr 0 ei.size (List.replicate m ei.zeroElem)))) := by
 intro n B G a w h o ho K Q hK
 have qx := h.ev x
 have qy := h.ev y
 rw [hx] at qx
 rw [hy] at qy
 generalize hxv : a.eval x = xv at qx
 generalize hyv : a.eval y = yv at qy
 cases qx
 cases qy
 obtain ⟨o1, o2, o3, o4⟩ := q6k hT he hok
 obtain ⟨dd, inf, q1, q2, q3, q4, q5, q6, q7⟩ := hT el ei he
 have hu := q23 hT ht1 hd1
 have hu2 : P.underlying t2 = some (.int ik) := by
  obtain ⟨d2, inf2, r1, r2, _⟩ := hT t2 i2 ht2
  rw [hd2] at r2
  cases d2 <;> simp [TD.of] at r2
  subst r2
  exact r1
 have hrun := qg2 (P := P) (ty := o.type) (nm := true) hu hu2 q3 q6 (w := w) h0 (by rw [q4]; exact o1) hm (by rw [q5]; exact hb)
 have hzl : ei.zeroElem.cells.length = ei.size := by rw [o2, o3]
 have hzs : ∀ x ∈ List.replicate m ei.zeroElem, x.cells.length = ei.size := fun x hx => by rw [List.eq_of_mem_replicate hx]; exact hzl
 have hcap : m ≤ grownCap w m 0 el := grownCap_ge _ _ _ _
 have hz1 : (Builtin.zeroCells ei.zero.cells m).size = m * ei.size := by rw [size_zeroCells, q7]
 have hz2 : (Builtin.zeroCells ei.zero.cells (grownCap w m 0 el - m)).size = (grownCap w m 0 el - m) * ei.size := by rw [size_zeroCells, q7]
 have hfz : (flat (List.replicate m ei.zeroElem)).length = m * ei.size := by rw [q0q hzs]; simp
 have hzr : ∀ (j : Nat) (x : AVal), (flat (List.replicate m ei.zeroElem))[j]? = some x → ∃ u, (Builtin.zeroCells ei.zero.cells m)[j]? = some u ∧ VR (Dm s.M) G B (w.drew) x u := by
  have := qb5 hT he (D := Dm s.M) (G := G) (B := B) (w := w.drew) o2 o1 m m (Nat.le_refl _)
  unfold Builtin.zeroCells
  rw [show m * ei.zero.cells.size = m * ei.size by rw [q7]]
  exact this
 obtain ⟨G', hA, hR, hh⟩ := (h.drawn (w.drawn + 1)).new_arr (k := d) (e := 0) (.inl hd) ei.size (grownCap w m 0 el) (List.replicate m ei.zeroElem) (Builtin.zeroCells ei.zero.cells m ++ Builtin.zeroCells ei.zero.cells (grownCap w m 0 el - m)) el
  (by simpa using hcap) (by rw [Array.size_append, hz1, hz2, ← Nat.add_mul]; exact Nat.mul_le_mul_right _ (by omega)) hzs
  (fun x hx => by
   obtain ⟨y, hy, hx⟩ := List.mem_flatMap.1 hx
   rw [List.eq_of_mem_replicate hy, o2] at hx
   exact o4 x hx)
  (fun i x hx => by
   obtain ⟨u, hu, hr⟩ := hzr i x hx
   have hlt : i < (Builtin.zeroCells ei.zero.cells m).size := by
    rcases Nat.lt_or_ge i (Builtin.zeroCells ei.zero.cells m).size with h' | h'
    ·exact h'
    ·rw [Array.getElem?_eq_none h'] at hu; cases hu
   exact ⟨u, by rw [Array.getElem?_append_left hlt]; exact hu, hr⟩)
 have hex : (execOp a.eval o).run P w = .ok (.value (.slice (some ⟨w.heap.size, 0, none⟩) m (grownCap w m 0 el))) (w.drew.alloc (.cells (Builtin.zeroCells ei.zero.cells m ++ Builtin.zeroCells ei.zero.cells (grownCap w m 0 el - m)) el)) := by
  have he : execOp a.eval o = builtin .append #[t1, t2] o.type (#[x, y].map fun | .const _ => true | _ => false) (#[x, y].map a.eval) := by
   unfold execOp
   rw [ho]
   rfl
  have hq : #[x, y].map a.eval = #[.slice none 0 0, .int .i64 (m : Int)] := by simp [hxv, hyv]
  have hb2 : builtin .append #[t1, t2] o.type (#[x, y].map fun | .const _ => true | _ => false) #[.slice none 0 0, .int .i64 (m : Int)] = (do pure (.value (← Builtin.append_ #[t1, t2] o.type #[.slice none 0 0, .int .i64 (m : Int)]))) := rfl
  rw [he, hq, hb2]
  simp [hrun]
 unfold Oper.wp
 rw [hex]
 refine hK (.os d 0) _ _ _ G' ⟨rfl, rfl⟩ ((Adv.drawn G w _).trans hA) hR (.os d 0 (by simp [Dm, q0a]) _ ?_)
 rw [hh, List.length_replicate]
theorem qda {P : Program} {TE : TyE} (hT : q40 P TE) {s : AS} {t el : TypeId} {i : TyI} {x : Operand} (hx : ev s.T x = .nil) (ht : TE t = some i) (hd : i.td = .slice el) :
 Hook P s (.call ⟨.builtin .cap, #[x], #[t]⟩) (fun v M' => v = .int .i64 0 ∧ M' = s.M) := by
 intro n B G a w h o ho K Q hK
 have qx := h.ev x
 rw [hx] at qx
 generalize hxv : a.eval x = xv at qx
 cases qx
 have hu := q23 hT ht hd
 have hex : (execOp a.eval o).run P w = .ok (.value (.int .i64 0)) w := by
  have he : execOp a.eval o = builtin .cap #[t] o.type (#[x].map fun | .const _ => true | _ => false) (#[x].map a.eval) := by
   unfold execOp
   rw [ho]
   rfl
  have hq : #[x].map a.eval = #[.slice none 0 0] := by simp [hxv]
  have hb2 : builtin .cap #[t] o.type (#[x].map fun | .const _ => true | _ => false) #[.slice none 0 0] = (do pure (.value (← Builtin.cap_ #[t] o.type #[.slice none 0 0]))) := rfl
  rw [he, hq, hb2]
  simp [Builtin.cap_, run_underlying hu, goInt]
 unfold Oper.wp
 rw [hex]
 exact hK (.int .i64 0) _ s.M w G ⟨rfl, rfl⟩ (.refl G w) h (.int _ _)

def odd (n : Nat) : Bool := decide (n % 2 = 1)
theorem zkl (n : Nat) : odd n = true ↔ n % 2 = 1 := by simp [odd]
theorem odd_succ (n : Nat) : odd (n + 1) = !odd n := by
 unfold odd
 rcases Nat.mod_two_eq_zero_or_one n with h | h
 ·have : (n + 1) % 2 = 1 := by omega
  simp [h, this]
 ·have : (n + 1) % 2 = 0 := by omega
  simp [h, this]
structure CbI (a b : List Int) (f : Bool → Bool → Bool) (i j : Nat) (v : Bool) (t : List Int) : Prop where
 hi : i ≤ a.length
 hj : j ≤ b.length
 sa : ∀ x ∈ t, ∀ y ∈ a.drop i, x < y
 sb : ∀ x ∈ t, ∀ y ∈ b.drop j, x < y
 ab : ∀ x ∈ a.take i, ∀ y ∈ b.drop j, x < y
 ba : ∀ x ∈ b.take j, ∀ y ∈ a.drop i, x < y
 rise : t.Pairwise (fun x y => x < y)
 val : v = f (odd i) (odd j)
 len : odd t.length = v
 le : t.length ≤ i + j
 mem : ∀ m, odd (cnt t m) = f (odd (cnt (a.take i) m)) (odd (cnt (b.take j) m))
theorem CbI.start {a b : List Int} {f : Bool → Bool → Bool} (hf : f false false = false) : CbI a b f 0 0 false [] := by
 refine ⟨Nat.zero_le _, Nat.zero_le _, by simp, by simp, by simp, by simp, .nil, by simp [odd, hf], rfl, Nat.le_refl _, fun m => ?_⟩
 simp [q6s, odd, hf]
theorem CbI.step {a b : List Int} {f : Bool → Bool → Bool} (hra : a.Pairwise (fun x y => x < y)) (hrb : b.Pairwise (fun x y => x < y)) {i j : Nat} {v : Bool} {t : List Int} (h : CbI a b f i j v t) {x : Int} {i' j' : Nat}
 (ha : (i' = i + 1 ∧ a[i]? = some x) ∨ (i' = i ∧ ∀ y ∈ a.drop i, x < y)) (hb : (j' = j + 1 ∧ b[j]? = some x) ∨ (j' = j ∧ ∀ y ∈ b.drop j, x < y)) (hx : i' = i + 1 ∨ j' = j + 1) :
 CbI a b f i' j' (f (odd i') (odd j')) (if f (odd i') (odd j') = v then t else t ++ [x]) := by
 have key : ∀ (l : List Int) (k k' : Nat), l.Pairwise (fun x y => x < y) → k ≤ l.length → ((k' = k + 1 ∧ l[k]? = some x) ∨ (k' = k ∧ ∀ y ∈ l.drop k, x < y)) →
  k' ≤ l.length ∧ (∀ y ∈ l.drop k', x < y) ∧ (∀ y ∈ l.take k', y ∈ l.take k ∨ y = x) ∧ (∀ y ∈ l.drop k', y ∈ l.drop k) ∧ (∀ m, m < x → cnt (l.take k') m = cnt (l.take k) m) ∧ (l.take k').length = k' := by
  intro l k k' hr hk hc
  rcases hc with ⟨rfl, hg⟩ | ⟨rfl, hg⟩
  ·obtain ⟨hlt, he⟩ := List.getElem?_eq_some_iff.1 hg
   have hd : l.drop k = x :: l.drop (k + 1) := by rw [List.drop_eq_getElem_cons hlt, he]
   have ht : l.take (k + 1) = l.take k ++ [x] := by rw [List.take_add_one, hg]; rfl
   have hp : (x :: l.drop (k + 1)).Pairwise (fun x y => x < y) := by rw [← hd]; exact hr.drop
   refine ⟨hlt, fun y hy => (List.pairwise_cons.1 hp).1 y hy, fun y hy => ?_, fun y hy => by rw [hd]; exact List.mem_cons_of_mem _ hy, fun m hm => ?_, by rw [List.length_take]; omega⟩
   ·rw [ht] at hy
    simpa using hy
   ·rw [ht, q7y, q22, if_neg (by omega), q6s]; rfl
  ·exact ⟨hk, hg, fun y hy => .inl hy, fun y hy => hy, fun _ _ => rfl, by rw [List.length_take]; omega⟩
 obtain ⟨a1, a2, a3, a4, a5, a6⟩ := key a i i' hra h.hi ha
 obtain ⟨b1, b2, b3, b4, b5, b6⟩ := key b j j' hrb h.hj hb
 have hxin : (x ∈ a.drop i) ∨ (x ∈ b.drop j) := by
  rcases hx with e | e
  ·rcases ha with ⟨_, hg⟩ | ⟨e2, _⟩
   ·obtain ⟨hlt, he⟩ := List.getElem?_eq_some_iff.1 hg
    exact .inl (by rw [List.drop_eq_getElem_cons hlt, he]; exact List.mem_cons_self)
   ·omega
  ·rcases hb with ⟨_, hg⟩ | ⟨e2, _⟩
   ·obtain ⟨hlt, he⟩ := List.getElem?_eq_some_iff.1 hg
    exact .inr (by rw [List.drop_eq_getElem_cons hlt, he]; exact List.mem_cons_self)
   ·omega
 have tx : ∀ y ∈ t, y < x := fun y hy => by
  rcases hxin with e | e
  ·exact h.sa y hy x e
  ·exact h.sb y hy x e
 have ax : ∀ y ∈ a.take i, y < x := fun y hy => by
  rcases hxin with e | e
  ·have h1 := hra
   rw [← List.take_append_drop i a, List.pairwise_append] at h1
   exact h1.2.2 y hy x e
  ·exact h.ab y hy x e
 have bx : ∀ y ∈ b.take j, y < x := fun y hy => by
  rcases hxin with e | e
  ·exact h.ba y hy x e
  ·have h1 := hrb
   rw [← List.take_append_drop j b, List.pairwise_append] at h1
   exact h1.2.2 y hy x e
 have ax' : ∀ y ∈ a.take i', y ≤ x := fun y hy => by
  rcases a3 y hy with e | e
  ·have := ax y e; omega
  ·omega
 have bx' : ∀ y ∈ b.take j', y ≤ x := fun y hy => by
  rcases b3 y hy with e | e
  ·have := bx y e; omega
  ·omega
 have tx' : ∀ y ∈ (if f (odd i') (odd j') = v then t else t ++ [x]), y ≤ x := fun y hy => by
  split at hy
  ·have := tx y hy; omega
  ·rcases List.mem_append.1 hy with e | e
   ·have := tx y e; omega
   ·simp at e; omega
 have hlen : odd (if f (odd i') (odd j') = v then t else t ++ [x]).length = f (odd i') (odd j') := by
  by_cases e : f (odd i') (odd j') = v
  ·rw [if_pos e, h.len, e]
  ·rw [if_neg e, List.length_append]
   show odd (t.length + 1) = _
   rw [odd_succ, h.len]
   revert e
   cases v <;> cases f (odd i') (odd j') <;> simp
 refine ⟨a1, b1, fun y hy z hz => ?_, fun y hy z hz => ?_, fun y hy z hz => ?_, fun y hy z hz => ?_, ?_, rfl, hlen, ?_, fun m => ?_⟩
 ·have := tx' y hy; have := a2 z hz; omega
 ·have := tx' y hy; have := b2 z hz; omega
 ·have := ax' y hy; have := b2 z hz; omega
 ·have := bx' y hy; have := a2 z hz; omega
 ·split
  ·exact h.rise
  ·exact qco h.rise tx
 ·have h1 := h.le
  have h2 : i + j + 1 ≤ i' + j' := by omega
  split
  ·omega
  ·simp only [List.length_append, List.length_cons, List.length_nil]; omega
 ·rcases Int.lt_or_le m x with hm | hm
  ·rw [a5 m hm, b5 m hm, ← h.mem m]
   congr 1
   split
   ·rfl
   ·rw [q7y, q22, if_neg (by omega), q6s]; rfl
  ·rw [qdr (fun y hy => Int.le_trans (ax' y hy) hm), qdr (fun y hy => Int.le_trans (bx' y hy) hm), qdr (fun y hy => Int.le_trans (tx' y hy) hm), a6, b6, hlen]
theorem CbI.done {a b : List Int} {f : Bool → Bool → Bool} {v : Bool} {t : List Int} (h : CbI a b f a.length b.length v t) (hf : f false false = false) {p q : Int → Prop} (ha : Turns p a) (hb : Turns q b) (r : Int → Prop)
 (hr : ∀ m, r m ↔ f (odd (cnt a m)) (odd (cnt b m)) = true) : Turns r t := by
 refine ⟨h.rise, ?_, fun m => ?_⟩
 ·have h1 := h.val
  have e1 : odd a.length = false := by have := ha.even; simp [odd]; omega
  have e2 : odd b.length = false := by have := hb.even; simp [odd]; omega
  rw [e1, e2, hf] at h1
  have := h.len
  rw [h1] at this
  simp [odd] at this
  omega
 ·rw [hr, ← zkl, h.mem m, List.take_length, List.take_length]

def qwd : List SOp := [⟨some 6,.assign (.const (.slice none 0 0)),none⟩]
instance : Live qwd := ⟨[0,1,2]⟩
def qwc : List SOp := [⟨some 7,.assign (.const (.slice none 0 0)),none⟩]
instance : Live qwc := ⟨[0,1,2]⟩
def qwb : List SOp := [⟨some 8,.assign (.const (.int .i64 0)),none⟩,⟨some 9,.assign (.const (.int .i64 0)),none⟩]
instance : Live qwb := ⟨[0,1,2,7]⟩
def qwa : List SOp := [⟨some 10,.assign (.const (.bool false)),none⟩]
instance : Live qwa := ⟨[0,1,2,7,8,9]⟩
def qga : List SOp := [⟨some 15,.move (.tmp 8),none⟩,⟨some 16,.move (.tmp 0),none⟩,⟨some 17,.call ⟨.builtin .len,#[.tmp 16],#[23]⟩,none⟩,⟨some 18,.binOp .lss 3 (.tmp 15) (.tmp 17) 3,none⟩,⟨some 19,.move (.tmp 18),none⟩,⟨some 20,.move (.tmp 9),some ((some 19),false)⟩,⟨some 21,.move (.tmp 1),some ((some 19),false)⟩,⟨some 22,.call ⟨.builtin .len,#[.tmp 21],#[23]⟩,some ((some 19),false)⟩,⟨some 23,.binOp .lss 3 (.tmp 20) (.tmp 22) 3,some ((some 19),false)⟩,⟨some 24,.pick (.tmp 19) (.const (.bool true)) (.tmp 23),none⟩]
instance : Live qga := ⟨[0,1,2,7,8,9,10]⟩
def qg9 : List SOp := [⟨some 11,.assign (.const (.int .i64 0)),none⟩]
instance : Live qg9 := ⟨[0,1,2,7,8,9,10]⟩
def qg8 : List SOp := [⟨some 25,.move (.tmp 9),none⟩,⟨some 26,.move (.tmp 1),none⟩,⟨some 27,.call ⟨.builtin .len,#[.tmp 26],#[23]⟩,none⟩,⟨some 28,.binOp .eql 3 (.tmp 25) (.tmp 27) 3,none⟩,⟨some 29,.move (.tmp 28),none⟩,⟨some 30,.move (.tmp 8),some ((some 29),false)⟩,⟨some 31,.move (.tmp 0),some ((some 29),false)⟩,⟨some 32,.call ⟨.builtin .len,#[.tmp 31],#[23]⟩,some ((some 29),false)⟩,⟨some 33,.binOp .lss 3 (.tmp 30) (.tmp 32) 3,some ((some 29),false)⟩,⟨some 34,.move (.tmp 33),some ((some 29),false)⟩,⟨some 35,.move (.tmp 0),some ((some 34),true)⟩,⟨some 36,.move (.tmp 8),some ((some 34),true)⟩,⟨some 37,.indexAddr 23 (.tmp 35) (.tmp 36),some ((some 34),true)⟩,⟨some 38,.load 3 (.tmp 37),some ((some 34),true)⟩,⟨some 39,.move (.tmp 1),some ((some 34),true)⟩,⟨some 40,.move (.tmp 9),some ((some 34),true)⟩,⟨some 41,.indexAddr 23 (.tmp 39) (.tmp 40),some ((some 34),true)⟩,⟨some 42,.load 3 (.tmp 41),some ((some 34),true)⟩,⟨some 43,.binOp .lss 3 (.tmp 38) (.tmp 42) 3,some ((some 34),true)⟩,⟨some 44,.pick (.tmp 34) (.tmp 43) (.const (.bool false)),some ((some 29),false)⟩,⟨some 45,.pick (.tmp 29) (.const (.bool true)) (.tmp 44),none⟩]
instance : Live qg8 := ⟨[0,1,2,7,8,9,10]⟩
def qg7 : List SOp := [⟨some 46,.move (.tmp 0),none⟩,⟨some 47,.move (.tmp 8),none⟩,⟨some 48,.indexAddr 23 (.tmp 46) (.tmp 47),none⟩,⟨some 49,.load 3 (.tmp 48),none⟩,⟨some 11,.assign (.tmp 49),none⟩]
instance : Live qg7 := ⟨[0,1,2,7,8,9,10]⟩
def qg6 : List SOp := [⟨some 50,.move (.tmp 1),none⟩,⟨some 51,.move (.tmp 9),none⟩,⟨some 52,.indexAddr 23 (.tmp 50) (.tmp 51),none⟩,⟨some 53,.load 3 (.tmp 52),none⟩,⟨some 11,.assign (.tmp 53),none⟩]
instance : Live qg6 := ⟨[0,1,2,7,8,9,10]⟩
def qci : List SOp := [⟨some 54,.move (.tmp 8),none⟩,⟨some 55,.move (.tmp 0),none⟩,⟨some 56,.call ⟨.builtin .len,#[.tmp 55],#[23]⟩,none⟩,⟨some 57,.binOp .lss 3 (.tmp 54) (.tmp 56) 3,none⟩,⟨some 58,.move (.tmp 57),none⟩,⟨some 59,.move (.tmp 0),some ((some 58),true)⟩,⟨some 60,.move (.tmp 8),some ((some 58),true)⟩,⟨some 61,.indexAddr 23 (.tmp 59) (.tmp 60),some ((some 58),true)⟩,⟨some 62,.load 3 (.tmp 61),some ((some 58),true)⟩,⟨some 63,.move (.tmp 11),some ((some 58),true)⟩,⟨some 64,.binOp .eql 3 (.tmp 62) (.tmp 63) 3,some ((some 58),true)⟩,⟨some 65,.pick (.tmp 58) (.tmp 64) (.const (.bool false)),none⟩]
instance : Live qci := ⟨[0,1,2,7,8,9,10,11]⟩
def qch : List SOp := [⟨some 66,.move (.tmp 8),none⟩,⟨some 67,.binOp .add 3 (.tmp 66) (.const (.int .i64 1)) 3,none⟩,⟨some 8,.assign (.tmp 67),none⟩]
instance : Live qch := ⟨[0,1,2,7,8,9,10,11]⟩
def qcg : List SOp := [⟨some 68,.move (.tmp 9),none⟩,⟨some 69,.move (.tmp 1),none⟩,⟨some 70,.call ⟨.builtin .len,#[.tmp 69],#[23]⟩,none⟩,⟨some 71,.binOp .lss 3 (.tmp 68) (.tmp 70) 3,none⟩,⟨some 72,.move (.tmp 71),none⟩,⟨some 73,.move (.tmp 1),some ((some 72),true)⟩,⟨some 74,.move (.tmp 9),some ((some 72),true)⟩,⟨some 75,.indexAddr 23 (.tmp 73) (.tmp 74),some ((some 72),true)⟩,⟨some 76,.load 3 (.tmp 75),some ((some 72),true)⟩,⟨some 77,.move (.tmp 11),some ((some 72),true)⟩,⟨some 78,.binOp .eql 3 (.tmp 76) (.tmp 77) 3,some ((some 72),true)⟩,⟨some 79,.pick (.tmp 72) (.tmp 78) (.const (.bool false)),none⟩]
instance : Live qcg := ⟨[0,1,2,7,8,9,10,11]⟩
def qcf : List SOp := [⟨some 80,.move (.tmp 9),none⟩,⟨some 81,.binOp .add 3 (.tmp 80) (.const (.int .i64 1)) 3,none⟩,⟨some 9,.assign (.tmp 81),none⟩]
instance : Live qcf := ⟨[0,1,2,7,8,9,10,11]⟩
def qce : List SOp := [⟨some 82,.move (.tmp 8),none⟩,⟨some 83,.binOp .rem 3 (.tmp 82) (.const (.int .i64 2)) 3,none⟩,⟨some 84,.binOp .eql 3 (.tmp 83) (.const (.int .i64 1)) 3,none⟩,⟨some 85,.move (.tmp 9),none⟩,⟨some 86,.binOp .rem 3 (.tmp 85) (.const (.int .i64 2)) 3,none⟩,⟨some 87,.binOp .eql 3 (.tmp 86) (.const (.int .i64 1)) 3,none⟩,⟨some 12,.assign (.tmp 84),none⟩,⟨some 13,.assign (.tmp 87),none⟩]
instance : Live qce := ⟨[0,1,2,7,8,9,10,11]⟩
def qcd : List SOp := [⟨some 88,.move (.tmp 2),none⟩,⟨some 89,.binOp .eql 3 (.tmp 88) (.const (.int .i64 1)) 3,none⟩,⟨some 90,.move (.tmp 89),none⟩,⟨some 91,.move (.tmp 12),some ((some 90),true)⟩,⟨some 92,.pick (.tmp 90) (.tmp 91) (.const (.bool false)),none⟩,⟨some 93,.move (.tmp 92),none⟩,⟨some 94,.move (.tmp 13),some ((some 93),true)⟩,⟨some 95,.pick (.tmp 93) (.tmp 94) (.const (.bool false)),none⟩,⟨some 96,.move (.tmp 95),none⟩,⟨some 97,.move (.tmp 2),some ((some 96),false)⟩,⟨some 98,.binOp .eql 3 (.tmp 97) (.const (.int .i64 2)) 3,some ((some 96),false)⟩,⟨some 99,.move (.tmp 98),some ((some 96),false)⟩,⟨some 100,.move (.tmp 12),some ((some 99),true)⟩,⟨some 101,.pick (.tmp 99) (.tmp 100) (.const (.bool false)),some ((some 96),false)⟩,⟨some 102,.move (.tmp 101),some ((some 96),false)⟩,⟨some 103,.move (.tmp 13),some ((some 102),true)⟩,⟨some 104,.unOp .not 4 (.tmp 103),some ((some 102),true)⟩,⟨some 105,.pick (.tmp 102) (.tmp 104) (.const (.bool false)),some ((some 96),false)⟩,⟨some 106,.pick (.tmp 96) (.const (.bool true)) (.tmp 105),none⟩,⟨some 14,.assign (.tmp 106),none⟩]
instance : Live qcd := ⟨[0,1,2,7,8,9,10,11,12,13]⟩
def qcc : List SOp := [⟨some 107,.move (.tmp 14),none⟩,⟨some 108,.move (.tmp 10),none⟩,⟨some 109,.binOp .neq 4 (.tmp 107) (.tmp 108) 4,none⟩]
instance : Live qcc := ⟨[0,1,2,7,8,9,10,11,14]⟩
def qcb : List SOp := [⟨some 110,.move (.tmp 7),none⟩,⟨some 111,.move (.tmp 11),none⟩,⟨some 112,.buildSlice 23 1 #[(0,.tmp 111)],none⟩,⟨some 113,.call ⟨.builtin .append,#[.tmp 110,.tmp 112],#[23,23]⟩,none⟩,⟨some 7,.assign (.tmp 113),none⟩]
instance : Live qcb := ⟨[0,1,2,7,8,9,11,14]⟩
def qca : List SOp := [⟨some 114,.move (.tmp 14),none⟩,⟨some 10,.assign (.tmp 114),none⟩]
instance : Live qca := ⟨[0,1,2,7,8,9,14]⟩
def qjs : List SOp := [⟨some 115,.move (.tmp 7),none⟩,⟨some 6,.assign (.tmp 115),none⟩]
instance : Live qjs := ⟨[7]⟩
def qi0 : SC :=
 (.seq (.seq (.ops false qga) (.cond (.tmp 24) .skip (.exit 0))) (.block 1 (.seq (.ops false qg9) (.seq (.seq (.ops true qg8) (.cond (.tmp 45) (.ops false qg7) (.ops false qg6))) (.seq (.seq (.ops false qci) (.cond (.tmp 65) (.ops false qch) .skip)) (.seq (.seq (.ops false qcg) (.cond (.tmp 79) (.ops false qcf) .skip)) (.seq (.ops false qce) (.seq (.ops false qcd) (.seq (.ops false qcc) (.cond (.tmp 109) (.seq (.ops false qcb) (.ops false qca)) .skip))))))))))
def t_k166 : SC :=
 (.seq (.ops false qwd) (.seq (.ops false qwc) (.seq (.ops false qwb) (.seq (.ops false qwa) (.seq (.block 0 (.loop qi0)) (.seq (.ops false qjs) .ret))))))
theorem it_k166 : FnIs Tryz.prog 166 116 [.tmp 6] t_k166 := ⟨Tryz.f166, _, Tryz.func166, rfl, rfl, rfl, rfl, by kernel_rfl⟩

def qew : SC := (.seq (.seq (.ops false qcg) (.cond (.tmp 79) (.ops false qcf) .skip)) (.seq (.ops false qce) (.seq (.ops false qcd) (.seq (.ops false qcc) (.cond (.tmp 109) (.seq (.ops false qcb) (.ops false qca)) .skip)))))
def qev : SC := (.seq (.seq (.ops false qci) (.cond (.tmp 65) (.ops false qch) .skip)) qew)
def qeu : SC := (.seq (.seq (.ops true qg8) (.cond (.tmp 45) (.ops false qg7) (.ops false qg6))) qev)
def qoz : SC := (.seq (.seq (.ops false qga) (.cond (.tmp 24) .skip (.exit 0))) (.block 1 (.seq (.ops false qg9) qeu)))
theorem qqm : qi0 = qoz := rfl

structure CbS where
 i : Nat
 j : Nat
 v : Bool
 t : List Int
theorem qr8 (i : Nat) : ((i : Int)).tmod 2 = ((i % 2 : Nat) : Int) := by rw [Int.ofNat_tmod]; rfl
theorem zkm (i : Nat) : decide (((i % 2 : Nat) : Int) = 1) = odd i := by
 unfold odd
 rw [decide_eq_decide]
 omega
theorem zlf {l : List Int} {i : Nat} (h : i < l.length) : l[i]? = some (l.getD i 0) := by simp [h]
theorem qfg {l : List Int} (hr : l.Pairwise (fun x y => x < y)) {i : Nat} {x : Int} (h : i < l.length → x < l.getD i 0) : ∀ y ∈ l.drop i, x < y := by
 intro y hy
 rcases Nat.lt_or_ge i l.length with hi | hi
 ·rw [List.drop_eq_getElem_cons hi] at hy
  have hp := hr.drop (i := i)
  rw [List.drop_eq_getElem_cons hi] at hp
  have e : l.getD i 0 = l[i] := by simp [hi]
  have h1 := h hi
  rw [e] at h1
  rcases List.mem_cons.1 hy with rfl | hy
  ·exact h1
  ·have := (List.pairwise_cons.1 hp).1 y hy
   omega
 ·rw [List.drop_eq_nil_of_le hi] at hy
  cases hy
theorem ev_k166 {a b t : List Int} {p q r : Int → Prop} (ha : Turns p a) (hb : Turns q b) (ht : Turns r t) (hla : a.length ≤ 400000000) (hlb : b.length ≤ 400000000) (rule : Int) (f : Bool → Bool → Bool)
 (hrf : (rule = 1 ∧ f = fun x y => x && y) ∨ (rule = 2 ∧ f = fun x y => x && !y)) (hr : ∀ m, r m ↔ f (odd (cnt a m)) (odd (cnt b m)) = true) :
 Ev (En Tryz.prog rfl).P 166 [.sl 1 (q05 a), .sl 1 (q05 b), .int .i64 rule] (.ret (.sl 1 (q05 t))) := by
 refine Ev.of_body it_k166 (by simp) (Run.start ?_)
 unfold t_k166
 have e1 := q0i a
 have e2 := q0i b
 have hf : f false false = false := by rcases hrf with ⟨_, rfl⟩ | ⟨_, rfl⟩ <;> rfl
 (have hF := (aI @e1 @e2); refine q01 (k:=?_); clear hF)
 refine Run.wk (Wk.own_nil 7 113 1 rfl rfl) ?_
 refine Run.while (σ := CbS) (fun z => ⟨tms [(0, .sl 1 (q05 a)), (1, .sl 1 (q05 b)), (2, .int .i64 rule), (7, .os 113 z.t.length), (8, .int .i64 (z.i : Int)), (9, .int .i64 (z.j : Int)), (10, .bool z.v)], mms [(113, .arr z.t.length 1 (q05 z.t))]⟩)
  (fun z => CbI a b f z.i z.j z.v z.t) (fun z => (a.length - z.i) + (b.length - z.j)) ⟨0, 0, false, []⟩ (have hW := @q03; q0g) (CbI.start hf) ?_
 rintro ⟨i, j, v, u⟩ h
 dsimp only at h ⊢
 have hi := h.hi
 have hj := h.hj
 have hle := h.le
 have e3 := q0i u
 rw [qqm]
 unfold qoz
 refine Run.mid (σ := Unit) (fun _ => ⟨tms [(0, .sl 1 (q05 a)), (1, .sl 1 (q05 b)), (2, .int .i64 rule), (7, .os 113 u.length), (8, .int .i64 (i : Int)), (9, .int .i64 (j : Int)), (10, .bool v)], mms [(113, .arr u.length 1 (q05 u))]⟩) (fun _ => i < a.length ∨ j < b.length) ?_ ?_
 ·(focus (have hF := (aI @e1 (aI @e2 @e3)); (repeat' (first | refine go1 (k:=?_) | with_reducible refine Ny.of ?_ ?_ | (refine Hyp.of ?_; intro hc; (try simp only [hc]); (try simp only [Bh] at hc)))); all_goals clear hF))
  ·(refine Fin.nextW (()) ?_ (have hW := True.intro; q0g); (try dsimp only))
   exact .inl (by omega)
  ·(refine Fin.nextW (()) ?_ (have hW := True.intro; q0g); (try dsimp only))
   exact .inr (by omega)
  ·rw [show i = a.length by omega, show j = b.length by omega] at h
   rw [← (h.done hf ha hb r hr).uniq ht]
   exact qfz (.sl 1 (q05 u))
 intro _ hin
 (have hF := (aI @e1 (aI @e2 @e3)); refine q01 (k:=?_); clear hF)
 unfold qeu
 refine Run.mid (σ := Int) (fun x => ⟨tms [(0, .sl 1 (q05 a)), (1, .sl 1 (q05 b)), (2, .int .i64 rule), (7, .os 113 u.length), (8, .int .i64 (i : Int)), (9, .int .i64 (j : Int)), (10, .bool v), (11, .int .i64 x)], mms [(113, .arr u.length 1 (q05 u))]⟩)
  (fun x => (i < a.length → x ≤ a.getD i 0) ∧ (j < b.length → x ≤ b.getD j 0) ∧ ((i < a.length ∧ a.getD i 0 = x) ∨ (j < b.length ∧ b.getD j 0 = x))) ?_ ?_
 ·(focus (have hF := (aI (aI @e1 @e2) (aI @e3 @q9m)); (repeat' (first | refine go1 (k:=?_) | with_reducible refine Ny.of ?_ ?_ | (refine Hyp.of ?_; intro hc; (try simp only [hc]); (try simp only [Bh] at hc)))); all_goals clear hF))
  all_goals first
   | ((refine Fin.nextW (a.getD i 0) ?_ (have hW := True.intro; q0g); (try dsimp only))
      exact ⟨fun _ => Int.le_refl _, fun _ => by omega, .inl ⟨by omega, rfl⟩⟩)
   | ((refine Fin.nextW (b.getD j 0) ?_ (have hW := True.intro; q0g); (try dsimp only))
      exact ⟨fun _ => by omega, fun _ => Int.le_refl _, .inr ⟨by omega, rfl⟩⟩)
 rintro x ⟨x1, x2, x3⟩
 unfold qev
 refine Run.mid (σ := Nat) (fun i' => ⟨tms [(0, .sl 1 (q05 a)), (1, .sl 1 (q05 b)), (2, .int .i64 rule), (7, .os 113 u.length), (8, .int .i64 (i' : Int)), (9, .int .i64 (j : Int)), (10, .bool v), (11, .int .i64 x)], mms [(113, .arr u.length 1 (q05 u))]⟩)
  (fun i' => (i' = i + 1 ∧ i < a.length ∧ a.getD i 0 = x) ∨ (i' = i ∧ (i < a.length → x < a.getD i 0))) ?_ ?_
 ·(focus (have hF := (aI (aI @e1 @e2) (aI @e3 @q9m)); (repeat' (first | refine go1 (k:=?_) | with_reducible refine Ny.of ?_ ?_ | (refine Hyp.of ?_; intro hc; (try simp only [hc]); (try simp only [Bh] at hc)))); all_goals clear hF))
  all_goals first
   | ((refine Fin.nextW (i + 1) ?_ (have hW := True.intro; q0g); (try dsimp only))
      exact .inl ⟨rfl, by omega, by omega⟩)
   | ((refine Fin.nextW (i) ?_ (have hW := True.intro; q0g); (try dsimp only))
      exact .inr ⟨rfl, fun h => by have := x1 h; omega⟩)
 intro i' hi'
 unfold qew
 refine Run.mid (σ := Nat) (fun j' => ⟨tms [(0, .sl 1 (q05 a)), (1, .sl 1 (q05 b)), (2, .int .i64 rule), (7, .os 113 u.length), (8, .int .i64 (i' : Int)), (9, .int .i64 (j' : Int)), (10, .bool v), (11, .int .i64 x)], mms [(113, .arr u.length 1 (q05 u))]⟩)
  (fun j' => (j' = j + 1 ∧ j < b.length ∧ b.getD j 0 = x) ∨ (j' = j ∧ (j < b.length → x < b.getD j 0))) ?_ ?_
 ·(focus (have hF := (aI (aI @e1 @e2) (aI @e3 @q9m)); (repeat' (first | refine go1 (k:=?_) | with_reducible refine Ny.of ?_ ?_ | (refine Hyp.of ?_; intro hc; (try simp only [hc]); (try simp only [Bh] at hc)))); all_goals clear hF))
  all_goals first
   | ((refine Fin.nextW (j + 1) ?_ (have hW := True.intro; q0g); (try dsimp only))
      exact .inl ⟨rfl, by omega, by omega⟩)
   | ((refine Fin.nextW (j) ?_ (have hW := True.intro; q0g); (try dsimp only))
      exact .inr ⟨rfl, fun h => by have := x2 h; omega⟩)
 intro j' hj'
 have st := h.step ha.rise hb.rise (x := x) (i' := i') (j' := j') (hi'.imp (fun q => ⟨q.1, by rw [zlf q.2.1, q.2.2]⟩) (fun q => ⟨q.1, qfg ha.rise q.2⟩)) (hj'.imp (fun q => ⟨q.1, by rw [zlf q.2.1, q.2.2]⟩) (fun q => ⟨q.1, qfg hb.rise q.2⟩)) (by
  rcases x3 with q | q
  ·rcases hi' with w | w
   ·exact .inl w.1
   ·have := w.2 q.1; omega
  ·rcases hj' with w | w
   ·exact .inr w.1
   ·have := w.2 q.1; omega)
 have st1 := st.hi
 have st2 := st.hj
 have st3 : (a.length - i') + (b.length - j') < (a.length - i) + (b.length - j) := by omega
 have hub : u.length ≤ 800000000 := by omega
 have m1 := qr8 i'
 have m2 := qr8 j'
 have m3 := zkm i'
 have m4 := zkm j'
 have hlu : (u ++ [x]).length = u.length + 1 := by simp
 clear hi' hj' x1 x2 x3 hi hj
 generalize odd i' = o1 at st m3
 generalize odd j' = o2 at st m4
 rcases hrf with ⟨rfl, rfl⟩ | ⟨rfl, rfl⟩ <;> cases o1 <;> cases o2 <;> cases v <;> simp only [Bool.and_true, Bool.and_false, Bool.true_and, Bool.false_and, Bool.not_true, Bool.not_false, if_true, reduceCtorEq, if_false] at st
 all_goals
  (have hF := (aI (aI (aI @e1 @e2) (aI @e3 @m1)) (aI (aI @m2 @m3) (aI @m4 @q3n))); refine q01 (k:=?_); clear hF)
  first
   | (have st' : CbI a b _ i' j' true u := st
      (refine Fin.nextW (⟨i', j', true, u⟩) ?_ (have hW := @q03; q0g); (try dsimp only))
      exact ⟨st', st3⟩)
   | (have st' : CbI a b _ i' j' false u := st
      (refine Fin.nextW (⟨i', j', false, u⟩) ?_ (have hW := @q03; q0g); (try dsimp only))
      exact ⟨st', st3⟩)
   | (have st' : CbI a b _ i' j' true (u ++ [x]) := st
      (refine Fin.nextW (⟨i', j', true, u ++ [x]⟩) ?_ (have hW := (aI @q03 @hlu); q0g); (try dsimp only))
      exact ⟨st', st3⟩)
   | (have st' : CbI a b _ i' j' false (u ++ [x]) := st
      (refine Fin.nextW (⟨i', j', false, u ++ [x]⟩) ?_ (have hW := (aI @q03 @hlu); q0g); (try dsimp only))
      exact ⟨st', st3⟩)

def z2b : List SOp := [⟨some 1,.box 168 (.tmp 0),none⟩,⟨some 2,.alloc 26,none⟩]
instance : Live z2b := ⟨[0]⟩
def z2a : List SOp := [⟨some 3,.alloc 26,none⟩]
instance : Live z2a := ⟨[1,2]⟩
def z29 : List SOp := [⟨some 8,.makeSlice 23 (.const (.int .i64 16)) (.const (.int .i64 16)),none⟩,⟨some 4,.assign (.tmp 8),none⟩]
instance : Live z29 := ⟨[1,2,3]⟩
def z28 : List SOp := [⟨some 5,.assign (.const (.int .i64 0)),none⟩]
instance : Live z28 := ⟨[1,2,3,4]⟩
def z27 : List SOp := [⟨some 6,.assign (.const (.int .i64 0)),none⟩]
instance : Live z27 := ⟨[1,2,3,4,5]⟩
def z26 : List SOp := [⟨some 9,.move (.tmp 6),none⟩,⟨some 10,.binOp .lss 3 (.tmp 9) (.const (.int .i64 16)) 3,none⟩]
instance : Live z26 := ⟨[1,2,3,4,5,6]⟩
def z24 : List SOp := [⟨some 7,.assign (.const (.int .i64 0)),none⟩]
instance : Live z24 := ⟨[1,2,3,4,5,6]⟩
def z23 : List SOp := [⟨some 13,.move (.tmp 7),none⟩,⟨some 14,.binOp .add 3 (.tmp 13) (.const (.int .i64 1)) 3,none⟩,⟨some 15,.move (.tmp 6),none⟩,⟨some 16,.fieldAddr 168 (.tmp 1) 0,none⟩,⟨some 17,.indexAddr 166 (.tmp 16) (.tmp 15),none⟩,⟨some 18,.load 23 (.tmp 17),none⟩,⟨some 19,.call ⟨.builtin .len,#[.tmp 18],#[23]⟩,none⟩,⟨some 20,.binOp .lss 3 (.tmp 14) (.tmp 19) 3,none⟩]
instance : Live z23 := ⟨[1,2,3,4,5,6,7]⟩
def z21 : List SOp := [⟨some 23,.move (.tmp 6),none⟩,⟨some 24,.fieldAddr 168 (.tmp 1) 0,none⟩,⟨some 25,.indexAddr 166 (.tmp 24) (.tmp 23),none⟩,⟨some 26,.load 23 (.tmp 25),none⟩,⟨some 27,.move (.tmp 7),none⟩,⟨some 28,.indexAddr 23 (.tmp 26) (.tmp 27),none⟩,⟨some 29,.load 3 (.tmp 28),none⟩,⟨some 30,.binOp .eql 3 (.tmp 29) (.const (.int .i64 1)) 3,none⟩]
instance : Live z21 := ⟨[1,2,3,4,5,6,7]⟩
def qm8 : List SOp := [⟨some 31,.move (.tmp 4),none⟩,⟨some 32,.move (.tmp 6),none⟩,⟨some 33,.move (.tmp 6),none⟩,⟨some 34,.fieldAddr 168 (.tmp 1) 0,none⟩,⟨some 35,.indexAddr 166 (.tmp 34) (.tmp 33),none⟩,⟨some 36,.load 23 (.tmp 35),none⟩,⟨some 37,.move (.tmp 7),none⟩,⟨some 38,.binOp .add 3 (.tmp 37) (.const (.int .i64 1)) 3,none⟩,⟨some 39,.indexAddr 23 (.tmp 36) (.tmp 38),none⟩,⟨some 40,.load 3 (.tmp 39),none⟩,⟨some 41,.binOp .sub 3 (.tmp 40) (.const (.int .i64 1)) 3,none⟩,⟨some 42,.indexAddr 23 (.tmp 31) (.tmp 32),none⟩,⟨none,.store 3 (.tmp 42) (.tmp 41),none⟩]
instance : Live qm8 := ⟨[1,2,3,4,6,7]⟩
def qm7 : List SOp := [⟨some 43,.move (.tmp 6),none⟩,⟨some 44,.binOp .add 3 (.tmp 43) (.const (.int .i64 1)) 3,none⟩,⟨some 5,.assign (.tmp 44),none⟩]
instance : Live qm7 := ⟨[1,2,3,4,6,7]⟩
def qcl : List SOp := [⟨some 45,.fieldAddr 26 (.tmp 3) 1,none⟩,⟨some 46,.load 24 (.tmp 45),none⟩,⟨some 47,.move (.tmp 6),none⟩,⟨some 48,.move (.tmp 6),none⟩,⟨some 49,.fieldAddr 168 (.tmp 1) 0,none⟩,⟨some 50,.indexAddr 166 (.tmp 49) (.tmp 48),none⟩,⟨some 51,.load 23 (.tmp 50),none⟩,⟨some 52,.move (.tmp 7),none⟩,⟨some 53,.indexAddr 23 (.tmp 51) (.tmp 52),none⟩,⟨some 54,.load 3 (.tmp 53),none⟩,⟨some 55,.move (.tmp 6),none⟩,⟨some 56,.fieldAddr 168 (.tmp 1) 0,none⟩,⟨some 57,.indexAddr 166 (.tmp 56) (.tmp 55),none⟩,⟨some 58,.load 23 (.tmp 57),none⟩,⟨some 59,.move (.tmp 7),none⟩,⟨some 60,.binOp .add 3 (.tmp 59) (.const (.int .i64 1)) 3,none⟩,⟨some 61,.indexAddr 23 (.tmp 58) (.tmp 60),none⟩,⟨some 62,.load 3 (.tmp 61),none⟩,⟨some 63,.binOp .sub 3 (.tmp 62) (.const (.int .i64 1)) 3,none⟩,⟨some 64,.build 127 #[(0,.tmp 47),(1,.tmp 54),(2,.tmp 63)],none⟩,⟨some 65,.buildSlice 24 1 #[(0,.tmp 64)],none⟩,⟨some 66,.call ⟨.builtin .append,#[.tmp 46,.tmp 65],#[24,24]⟩,none⟩,⟨some 67,.fieldAddr 26 (.tmp 3) 1,none⟩,⟨none,.store 24 (.tmp 67) (.tmp 66),none⟩]
instance : Live qcl := ⟨[1,2,3,4,5,6,7]⟩
instance : Rd qcl := ⟨fun j => j == 1⟩
def qm6 : List SOp := [⟨some 21,.move (.tmp 7),none⟩,⟨some 22,.binOp .add 3 (.tmp 21) (.const (.int .i64 2)) 3,none⟩,⟨some 7,.assign (.tmp 22),none⟩]
instance : Live qm6 := ⟨[1,2,3,4,5,6,7]⟩
def qm5 : List SOp := [⟨some 11,.move (.tmp 6),none⟩,⟨some 12,.binOp .add 3 (.tmp 11) (.const (.int .i64 1)) 3,none⟩,⟨some 6,.assign (.tmp 12),none⟩]
instance : Live qm5 := ⟨[1,2,3,4,5,6]⟩
def qm4 : List SOp := [⟨some 68,.move (.tmp 4),none⟩,⟨some 69,.move (.tmp 5),none⟩,⟨some 70,.slice 23 (.tmp 68) none (some (.tmp 69)) none,none⟩,⟨some 71,.fieldAddr 26 (.tmp 3) 0,none⟩,⟨none,.store 23 (.tmp 71) (.tmp 70),none⟩]
instance : Live qm4 := ⟨[2,3,4,5]⟩
def qm3 : List SOp := [⟨some 72,.load 26 (.tmp 3),none⟩,⟨none,.store 26 (.tmp 2) (.tmp 72),none⟩]
instance : Live qm3 := ⟨[2,3]⟩
def qij : SC :=
 (.seq (.seq (.ops false z23) (.cond (.tmp 20) .skip (.exit 2))) (.seq (.block 3 (.seq (.ops false z21) (.cond (.tmp 30) (.seq (.ops false qm8) (.ops false qm7)) (.opsW [46] qcl)))) (.ops false qm6)))
def qik : SC :=
 (.seq (.seq (.ops false z26) (.cond (.tmp 10) .skip (.exit 0))) (.seq (.block 1 (.seq (.ops false z24) (.block 2 (.loop qij)))) (.ops false qm5)))
def t_k128 : SC :=
 (.seq (.ops false z2b) (.seq (.ops false z2a) (.seq (.ops false z29) (.seq (.ops false z28) (.seq (.seq (.ops false z27) (.block 0 (.loop qik))) (.seq (.ops false qm4) (.seq (.ops false qm3) .ret)))))))
theorem it_k128 : FnIs Tryz.prog 128 73 [.cell 2 26] t_k128 := ⟨Tryz.f128, _, Tryz.func128, rfl, rfl, rfl, rfl, by kernel_rfl⟩

def qpb (t : Tab) (r c : Nat) : List Sn := q1v t r ++ ((q1t ((q0y (t.getD r [])).take c)).2).map (q8z r)
theorem zbf (t : Tab) (r : Nat) : qpb t r 0 = q1v t r := by simp [qpb, q1t]
theorem rowF_all (t : Tab) (r : Nat) : qpb t r (q0y (t.getD r [])).length = q1v t (r + 1) := by
 unfold qpb
 rw [q6t, List.take_length]
 rfl
theorem z8m {t : Tab} {r : Nat} {x : Rn} (hx : (q0y (t.getD r []))[0]? = some x) (h : x.1 = 1) : qpb t r 1 = qpb t r 0 := by
 unfold qpb
 rw [List.take_add_one, hx]
 simp [q1t, h]
theorem zbg {t : Tab} {r c : Nat} {x : Rn} (hx : (q0y (t.getD r []))[c]? = some x) (h : x.1 ≠ 1) : qpb t r (c + 1) = qpb t r c ++ [((r : Int), x.1, x.2)] := by
 unfold qpb
 rw [List.take_add_one, hx, List.append_assoc]
 congr 1
 cases c with
 | zero => simp [q1t, h, q8z]
 | succ c =>
  cases hm : q0y (t.getD r []) with
  | nil => rw [hm] at hx; simp at hx
  | cons y l =>
   rw [hm] at hx
   simp only [List.take_succ_cons, List.cons_append, q1t]
   simp only [Option.toList]
   split <;> simp [q8z]
theorem rowF_len (t : Tab) (r c : Nat) : (qpb t r c).length ≤ (q1v t r).length + (q0y (t.getD r [])).length := by
 have h1 := qa7 ((q0y (t.getD r [])).take c)
 unfold qpb
 rw [List.length_append, List.length_map]
 rw [List.length_take] at h1
 omega
theorem qr4 {m : List Rn} {c : Nat} {x : Rn} (h : m[c]? = some x) : (q3r m)[2 * c]? = some x.1 ∧ (q3r m)[2 * c + 1]? = some (x.2 + 1) := by
 induction m generalizing c with
 | nil => simp at h
 | cons y m ih =>
  rw [q4s]
  cases c with
  | zero => simp at h; subst h; exact ⟨rfl, rfl⟩
  | succ c =>
   have := ih (c := c) (by simpa using h)
   exact ⟨by simpa [Nat.mul_add] using this.1, by simpa [Nat.mul_add] using this.2⟩
theorem zn1 {m : List Rn} (h : Can m) {c : Nat} {x : Rn} (hx : m[c + 1]? = some x) : x.1 ≠ 1 := by
 cases m with
 | nil => simp at hx
 | cons y m =>
  have hy := (Can.cons_iff.1 h)
  have hm : x ∈ m := List.mem_of_getElem? (by simpa using hx)
  have h1 := hy.2.1 x hm
  have h2 := hy.1
  unfold sepR at h1
  unfold okR at h2
  omega
theorem zau {t : Tab} {r : Nat} (hr : r < 16) (h : q8o t r = 0) : qap t (r + 1) = qap t r := by
 unfold qap
 rw [qd2, h, List.append_assoc, show 16 - r = (16 - (r + 1)) + 1 by omega, List.replicate_succ]
 rfl
def szF (t : Tab) (r : Nat) : Nat → Nat
 | 0 => q2t t r
 | _ + 1 => q2t t (r + 1)
def vcF (t : Tab) (r : Nat) : Nat → List Int
 | 0 => qap t r
 | _ + 1 => qap t (r + 1)
theorem qqb (t : Tab) {n : Nat} (ht : TabLe t n) (hn : n ≤ 50000000) : Ev (En Tryz.prog rfl).P 128 [.agg (q0j (t.map q0p))] (.ret (q0f (q5u t))) := by
 refine Ev.of_body it_k128 (by simp) (Run.start ?_)
 unfold t_k128
 have h16 : (q0j (t.map q0p)).length = 16 := by simp [q0j, ht.1]
 have hone := q44 (t.map q0p)
 have hst := q27 (t.map q0p)
 (have hF := (aI @h16 @hone); refine q01 (k:=?_); clear hF)
 refine Run.wk (Wk.own_cells (k := 3) (cs' := [.nil, .own 3 []]) rfl rfl ?_) ?_
 ·intro i x y hx hy
  match i with
  | 0 => simp at hx hy; subst hx; subst hy; exact .inl rfl
  | 1 => simp at hx hy; subst hx; subst hy; exact .inr ⟨rfl, 3, rfl⟩
  | i + 2 => simp at hx
 refine Run.while (σ := Nat) (fun r => ⟨tms [(1, .ptr 1 0), (2, .ptr 2 0), (3, .ptr 3 0), (4, .os 8 0), (5, .int .i64 (q2t t r)), (6, .int .i64 r)], mms [(1, .cells (q0j (t.map q0p))), (2, .cells [.nil, .nil]), (3, .cells [.nil, .own 3 (q0d (q1v t r))]), (8, .arr 0 1 (q05 (qap t r)))]⟩)
  (fun r => r ≤ 16) (fun r => 16 - r) 0 (have hW := @hst; q0g) (Nat.zero_le _) ?_
 intro r hr
 have g0 : (q05 (qap t r)).length = 16 := by rw [q0i, qb7 t hr]
 have hsz := q91 t r
 unfold qik
 by_cases hlt : r < 16
 ·have hrt : r < t.length := by rw [ht.1]; exact hlt
  have hq := ht.2 r
  have g1 : (q0j (t.map q0p))[r]? = some (.sl 1 (q05 (q3r (q0y (t.getD r []))))) := by
   rw [q7v (by rw [List.length_map]; exact hrt)]
   simp [List.getD_eq_getElem?_getD, hrt, q0p]
  have hml := q1z (t.getD r [])
  have hcan := q1d (t.getD r [])
  have hcl := qaj ht r
  have hcl2 : r * n ≤ 16 * n := Nat.mul_le_mul_right n hr
  have f1 := zbf t r
  have f2 := rowF_all t r
  have f3 := fun c x => @zbg t r c x
  have f4 := fun x => @z8m t r x
  have f5 := rowF_len t r
  have hlead : q8o t r = (q1t (q0y (t.getD r []))).1 := rfl
  have hs1 := q7m t r
  have hv1 := qr2 t hlt
  have hv2 := qr3 t hlt
  have hl0 := qf2 hcan
  generalize hmr : q0y (t.getD r []) = m at g1 hml hcan f2 f3 f4 f5 hlead hl0
  have g2 : (q05 (q3r m)).length = 2 * m.length := by rw [q0i, q9w]
  have hz0 : (q1t m).1 = 0 → q2t t (r + 1) = q2t t r ∧ qap t (r + 1) = qap t r := fun h => ⟨by rw [hs1, hlead, h]; rfl, zau hlt (by rw [hlead, h])⟩
  (have hF := (aI @h16 (aI @hone @g0)); refine q01 (k:=?_); clear hF)
  refine Run.while (σ := Nat) (fun c => ⟨tms [(1, .ptr 1 0), (2, .ptr 2 0), (3, .ptr 3 0), (4, .os 8 0), (5, .int .i64 (szF t r c)), (6, .int .i64 r), (7, .int .i64 (2 * c : Nat))], mms [(1, .cells (q0j (t.map q0p))), (2, .cells [.nil, .nil]), (3, .cells [.nil, .own 3 (q0d (qpb t r c))]), (8, .arr 0 1 (q05 (vcF t r c)))]⟩)
   (fun c => c ≤ m.length) (fun c => m.length - c) 0 (have hW := (aI @hst @f1); q0g) (Nat.zero_le _) ?_
  intro c hc
  have gv : (q05 (vcF t r c)).length = 16 := by
   rw [q0i]
   cases c with
   | zero => exact qb7 t hr
   | succ c => exact qb7 t hlt
  have hsz2 : szF t r c ≤ r + 1 := by
   cases c with
   | zero => show q2t t r ≤ _; omega
   | succ c => exact q91 t (r + 1)
  unfold qij
  by_cases hcl3 : c < m.length
  ·obtain ⟨x, hx⟩ : ∃ x, m[c]? = some x := ⟨m[c], by simp [hcl3]⟩
   have ⟨k1, k2⟩ := qr4 hx
   have k1' : (q05 (q3r m))[2 * c]? = some (.int .i64 x.1) := q0v k1
   have k2' : (q05 (q3r m))[2 * c + 1]? = some (.int .i64 (x.2 + 1)) := q0v k2
   have hxr := hcan.2 x (List.mem_of_getElem? hx)
   unfold okR at hxr
   have hfl := f5 c
   have e8 : ((2 * c : Nat) : Int) + 1 = ((2 * c + 1 : Nat) : Int) := by omega
   have e9 : ((2 * c : Nat) : Int) + 2 = ((2 * (c + 1) : Nat) : Int) := by omega
   have e7 : IntKind.i64.wrap (x.2 + 1 - 1) = x.2 := by rw [q2i (by omega)]; omega
   by_cases h1 : x.1 = 1
   ·have hc0 : c = 0 := by
     cases c with
     | zero => rfl
     | succ c => exact absurd h1 (zn1 hcan hx)
    have h5 : q8o t r = x.2 := by
     subst hc0
     rw [hlead]
     cases m with
     | nil => simp at hx
     | cons y m => simp at hx; subst hx; rw [qbe h1]
    have h6 : qpb t r (c + 1) = qpb t r c := by subst hc0; exact f4 x hx h1
    have h8 : szF t r (c + 1) = r + 1 := by show q2t t (r + 1) = r + 1; rw [hs1, if_pos (by omega)]
    rw [h5] at hv1
    have h9 : (q05 (vcF t r c)).set r (.int .i64 x.2) = q05 (vcF t r (c + 1)) := by subst hc0; exact hv1
    have h10 : (q05 (vcF t r c))[r]? = some (.int .i64 0) := by subst hc0; exact hv2
    generalize szF t r c = sz at hsz2 ⊢
    (have hF := (aI (aI (aI @h16 (aI @hone @gv)) (aI @g1 (aI @g2 @k1'))) (aI (aI @k2' (aI @h9 @h10)) (aI (aI @e7 @e8) (aI @e9 @h1)))); refine q01 (k:=?_); clear hF)
    (refine Fin.nextW (c + 1) ?_ (have hW := (aI (aI @hst @h6) (aI @h8 @h9)); q0g); (try dsimp only))
    omega
   ·have h6 := f3 c x hx h1
    have h8 : szF t r (c + 1) = szF t r c ∧ vcF t r (c + 1) = vcF t r c := by
     cases c with
     | zero =>
      refine hz0 ?_
      cases m with
      | nil => simp at hx
      | cons y m => simp at hx; subst hx; rw [qbd h1]
     | succ c => exact ⟨rfl, rfl⟩
    obtain ⟨h8, h9⟩ := h8
    generalize qpb t r c = cl at h6 hfl ⊢
    have k3 := q1e cl
    (have hF := (aI (aI (aI @h16 (aI @hone @gv)) (aI @g1 (aI @g2 @k1'))) (aI (aI @k2' (aI @e7 @e8)) (aI @e9 (aI @k3 @q7u)))); refine q01 (k:=?_); clear hF)
    ((with_reducible apply toW); refine stW (fun j => j == 1) (k:=?_))
    (have hF := (aI (aI (aI @h16 (aI @hone @gv)) (aI @g1 (aI @g2 @k1'))) (aI (aI @k2' (aI @e7 @e8)) (aI @e9 (aI @k3 @q7u)))); refine q01 (k:=?_); clear hF)
    (refine Fin.nextW (c + 1) ?_ (have hW := (aI (aI @hst @h6) (aI @h8 @h9)); q0g); (try dsimp only))
    omega
  ·have hce : c = m.length := by omega
   subst hce
   rw [f2]
   have h8 : szF t r m.length = q2t t (r + 1) ∧ vcF t r m.length = qap t (r + 1) := by
    cases m with
    | nil => have := hz0 rfl; exact ⟨this.1.symm, this.2.symm⟩
    | cons y m => exact ⟨rfl, rfl⟩
   rw [h8.1, h8.2] at *
   (have hF := (aI (aI @h16 @hone) (aI @gv (aI @g1 @g2))); refine q01 (k:=?_); clear hF)
   (refine Fin.nextW (r + 1) ?_ (have hW := @hst; q0g); (try dsimp only))
   omega
 ·have hre : r = 16 := by omega
  subst hre
  have hv : qap t 16 = q2m t 16 := by simp [qap]
  rw [hv] at g0 ⊢
  have hll := q2v t 16
  have hlz : ((q2m t 16).take (q2t t 16)).length ≤ 16 := by rw [List.length_take]; omega
  have hres : q5u t = ⟨(q2m t 16).take (q2t t 16), q1v t 16⟩ := rfl
  rw [hres]
  refine Run.wk (Wk.freeze (k := 3) (cs := [.nil, .own 3 (q0d (q1v t 16))]) rfl) ?_
  refine Run.wk (s' := ⟨tms [(2, .ptr 2 0), (3, .ptr 3 0), (4, .os 8 0), (5, .int .i64 (q2t t 16)), (6, .int .i64 16)], mms [(2, .cells [.nil, .nil]), (3, .cells [.nil, .sl 3 (q0d (q1v t 16))]), (8, .arr 0 1 (q05 (q2m t 16)))]⟩) (have hW := @hst; q0g) ?_
  (have hF := (aI @g0 @q6a); refine q01 (k:=?_); clear hF)
  exact Fin.all rfl (by simp [q0k, AVal.stb, q03, q04, fzc, q4i]) rfl

section
open Go.ChangeShapes Go.WideShapes Go.ChangeAt Go.RowKit
def VR0 (w : World) (x : AVal) (v : Value) : Prop := ∀ G : Gh, (∀ b, G.ow b = none) → VR (Dm NoM) G (fun _ => False) w x v
structure Opens (P : Program) (t : TypeId) (α : Type) (ok : α → Prop) (c : α → List AVal) (wt : α → Nat) : Prop where
 run : ∀ {H : Type} (enc : TypeId × Value → H) (w : World) (fuel : Nat) (cs : List Value) (d : DataW H) (ps : List MemPlace),
  DataW.trod enc P w 0 (fun _ => true) true fuel t cs = some (d, ps) →
  ∃ x : α, ok x ∧ wt x ≤ Rows.uptoBulk d ∧ cs.length = (c x).length ∧ ∀ (n : Nat) (y : AVal) (v : Value), (c x)[n]? = some y → cs[n]? = some v → VR0 w y v
section
variable {P : Program} {t : TypeId}
def qgu (n : Int) : Prop := -9223372036854775808 ≤ n ∧ n ≤ 9223372036854775807
theorem Opens.int (ht : P.underlying t = some (.int .i64)) : Opens P t Int qgu (fun n => [.int .i64 n]) (fun _ => 1) := by
 refine ⟨fun {H} enc w fuel cs d ps h => ?_⟩
 obtain ⟨n, rfl, hx, hw⟩ := DataW.trod_int ht h
 have hd : d = .lit (.int .i64 n) := congrArg Prod.fst hx
 subst hd
 refine ⟨n, bounds_i64 hw, by simp [Rows.uptoBulk], rfl, fun i y v hy hv G hG => ?_⟩
 match i with
 | 0 => simp at hy hv; subst hy; subst hv; exact .int _ _
 | i + 1 => simp at hy
theorem Opens.bool (ht : P.underlying t = some .bool) : Opens P t Bool (fun _ => True) (fun n => [.bool n]) (fun _ => 1) := by
 refine ⟨fun {H} enc w fuel cs d ps h => ?_⟩
 obtain ⟨n, rfl, hx⟩ := DataW.trod_bool ht h
 have hd : d = .lit (.bool n) := congrArg Prod.fst hx
 subst hd
 refine ⟨n, trivial, by simp [Rows.uptoBulk], rfl, fun i y v hy hv G hG => ?_⟩
 match i with
 | 0 => simp at hy hv; subst hy; subst hv; exact .bool _
 | i + 1 => simp at hy
theorem Opens.string (ht : P.underlying t = some .string) : Opens P t ByteArray (fun _ => True) (fun s => [.str s]) (fun s => s.size + 1) := by
 refine ⟨fun {H} enc w fuel cs d ps h => ?_⟩
 obtain ⟨n, rfl, hx, hs⟩ := DataW.trod_string ht h
 have hd : d = .lit (.string n.data.toList) := congrArg Prod.fst hx
 subst hd
 refine ⟨n, trivial, ?_, rfl, fun i y v hy hv G hG => ?_⟩
 ·simp only [Rows.uptoBulk, Array.length_toList]
  exact Nat.le_refl _
 ·match i with
  | 0 => simp at hy hv; subst hy; subst hv; exact .str _
  | i + 1 => simp at hy
theorem z82 {H : Type} {α : Type} {wt : α → Nat} : ∀ (es : List (DataW H × List MemPlace)) (l : List α), l.length = es.length → (∀ (i : Nat) x e, l[i]? = some x → es[i]? = some e → wt x ≤ Rows.uptoBulk e.1) → (l.map wt).sum ≤ Rows.uptoBulkAll (es.map (·.1))
 | [], [], _, _ => Nat.le_refl _
 | e :: es, x :: l, hl, h => by
  have h1 := h 0 x e rfl rfl
  have h2 := z82 es l (by simpa using hl) fun i y u hy hu => h (i + 1) y u (by simpa using hy) (by simpa using hu)
  simp only [List.map_cons, List.sum_cons, Rows.uptoBulkAll]
  omega
 | [], _ :: _, hl, _ => by simp at hl
 | _ :: _, [], hl, _ => by simp at hl
theorem addr_add (b off i j : Nat) : ((⟨b, off, none⟩ : Addr).add i).add j = ⟨b, off + i + j, none⟩ := by
 unfold Addr.add
 split <;> split <;> simp_all
def wtL {α : Type} (wt : α → Nat) (l : List α) : Nat := (l.map wt).sum + 1
theorem Opens.slice {e : TypeId} {α : Type} {ok : α → Prop} {c : α → List AVal} {wt : α → Nat} {k : Nat} {mk : α → AVal} (ht : P.underlying t = some (.slice e)) (he : Opens P e α ok c wt) (hcell : P.cellsOf e = k) (hk0 : 0 < k)
 (hmk : ∀ x, (mk x).cells = c x) (hk : ∀ x, (c x).length = k) (hone : ∀ x, ∀ y ∈ c x, y.one = true) : Opens P t (List α) (fun l => ∀ x ∈ l, ok x) (fun l => [.sl k (l.map mk)]) (wtL wt) := by
 refine ⟨fun {H} enc w fuel cs d ps h => ?_⟩
 rcases DataW.trod_slice ht h with ⟨rfl, hx⟩ | ⟨a, len, cap, elems, rest, m, _, rfl, hx, hb, hl, hm, hlen, hel, _, _⟩
 ·have hd : d = .nil := congrArg Prod.fst hx
  subst hd
  refine ⟨[], by simp, by simp [wtL, Rows.uptoBulk], rfl, fun i y v hy hv G hG => ?_⟩
  match i with
  | 0 => simp at hy hv; subst hy; subst hv; exact .slnil k
  | i + 1 => simp at hy
 ·have hd : d = .slice (elems.map (·.1)) (rest.map (·.1)) := congrArg Prod.fst hx
  subst hd
  obtain ⟨b, off, sp⟩ := a
  rcases Nat.eq_zero_or_pos len with h0 | h0
  ·subst h0
   refine ⟨[], by simp, by simp [wtL, Rows.uptoBulk], rfl, fun i y v hy hv G hG => ?_⟩
   match i with
   | 0 => simp at hy hv; subst hy; subst hv; exact .slemp k _ cap
   | i + 1 => simp at hy
  have hspot : sp = none := by
   have h1 := hel 0 h0
   rw [List.getElem?_eq_getElem (by omega), Option.bind_eq_some_iff] at h1
   obtain ⟨cs', h2, h3⟩ := h1
   rw [hcell] at h2
   obtain ⟨_, h4, h5⟩ := World.cells?_some h2
   have h6 := h5 0 hk0
   rw [List.getElem?_eq_getElem (by omega)] at h6
   simp only [Nat.zero_mul, Addr.add, if_true, World.cell?] at h6
   cases sp with
   | none => rfl
   | some q => split at h6 <;> simp at h6
  subst hspot
  rw [hcell] at hel
  have each : ∀ i : _root_.Fin len, ∃ x : α, ok x ∧ (∀ e, elems[i.1]? = some e → wt x ≤ Rows.uptoBulk e.1) ∧ ∀ (j : Nat) (y : AVal), (c x)[j]? = some y → ∃ v, w.cell? ⟨b, off + i.1 * k + j, none⟩ = some v ∧ VR0 w y v := by
   intro i
   have h1 := hel i.1 i.2
   have hi : i.1 < elems.length := by rw [hlen]; exact i.2
   rw [List.getElem?_eq_getElem hi, Option.bind_eq_some_iff] at h1
   obtain ⟨cs', h2, h3⟩ := h1
   obtain ⟨_, h4, h5⟩ := World.cells?_some h2
   obtain ⟨x, ho, hw, hlx, hv⟩ := he.run enc w m cs' elems[i.1].1 elems[i.1].2 h3
   refine ⟨x, ho, fun e he => ?_, fun j y hy => ?_⟩
   ·rw [List.getElem?_eq_getElem hi] at he
    cases he
    exact hw
   ·have hj : j < k := by
     rw [← hk x]
     rcases Nat.lt_or_ge j (c x).length with h | h
     ·exact h
     ·rw [List.getElem?_eq_none h] at hy; cases hy
    have h6 := h5 j hj
    rw [addr_add] at h6
    have hjl : j < cs'.length := by omega
    rw [List.getElem?_eq_getElem hjl] at h6
    exact ⟨_, h6, hv j y _ hy (List.getElem?_eq_getElem hjl)⟩
  let l : List α := List.ofFn fun i : _root_.Fin len => (each i).choose
  have hll : l.length = len := by simp [l]
  have hget : ∀ (i : Nat) (hi : i < len), l[i]? = some (each ⟨i, hi⟩).choose := fun i hi => by simp [l, hi]
  refine ⟨l, fun x hx => ?_, ?_, rfl, fun i y v hy hv G hG => ?_⟩
  ·obtain ⟨i, rfl⟩ := (List.mem_ofFn).1 hx
   exact (each i).choose_spec.1
  ·have := z82 (wt := wt) elems l (by omega) fun i x e hx he => by
    have hi : i < len := by
     rcases Nat.lt_or_ge i len with h | h
     ·exact h
     ·rw [List.getElem?_eq_none (by omega)] at hx; cases hx
    rw [hget i hi] at hx
    cases hx
    exact (each ⟨i, hi⟩).choose_spec.2.1 e he
   simp only [wtL, Rows.uptoBulk]
   omega
  ·match i with
   | i + 1 => simp at hy
   | 0 =>
    simp only [List.getElem?_cons_zero, Option.some.injEq] at hy hv
    subst hy; subst hv
    have hsz : ∀ x ∈ l.map mk, x.cells.length = k := by
     intro x hx
     obtain ⟨z, _, rfl⟩ := List.mem_map.1 hx
     rw [hmk, hk]
    have cellv : ∀ (n : Nat) (x : AVal), (flat (l.map mk))[n]? = some x → ∃ v, w.cell? ⟨b, off + n, none⟩ = some v ∧ VR0 w x v := by
     intro n x hx
     have hn : n < len * k := by
      have h1 := q0q hsz
      rw [List.length_map, hll] at h1
      rcases Nat.lt_or_ge n (len * k) with h | h
      ·exact h
      ·rw [List.getElem?_eq_none (by omega)] at hx; cases hx
     have h1 : n / k < len := Nat.div_lt_of_lt_mul (by rw [Nat.mul_comm]; exact hn)
     have h2 : n % k < k := Nat.mod_lt _ hk0
     have h3 := qab (sz := k) (xs := l.map mk) (i := n / k) (j := n % k) (x := mk (each ⟨n / k, h1⟩).choose) hsz (by rw [List.getElem?_map, hget _ h1]; rfl) h2
     have e : n / k * k + n % k = n := by rw [Nat.mul_comm]; exact Nat.div_add_mod n k
     rw [e, hmk] at h3
     rw [hx] at h3
     obtain ⟨v, hv, hr⟩ := (each ⟨n / k, h1⟩).choose_spec.2.2 (n % k) x h3.symm
     refine ⟨v, ?_, hr⟩
     rw [← hv]
     congr 2
     simp only
     omega
    have e0 : (l.map mk).length = len := by simp [hll]
    have hsl : VR (Dm NoM) G (fun _ => False) w (.sl k (l.map mk)) (.slice (some ⟨b, off, none⟩) (l.map mk).length cap) := by
     refine .sl k (l.map mk) b off cap (fun n => (w.cell? ⟨b, off + n, none⟩).getD undef) (by omega) (fun _ => ⟨fun h => h, hG b⟩) (fun x hx => ?_) hsz (fun n x hx => ?_) (fun n x hx => ?_)
     ·obtain ⟨z, hz, hx⟩ := List.mem_flatMap.1 hx
      obtain ⟨q, _, rfl⟩ := List.mem_map.1 hz
      rw [hmk] at hx
      exact hone q x hx
     ·obtain ⟨v, hv, _⟩ := cellv n x hx
      rw [hv]; rfl
     ·obtain ⟨v, hv, hr⟩ := cellv n x hx
      simp only [hv, Option.getD_some]
      exact hr G hG
    rw [e0] at hsl
    exact hsl
def OpensF (P : Program) (fs : List Field) (off tot : Nat) (α : Type) (ok : α → Prop) (c : α → List AVal) (wt : α → Nat) : Prop :=
 (∀ x, (c x).length = tot) ∧
 ∀ {H : Type} (enc : TypeId × Value → H) (w : World) (m : Nat) (cs : List Value) (xs : List (DataW H × List MemPlace)), xs.length = fs.length → off + tot ≤ cs.length →
  (∀ (i : Nat) (f : Field), fs[i]? = some f → DataW.trod enc P w 0 (fun _ => true) true m f.type ((cs.drop f.offset).take (P.cellsOf f.type)) = xs[i]?) →
  ∃ x : α, ok x ∧ wt x ≤ Rows.uptoBulkAll (xs.map (·.1)) ∧ ∀ (n : Nat) (y : AVal) (v : Value), (c x)[n]? = some y → cs[off + n]? = some v → VR0 w y v
theorem OpensF.nil (off : Nat) : OpensF P [] off 0 Unit (fun _ => True) (fun _ => []) (fun _ => 0) :=
 ⟨fun _ => rfl, fun enc w m cs xs hl _ _ => ⟨(), trivial, Nat.zero_le _, fun n y v hy => by simp at hy⟩⟩
theorem OpensF.cons {f : Field} {fs : List Field} {off k tot : Nat} {α β : Type} {ok : α → Prop} {ok' : β → Prop} {c : α → List AVal} {c' : β → List AVal} {wt : α → Nat} {wt' : β → Nat}
 (h1 : Opens P f.type α ok c wt) (hk : ∀ x, (c x).length = k) (hc : P.cellsOf f.type = k) (ho : f.offset = off) (h2 : OpensF P fs (off + k) tot β ok' c' wt') :
 OpensF P (f :: fs) off (k + tot) (α × β) (fun x => ok x.1 ∧ ok' x.2) (fun x => c x.1 ++ c' x.2) (fun x => wt x.1 + wt' x.2) := by
 refine ⟨fun x => by rw [List.length_append, hk, h2.1], fun {H} enc w m cs xs hl hlen hx => ?_⟩
 cases xs with
 | nil => simp at hl
 | cons x0 xs =>
  have hx0 := hx 0 f rfl
  simp only [List.getElem?_cons_zero] at hx0
  rw [ho, hc] at hx0
  obtain ⟨x, a1, a2, a3, a4⟩ := h1.run enc w m _ x0.1 x0.2 hx0
  obtain ⟨y, b1, b2, b3⟩ := h2.2 enc w m cs xs (by simpa using hl) (by omega) (fun i g hg => by simpa using hx (i + 1) g (by simpa using hg))
  refine ⟨(x, y), ⟨a1, b1⟩, ?_, fun n z v hz hv => ?_⟩
  ·simp only [List.map_cons, Rows.uptoBulkAll]
   omega
  ·rcases Nat.lt_or_ge n k with hn | hn
   ·rw [List.getElem?_append_left (by rw [hk]; exact hn)] at hz
    refine a4 n z v hz ?_
    rw [List.getElem?_take, if_pos hn, List.getElem?_drop]
    exact hv
   ·rw [List.getElem?_append_right (by rw [hk]; exact hn), hk] at hz
    refine b3 (n - k) z v hz ?_
    rw [show off + k + (n - k) = off + n by omega]
    exact hv
theorem Opens.struct {fs : Array Field} {tot : Nat} {α : Type} {ok : α → Prop} {c : α → List AVal} {wt : α → Nat} (ht : P.underlying t = some (.struct fs)) (hc : P.cellsOf t = tot) (h : OpensF P fs.toList 0 tot α ok c wt) :
 Opens P t α ok c (fun x => wt x + 1) := by
 refine ⟨fun {H} enc w fuel cs d ps hd => ?_⟩
 obtain ⟨xs, n, _, hx, hl, hxl, hf⟩ := DataW.trod_struct ht hd
 have hd : d = .agg (xs.map (·.1)) := congrArg Prod.fst hx
 subst hd
 obtain ⟨x, h1, h2, h3⟩ := h.2 enc w n cs xs (by simpa using hxl) (by omega) (fun i f hi => hf i f (by simpa using hi))
 refine ⟨x, h1, by simp only [Rows.uptoBulk]; omega, by rw [h.1, hl, hc], fun i y v hy hv => h3 i y v hy (by simpa using hv)⟩
theorem Opens.map {α β : Type} {ok : α → Prop} {c : α → List AVal} {wt : α → Nat} {ok' : β → Prop} {c' : β → List AVal} {wt' : β → Nat} (h : Opens P t α ok c wt) (g : α → β) (h1 : ∀ x, ok x → ok' (g x)) (h2 : ∀ x, c' (g x) = c x) (h3 : ∀ x, wt' (g x) ≤ wt x) :
 Opens P t β ok' c' wt' := by
 refine ⟨fun {H} enc w fuel cs d ps hd => ?_⟩
 obtain ⟨x, a1, a2, a3, a4⟩ := h.run enc w fuel cs d ps hd
 exact ⟨g x, h1 x a1, Nat.le_trans (h3 x) a2, by rw [h2]; exact a3, by rw [h2]; exact a4⟩
end
section
variable {P : Program} {t : TypeId}
def zng (P : Program) (t : TypeId) (α : Type) (ok : α → Prop) (mk : α → AVal) (wt : α → Nat) : Prop :=
 ∀ {H : Type} (enc : TypeId × Value → H) (w : World) (base fuel : Nat) (v : Value) (d : DataW H) (ps : List MemPlace), Value.okWide P w .any base t v →
  DataW.trod enc P w 0 (fun _ => true) true fuel t v.cells.toList = some (d, ps) → ∃ x : α, ok x ∧ wt x ≤ Rows.uptoBulk d ∧ VR0 w (mk x) v
theorem Opens.agg {α : Type} {ok : α → Prop} {c : α → List AVal} {wt : α → Nat} {fs : Array Field} (h : Opens P t α ok c wt) (ht : P.underlying t = some (.struct fs)) : zng P t α ok (fun x => .agg (c x)) wt := by
 intro H enc w base fuel v d ps hok hd
 unfold Value.okWide at hok
 rw [ht] at hok
 obtain ⟨cs, rfl, hsz, _⟩ := hok
 obtain ⟨x, x1, x2, x3, x4⟩ := h.run enc w fuel cs.toList d ps (by simpa [Value.cells] using hd)
 exact ⟨x, x1, x2, fun G hG => .agg _ _ (by simpa using x3) fun n z u hz hu => x4 n z u hz (by simpa using hu) G hG⟩
theorem Opens.one {α : Type} {ok : α → Prop} {mk : α → AVal} {wt : α → Nat} {u : TypeDesc} (h : Opens P t α ok (fun x => [mk x]) wt) (ht : P.underlying t = some u) (hu : (match u with | .struct _ | .array _ _ => False | _ => True)) : zng P t α ok mk wt := by
 intro H enc w base fuel v d ps hok hd
 have hv : v.cells.toList = [v] := by
  cases v <;> first | rfl | skip
  unfold Value.okWide at hok
  rw [ht] at hok
  cases u <;> first | exact hu.elim | (simp [Cell.okWide, Cell.ok, ht] at hok; done)
 rw [hv] at hd
 obtain ⟨x, x1, x2, x3, x4⟩ := h.run enc w fuel [v] d ps hd
 exact ⟨x, x1, x2, x4 0 (mk x) v rfl rfl⟩
def OpensA (P : Program) (ts : List TypeId) (α : Type) (ok : α → Prop) (l : α → List AVal) (wt : α → Nat) : Prop :=
 ∀ {H : Type} (enc : TypeId × Value → H) (w : World) (base : Nat) (vs : List Value) (ds : List (DataW H)) (ps : List MemPlace), (∀ (j : Nat) t v, ts[j]? = some t → vs[j]? = some v → Value.okWide P w .any base t v) →
  DataW.TrodAll enc P w 0 (fun _ => true) true ts vs ds ps → ∃ x : α, ok x ∧ wt x ≤ Rows.uptoBulkAll ds ∧ vs.length = (l x).length ∧ ∀ (n : Nat) (y : AVal) (v : Value), (l x)[n]? = some y → vs[n]? = some v → VR0 w y v
theorem OpensA.nil : OpensA P [] Unit (fun _ => True) (fun _ => []) (fun _ => 0) := by
 intro H enc w base vs ds ps _ h
 obtain ⟨rfl, rfl, rfl⟩ := trodAll_nil h
 exact ⟨(), trivial, Nat.zero_le _, rfl, fun n y v hy => by simp at hy⟩
theorem OpensA.cons {ts : List TypeId} {α β : Type} {ok : α → Prop} {ok' : β → Prop} {mk : α → AVal} {l : β → List AVal} {wt : α → Nat} {wt' : β → Nat} (h1 : zng P t α ok mk wt) (h2 : OpensA P ts β ok' l wt') :
 OpensA P (t :: ts) (α × β) (fun x => ok x.1 ∧ ok' x.2) (fun x => mk x.1 :: l x.2) (fun x => wt x.1 + wt' x.2) := by
 intro H enc w base vs ds ps hok h
 obtain ⟨v, vs', d, ds', p, q, rfl, rfl, rfl, ⟨fuel, hd⟩, hr⟩ := trodAll_cons h
 obtain ⟨x, x1, x2, x3⟩ := h1 enc w base fuel v d p (hok 0 t v rfl rfl) hd
 obtain ⟨y, y1, y2, y3, y4⟩ := h2 enc w base vs' ds' q (fun j t' v' ht hv => hok (j + 1) t' v' (by simpa using ht) (by simpa using hv)) hr
 refine ⟨(x, y), ⟨x1, y1⟩, ?_, by simpa using y3, fun n z u hz hu => ?_⟩
 ·simp only [Rows.uptoBulkAll]
  omega
 ·match n with
  | 0 => simp at hz hu; subst hz; subst hu; exact x3
  | n + 1 => exact y4 n z u (by simpa using hz) (by simpa using hu)
theorem OpensA.map {ts : List TypeId} {α β : Type} {ok : α → Prop} {ok' : β → Prop} {l : α → List AVal} {l' : β → List AVal} {wt : α → Nat} {wt' : β → Nat} (h : OpensA P ts α ok l wt) (g : α → β) (h1 : ∀ x, ok x → ok' (g x)) (h2 : ∀ x, l' (g x) = l x) (h3 : ∀ x, wt' (g x) ≤ wt x) :
 OpensA P ts β ok' l' wt' := by
 intro H enc w base vs ds ps hok ht
 obtain ⟨x, x1, x2, x3, x4⟩ := h enc w base vs ds ps hok ht
 exact ⟨g x, h1 x x1, Nat.le_trans (h3 x) x2, by rw [h2]; exact x3, by rw [h2]; exact x4⟩
end
theorem qp3 {H : Type} {enc : TypeId × Value → H} {P : Program} (hl : laidOutB P = true) {W W' : World} (hb : Below W.heap.size W W') : ∀ {ts : List TypeId} {vs : List Value} {ds : List (DataW H)} {ps : List MemPlace}, (∀ t ∈ ts, P.readableRec t = true ∧ t < P.types.size) →
 DataW.TrodAll enc P W 0 (fun _ => true) true ts vs ds ps → (∀ x ∈ ps, x.block < W.heap.size) → DataW.TrodAll enc P W' 0 (fun b => decide (b < W.heap.size)) true ts vs ds ps
 | [], vs, ds, ps, _, h, _ => by
  obtain ⟨rfl, rfl, rfl⟩ := trodAll_nil h
  exact trodAll_mk0
 | t :: ts, vs, ds, ps, hr, h, hlt => by
  obtain ⟨v, vs', d, ds', p, q, rfl, rfl, rfl, hd, hrest⟩ := trodAll_cons h
  have h1 := hr t (by simp)
  exact trodAll_cons_mk (Below.trod hl h1.1 h1.2 hd hb fun x hx => hlt x (by simp [hx])) (qp3 hl hb (fun t' ht' => hr t' (by simp [ht'])) hrest fun x hx => hlt x (by simp [hx]))
theorem qop {P : Program} {f : FuncId} {fn : Func} {α : Type} {ok : α → Prop} {l : α → List AVal} {wt : α → Nat} {s : ChangeSpec} (hfn : P.funcs[f]? = some fn) (hr : fn.resultTypes = #[4]) (hb : P.underlying 4 = some .bool)
 (hl : laidOutB P = true) (hre : ∀ t ∈ fn.params.toList, P.readableRec t = true ∧ t < P.types.size) (hvars : s.vars = [])
 (hsfn : ∀ (H : Type) (ds : List (DataW H)), ds.length = fn.params.size → s.fn H ds = { results := [.lit (.bool true)], args := ds })
 (ho : OpensA P fn.params.toList α ok l wt) (hEv : ∀ x, ok x → wt x ≤ 1048576 → Ev P f (l x) (.ret (.bool true)))
 (H : Type) (enc : TypeId × Value → H) (W : World) (base : Nat) (args : Array Value) (ds gs : List (DataW H)) (before : List MemPlace)
 (hval : ∀ (j : Nat) t v, fn.params[j]? = some t → args[j]? = some v → Value.okWide P W .any base t v)
 (hW : DataW.Whole enc P fn.params.toList s.vars false W args.toList ds gs before) (hk : Rows.uptoSmall H (ds ++ gs) = true) :
 Calls P f args W fun e W' => ∃ v, e = .returned v ∧ s.post enc P fn false true false false W args v W' := by
 have hW' := hW
 obtain ⟨p, q, hA, hV, rfl, hfz, hnd⟩ := hW
 rw [hvars] at hV
 obtain ⟨rfl, rfl⟩ := trodVars_none hV
 obtain ⟨x, x1, x2, x3, x4⟩ := ho enc W base args.toList ds p (fun j t v ht hv => hval j t v (by simpa using ht) (by simpa using hv)) hA
 have hlen : ds.length = fn.params.size := by
  have : ∀ (ts : List TypeId) (vs : List Value) (ds : List (DataW H)) (ps : List MemPlace), DataW.TrodAll enc P W 0 (fun _ => true) true ts vs ds ps → ds.length = ts.length := by
   intro ts
   induction ts with
   | nil => intro vs ds ps h; obtain ⟨_, rfl, _⟩ := trodAll_nil h; rfl
   | cons t ts ih =>
    intro vs ds ps h
    obtain ⟨v, vs', d, ds', p, q, rfl, rfl, rfl, _, hr⟩ := trodAll_cons h
    simp [ih _ _ _ hr]
  simpa using this _ _ _ _ hA
 have hsmall : Rows.uptoBulkAll ds ≤ 1048576 := by
  have : Rows.uptoBulkAll (ds ++ []) ≤ 1048576 := of_decide_eq_true hk
  simpa using this
 have hcall := (hEv x x1 (by omega)).2 (fun _ => False) W args ⟨fun _ => 0, fun _ _ => .int .i64 0, fun _ => none, fun _ _ => rfl⟩ (fun _ => rfl) (by simpa using x3) (fun i y v hy hv => x4 i y v hy (by simpa using hv) _ (fun _ => rfl)) (fun _ h => h.elim)
 refine hcall.mono ?_
 rintro e W' ⟨G', v', hG', hAdv, he, hr'⟩
 cases hr'
 subst he
 have hbel : Below W.heap.size W W' := ⟨hAdv.os.1, hAdv.tape, hAdv.output, hAdv.size, fun b hb => (hAdv.keep b hb rfl).1⟩
 have hlt : ∀ z ∈ p, z.block < W.heap.size := fun z hz => by simpa using hW'.lt z (by simpa using hz)
 refine ⟨.bool true, rfl, ds, [], p ++ [], [], p, [], hW', ?_, ?_, ?_, hbel.frame _, fun h => by cases h⟩
 ·rw [hr, List.append_nil, hsfn H ds hlen]
  exact trodAll_cons_mk (p' := []) (shut_bool hb _) trodAll_mk0
 ·rw [List.append_nil, hsfn H ds hlen]
  exact qp3 hl hbel hre hA hlt
 ·rw [hvars, List.append_nil, hsfn H ds hlen]
  rfl
end
theorem q57 : Tryz.prog.cellsOf 3 = 1 := by kernel_rfl
theorem za2 : Tryz.prog.cellsOf 23 = 1 := by kernel_rfl
theorem qqq : Tryz.prog.cellsOf 24 = 1 := by kernel_rfl
theorem qfk : Tryz.prog.cellsOf 127 = 3 := by kernel_rfl
theorem qow : Tryz.prog.cellsOf 41 = 2 := by kernel_rfl
theorem qak : Tryz.prog.cellsOf 26 = 2 := by kernel_rfl
theorem qcu : Opens Tryz.prog 3 Int qgu (fun n => [.int .i64 n]) (fun _ => 1) := Opens.int Tryz.underlying3
theorem op_ints : Opens Tryz.prog 23 (List Int) (fun l => ∀ x ∈ l, qgu x) (fun l => [.sl 1 (q05 l)]) (wtL fun _ => 1) :=
 Opens.slice (mk := encI) Tryz.underlying23 qcu q57 (by decide) (fun _ => rfl) (fun _ => rfl) (fun x y hy => by simp at hy; subst hy; rfl)
def okS (s : Sn) : Prop := qgu s.1 ∧ qgu s.2.1 ∧ qgu s.2.2
theorem op_Span : Opens Tryz.prog 127 Sn okS (fun s => [.int .i64 s.1, .int .i64 s.2.1, .int .i64 s.2.2]) (fun _ => 1) :=
 (Opens.struct Tryz.underlying127 qfk (OpensF.cons (k := 1) qcu (fun _ => rfl) q57 rfl (OpensF.cons (k := 1) qcu (fun _ => rfl) q57 rfl (OpensF.cons (k := 1) qcu (fun _ => rfl) q57 rfl (OpensF.nil _))))).map
  (fun x => (x.1, x.2.1, x.2.2.1)) (fun x h => ⟨h.1, h.2.1, h.2.2.1⟩) (fun _ => rfl) (fun _ => Nat.le_add_left _ _)
theorem op_spans : Opens Tryz.prog 24 (List Sn) (fun l => ∀ x ∈ l, okS x) (fun l => [.sl 3 (q0d l)]) (wtL fun _ => 1) :=
 Opens.slice (mk := qqj) Tryz.underlying24 op_Span
  qfk (by decide) (fun _ => rfl) (fun _ => rfl) (fun x y hy => by simp at hy; rcases hy with rfl | rfl | rfl <;> rfl)
def okD (s : Rn) : Prop := qgu s.1 ∧ qgu s.2
theorem op_Dot : Opens Tryz.prog 41 Rn okD (fun x => [.int .i64 x.1, .int .i64 x.2]) (fun _ => 1) :=
 (Opens.struct Tryz.underlying41 qow (OpensF.cons (k := 1) qcu (fun _ => rfl) q57 rfl (OpensF.cons (k := 1) qcu (fun _ => rfl) q57 rfl (OpensF.nil _)))).map
  (fun x => (x.1, x.2.1)) (fun x h => ⟨h.1, h.2.1⟩) (fun _ => rfl) (fun _ => Nat.le_add_left _ _)
def okP (p : Pst) : Prop := (∀ x ∈ p.vec, qgu x) ∧ ∀ s ∈ p.cloud, okS s
theorem qpd {α : Type} (l : List α) : wtL (fun _ => 1) l = l.length + 1 := by
 unfold wtL
 induction l with
 | nil => rfl
 | cons x l ih => simp only [List.map_cons, List.sum_cons, List.length_cons]; omega
theorem zke : Opens Tryz.prog 26 Pst okP (fun p => [.sl 1 (q05 p.vec), .sl 3 (q0d p.cloud)]) wt :=
 (Opens.struct Tryz.underlying26 qak (OpensF.cons (k := 1) op_ints (fun _ => rfl) za2 rfl (OpensF.cons (k := 1) op_spans (fun _ => rfl) qqq rfl (OpensF.nil _)))).map (fun x => ⟨x.1, x.2.1⟩) (fun x h => ⟨h.1, h.2.1⟩) (fun _ => rfl)
  (fun x => by show x.1.length + x.2.1.length ≤ wtL (fun _ => 1) x.1 + (wtL (fun _ => 1) x.2.1 + 0) + 1; rw [qpd, qpd]; omega)
structure Cas where
 a : Pst
 b : Pst
 c : Pst
 ds : List Rn
 rep : Int
 most : Int
theorem own : ownKnob Tryz.prog.godebug = none := by kernel_rfl


def qxo : List SOp := [⟨some 4,.assign (.const (.slice none 0 0)),none⟩]
instance : Live qxo := ⟨[0,1]⟩
def qxn : List SOp := [⟨some 11,.move (.tmp 0),none⟩,⟨some 12,.call ⟨.value (.func 156),#[.tmp 11],#[149]⟩,none⟩,⟨some 13,.move (.tmp 1),none⟩,⟨some 14,.call ⟨.value (.func 156),#[.tmp 13],#[149]⟩,none⟩,⟨some 5,.assign (.tmp 12),none⟩,⟨some 6,.assign (.tmp 14),none⟩]
instance : Live qxn := ⟨[0,1]⟩
def qxm : List SOp := [⟨some 7,.assign (.const (.slice none 0 0)),none⟩]
instance : Live qxm := ⟨[5,6]⟩
def qxl : List SOp := [⟨some 8,.assign (.const (.int .i64 0)),none⟩,⟨some 9,.assign (.const (.int .i64 0)),none⟩]
instance : Live qxl := ⟨[5,6,7]⟩
def qxk : List SOp := [⟨some 15,.move (.tmp 8),none⟩,⟨some 16,.move (.tmp 5),none⟩,⟨some 17,.call ⟨.builtin .len,#[.tmp 16],#[149]⟩,none⟩,⟨some 18,.binOp .lss 3 (.tmp 15) (.tmp 17) 3,none⟩,⟨some 19,.move (.tmp 18),none⟩,⟨some 20,.move (.tmp 9),some ((some 19),true)⟩,⟨some 21,.move (.tmp 6),some ((some 19),true)⟩,⟨some 22,.call ⟨.builtin .len,#[.tmp 21],#[149]⟩,some ((some 19),true)⟩,⟨some 23,.binOp .lss 3 (.tmp 20) (.tmp 22) 3,some ((some 19),true)⟩,⟨some 24,.pick (.tmp 19) (.tmp 23) (.const (.bool false)),none⟩]
instance : Live qxk := ⟨[5,6,7,8,9]⟩
def qxj : List SOp := [⟨some 25,.move (.tmp 5),none⟩,⟨some 26,.move (.tmp 8),none⟩,⟨some 27,.indexAddr 149 (.tmp 25) (.tmp 26),none⟩,⟨some 28,.fieldAddr 179 (.tmp 27) 0,none⟩,⟨some 29,.load 3 (.tmp 28),none⟩,⟨some 30,.move (.tmp 6),none⟩,⟨some 31,.move (.tmp 9),none⟩,⟨some 32,.indexAddr 149 (.tmp 30) (.tmp 31),none⟩,⟨some 33,.fieldAddr 179 (.tmp 32) 0,none⟩,⟨some 34,.load 3 (.tmp 33),none⟩,⟨some 35,.call ⟨.builtin .max,#[.tmp 29,.tmp 34],#[3,3]⟩,none⟩,⟨some 36,.move (.tmp 5),none⟩,⟨some 37,.move (.tmp 8),none⟩,⟨some 38,.indexAddr 149 (.tmp 36) (.tmp 37),none⟩,⟨some 39,.fieldAddr 179 (.tmp 38) 1,none⟩,⟨some 40,.load 3 (.tmp 39),none⟩,⟨some 41,.move (.tmp 6),none⟩,⟨some 42,.move (.tmp 9),none⟩,⟨some 43,.indexAddr 149 (.tmp 41) (.tmp 42),none⟩,⟨some 44,.fieldAddr 179 (.tmp 43) 1,none⟩,⟨some 45,.load 3 (.tmp 44),none⟩,⟨some 46,.call ⟨.builtin .min,#[.tmp 40,.tmp 45],#[3,3]⟩,none⟩,⟨some 47,.build 179 #[(0,.tmp 35),(1,.tmp 46)],none⟩,⟨some 10,.alloc 179,none⟩,⟨none,.store 179 (.tmp 10) (.tmp 47),none⟩]
instance : Live qxj := ⟨[5,6,7,8,9]⟩
def qxi : List SOp := [⟨some 48,.fieldAddr 179 (.tmp 10) 0,none⟩,⟨some 49,.load 3 (.tmp 48),none⟩,⟨some 50,.fieldAddr 179 (.tmp 10) 1,none⟩,⟨some 51,.load 3 (.tmp 50),none⟩,⟨some 52,.binOp .leq 3 (.tmp 49) (.tmp 51) 3,none⟩]
instance : Live qxi := ⟨[5,6,7,8,9,10]⟩
def qxh : List SOp := [⟨some 53,.move (.tmp 7),none⟩,⟨some 54,.load 179 (.tmp 10),none⟩,⟨some 55,.buildSlice 149 1 #[(0,.tmp 54)],none⟩,⟨some 56,.call ⟨.builtin .append,#[.tmp 53,.tmp 55],#[149,149]⟩,none⟩,⟨some 7,.assign (.tmp 56),none⟩]
instance : Live qxh := ⟨[5,6,7,8,9,10]⟩
def qxg : List SOp := [⟨some 57,.move (.tmp 5),none⟩,⟨some 58,.move (.tmp 8),none⟩,⟨some 59,.indexAddr 149 (.tmp 57) (.tmp 58),none⟩,⟨some 60,.fieldAddr 179 (.tmp 59) 1,none⟩,⟨some 61,.load 3 (.tmp 60),none⟩,⟨some 62,.move (.tmp 6),none⟩,⟨some 63,.move (.tmp 9),none⟩,⟨some 64,.indexAddr 149 (.tmp 62) (.tmp 63),none⟩,⟨some 65,.fieldAddr 179 (.tmp 64) 1,none⟩,⟨some 66,.load 3 (.tmp 65),none⟩,⟨some 67,.binOp .lss 3 (.tmp 61) (.tmp 66) 3,none⟩]
instance : Live qxg := ⟨[5,6,7,8,9]⟩
def qkn : List SOp := [⟨some 68,.move (.tmp 8),none⟩,⟨some 69,.binOp .add 3 (.tmp 68) (.const (.int .i64 1)) 3,none⟩,⟨some 8,.assign (.tmp 69),none⟩]
instance : Live qkn := ⟨[5,6,7,8,9]⟩
def qkm : List SOp := [⟨some 70,.move (.tmp 9),none⟩,⟨some 71,.binOp .add 3 (.tmp 70) (.const (.int .i64 1)) 3,none⟩,⟨some 9,.assign (.tmp 71),none⟩]
instance : Live qkm := ⟨[5,6,7,8,9]⟩
def qkl : List SOp := [⟨some 72,.move (.tmp 7),none⟩,⟨some 4,.assign (.tmp 72),none⟩]
instance : Live qkl := ⟨[7]⟩
def qi5 : SC :=
 (.seq (.seq (.ops false qxk) (.cond (.tmp 24) .skip (.exit 0))) (.block 1 (.seq (.ops true qxj) (.seq (.seq (.ops false qxi) (.cond (.tmp 52) (.ops false qxh) .skip)) (.seq (.ops true qxg) (.cond (.tmp 67) (.ops false qkn) (.ops false qkm)))))))
def t_k160 : SC :=
 (.seq (.ops false qxo) (.seq (.ops false qxn) (.seq (.ops false qxm) (.seq (.seq (.ops false qxl) (.block 0 (.loop qi5))) (.seq (.ops false qkl) .ret)))))
theorem it_k160 : FnIs Tryz.prog 160 73 [.tmp 4] t_k160 := ⟨Tryz.f160, _, Tryz.func160, rfl, rfl, rfl, rfl, by kernel_rfl⟩

def qxf : List SOp := [⟨some 2,.assign (.const (.slice none 0 0)),none⟩]
instance : Live qxf := ⟨[0]⟩
def qxe : List SOp := [⟨some 3,.assign (.const (.slice none 0 0)),none⟩]
instance : Live qxe := ⟨[0]⟩
def qxd : List SOp := [⟨some 4,.assign (.const (.int .i64 1)),none⟩]
instance : Live qxd := ⟨[0,3]⟩
def qxc : List SOp := [⟨some 7,.move (.tmp 0),none⟩,⟨some 8,.call ⟨.builtin .len,#[.tmp 7],#[149]⟩,none⟩,⟨some 9,.move (.const (.int .i64 0)),none⟩]
instance : Live qxc := ⟨[0,3,4]⟩
def qxb : List SOp := [⟨some 10,.binOp .lss 3 (.tmp 9) (.tmp 8) 3,none⟩]
instance : Live qxb := ⟨[3,4,7,8,9]⟩
def qxa : List SOp := [⟨some 11,.indexAddr 149 (.tmp 7) (.tmp 9),none⟩,⟨some 12,.load 179 (.tmp 11),none⟩,⟨some 6,.alloc 179,none⟩,⟨none,.store 179 (.tmp 6) (.tmp 12),none⟩]
instance : Live qxa := ⟨[3,4,7,8,9]⟩
def qx9 : List SOp := [⟨some 13,.move (.tmp 4),none⟩,⟨some 14,.fieldAddr 179 (.tmp 6) 0,none⟩,⟨some 15,.load 3 (.tmp 14),none⟩,⟨some 16,.binOp .lss 3 (.tmp 13) (.tmp 15) 3,none⟩]
instance : Live qx9 := ⟨[3,4,6,7,8,9]⟩
def qx8 : List SOp := [⟨some 17,.move (.tmp 3),none⟩,⟨some 18,.move (.tmp 4),none⟩,⟨some 19,.fieldAddr 179 (.tmp 6) 0,none⟩,⟨some 20,.load 3 (.tmp 19),none⟩,⟨some 21,.binOp .sub 3 (.tmp 20) (.const (.int .i64 1)) 3,none⟩,⟨some 22,.build 179 #[(0,.tmp 18),(1,.tmp 21)],none⟩,⟨some 23,.buildSlice 149 1 #[(0,.tmp 22)],none⟩,⟨some 24,.call ⟨.builtin .append,#[.tmp 17,.tmp 23],#[149,149]⟩,none⟩,⟨some 3,.assign (.tmp 24),none⟩]
instance : Live qx8 := ⟨[3,4,6,7,8,9]⟩
def qx7 : List SOp := [⟨some 25,.fieldAddr 179 (.tmp 6) 1,none⟩,⟨some 26,.load 3 (.tmp 25),none⟩,⟨some 27,.binOp .add 3 (.tmp 26) (.const (.int .i64 1)) 3,none⟩,⟨some 4,.assign (.tmp 27),none⟩]
instance : Live qx7 := ⟨[3,6,7,8,9]⟩
def qkk : List SOp := [⟨some 28,.binOp .add 3 (.tmp 9) (.const (.int .i64 1)) 3,none⟩,⟨some 9,.move (.tmp 28),none⟩]
instance : Live qkk := ⟨[3,4,7,8,9]⟩
def qkj : List SOp := [⟨some 29,.move (.tmp 4),none⟩,⟨some 30,.binOp .leq 3 (.tmp 29) (.const (.int .i64 1000000000)) 3,none⟩]
instance : Live qkj := ⟨[3,4]⟩
def qki : List SOp := [⟨some 31,.move (.tmp 3),none⟩,⟨some 32,.move (.tmp 4),none⟩,⟨some 33,.build 179 #[(0,.tmp 32),(1,.const (.int .i64 1000000000))],none⟩,⟨some 34,.buildSlice 149 1 #[(0,.tmp 33)],none⟩,⟨some 35,.call ⟨.builtin .append,#[.tmp 31,.tmp 34],#[149,149]⟩,none⟩,⟨some 3,.assign (.tmp 35),none⟩]
instance : Live qki := ⟨[3,4]⟩
def qkh : List SOp := [⟨some 36,.move (.tmp 3),none⟩,⟨some 2,.assign (.tmp 36),none⟩]
instance : Live qkh := ⟨[3]⟩
def qi4 : SC :=
 (.seq (.ops false qxb) (.seq (.cond (.tmp 10) .skip (.exit 0)) (.seq (.block 1 (.seq (.ops false qxa) (.seq (.seq (.ops false qx9) (.cond (.tmp 16) (.ops false qx8) .skip)) (.ops false qx7)))) (.ops false qkk))))
def t_k161 : SC :=
 (.seq (.ops false qxf) (.seq (.ops false qxe) (.seq (.ops false qxd) (.seq (.seq (.ops false qxc) (.block 0 (.loop qi4))) (.seq (.seq (.ops false qkj) (.cond (.tmp 30) (.ops false qki) .skip)) (.seq (.ops false qkh) .ret))))))
theorem it_k161 : FnIs Tryz.prog 161 37 [.tmp 2] t_k161 := ⟨Tryz.f161, _, Tryz.func161, rfl, rfl, rfl, rfl, by kernel_rfl⟩

def z0s : List SOp := [⟨some 4,.assign (.const (.slice none 0 0)),none⟩]
instance : Live z0s := ⟨[0,1]⟩
def z0r : List SOp := [⟨some 5,.move (.tmp 0),none⟩,⟨some 6,.move (.tmp 1),none⟩,⟨some 7,.call ⟨.value (.func 156),#[.tmp 6],#[149]⟩,none⟩,⟨some 8,.call ⟨.value (.func 161),#[.tmp 7],#[149]⟩,none⟩,⟨some 9,.call ⟨.value (.func 160),#[.tmp 5,.tmp 8],#[149,149]⟩,none⟩,⟨some 4,.assign (.tmp 9),none⟩]
instance : Live z0r := ⟨[0,1]⟩
def t_k139 : SC :=
 (.seq (.ops false z0s) (.seq (.ops false z0r) .ret))
theorem it_k139 : FnIs Tryz.prog 139 10 [.tmp 4] t_k139 := ⟨Tryz.f139, _, Tryz.func139, rfl, rfl, rfl, rfl, by kernel_rfl⟩

def z5p : List SOp := [⟨some 4,.assign (.const (.bool false)),none⟩]
instance : Live z5p := ⟨[0,1]⟩
def z5o : List SOp := [⟨some 5,.move (.tmp 0),none⟩,⟨some 6,.move (.tmp 1),none⟩,⟨some 7,.call ⟨.value (.func 139),#[.tmp 5,.tmp 6],#[149,149]⟩,none⟩,⟨some 8,.call ⟨.builtin .len,#[.tmp 7],#[149]⟩,none⟩,⟨some 9,.binOp .eql 3 (.tmp 8) (.const (.int .i64 0)) 3,none⟩,⟨some 4,.assign (.tmp 9),none⟩]
instance : Live z5o := ⟨[0,1]⟩
def t_k107 : SC :=
 (.seq (.ops false z5p) (.seq (.ops false z5o) .ret))
theorem it_k107 : FnIs Tryz.prog 107 10 [.tmp 4] t_k107 := ⟨Tryz.f107, _, Tryz.func107, rfl, rfl, rfl, rfl, by kernel_rfl⟩

def qp2 (x y : Rn) : Rn := (max x.1 y.1, min x.2 y.2)
def qpc (r : Rn) : List Rn := if r.1 ≤ r.2 then [r] else []
def q5f : List Rn → List Rn → List Rn
 | [], _ => []
 | _ :: _, [] => []
 | x :: l, y :: m => qpc (qp2 x y) ++ if x.2 < y.2 then q5f l (y :: m) else q5f (x :: l) m
termination_by l m => l.length + m.length
theorem q9b (l : List Rn) : q5f l [] = [] := by cases l <;> simp [q5f]
theorem q7q (x y : Rn) (l m : List Rn) : q5f (x :: l) (y :: m) = qpc (qp2 x y) ++ if x.2 < y.2 then q5f l (y :: m) else q5f (x :: l) m := by
 conv => lhs; unfold q5f
structure MtS where
 i : Nat
 j : Nat
 o : List Rn
theorem z9n (a b x y : List Rn) (ha : Ev (En Tryz.prog rfl).P 156 [.sl 2 (q06 a)] (.ret (.sl 2 (q06 x)))) (hb : Ev (En Tryz.prog rfl).P 156 [.sl 2 (q06 b)] (.ret (.sl 2 (q06 y)))) (hx : x.length ≤ 400000000) (hy : y.length ≤ 400000000) :
 Ev (En Tryz.prog rfl).P 160 [.sl 2 (q06 a), .sl 2 (q06 b)] (.ret (.sl 2 (q06 (q5f x y)))) := by
 refine Ev.of_body it_k160 (by simp) (Run.start ?_)
 unfold t_k160
 have e1 := q0u x
 have e2 := q0u y
 (have hF := True.intro; refine q01 (k:=?_); clear hF)
 refine q00 [.sl 2 (q06 a)] (he := ha) (k:=?_)
 (have hF := True.intro; refine q01 (k:=?_); clear hF)
 refine q00 [.sl 2 (q06 b)] (he := hb) (k:=?_)
 (have hF := (aI @e1 @e2); refine q01 (k:=?_); clear hF)
 refine Run.wk (Wk.own_nil 7 56 2 rfl rfl) ?_
 refine Run.while (σ := MtS) (fun z => ⟨tms [(5, .sl 2 (q06 x)), (6, .sl 2 (q06 y)), (7, .os 56 z.o.length), (8, .int .i64 (z.i : Int)), (9, .int .i64 (z.j : Int))], mms [(56, .arr z.o.length 2 (q06 z.o))]⟩)
  (fun z => z.i ≤ x.length ∧ z.j ≤ y.length ∧ z.o.length ≤ z.i + z.j ∧ z.o ++ q5f (x.drop z.i) (y.drop z.j) = q5f x y) (fun z => (x.length - z.i) + (y.length - z.j)) ⟨0, 0, []⟩ (have hW := @q08; q0g) ⟨Nat.zero_le _, Nat.zero_le _, Nat.le_refl _, rfl⟩ ?_
 rintro ⟨i, j, o⟩ ⟨hi, hj, ho, hp⟩
 dsimp only at hi hj ho hp ⊢
 have e3 := q0u o
 unfold qi5
 by_cases hxi : i < x.length
 ·by_cases hyj : j < y.length
  ·obtain ⟨r, hr⟩ : ∃ r, x[i]? = some r := ⟨x[i], by simp [hxi]⟩
   obtain ⟨s, hs⟩ : ∃ s, y[j]? = some s := ⟨y[j], by simp [hyj]⟩
   have g1 := q39 hr
   have g2 := q39 hs
   obtain ⟨_, hxe⟩ := List.getElem?_eq_some_iff.1 hr
   obtain ⟨_, hye⟩ := List.getElem?_eq_some_iff.1 hs
   have hd := q7q r s (x.drop (i + 1)) (y.drop (j + 1))
   rw [← hxe, ← hye, ← List.drop_eq_getElem_cons hxi, ← List.drop_eq_getElem_cons hyj, hxe, hye] at hd
   unfold q3v at g1 g2
   (focus (have hF := (aI (aI @e1 (aI @e2 @e3)) (aI @g1 (aI @g2 @q69))); (repeat' (first | refine go1 (k:=?_) | with_reducible refine Ny.of ?_ ?_ | (refine Hyp.of ?_; intro hc; (try simp only [hc]); (try simp only [Bh] at hc)))); all_goals clear hF))
   ·rename_i hc1
    rw [show qpc (qp2 r s) = [(max r.1 s.1, min r.2 s.2)] from if_pos hc1, if_pos hc] at hd
    rw [hd, ← List.append_assoc] at hp
    have hl : (o ++ [(max r.1 s.1, min r.2 s.2)]).length = o.length + 1 := by simp
    (refine Fin.nextW (⟨i + 1, j, o ++ [(max r.1 s.1, min r.2 s.2)]⟩) ?_ (have hW := (aI @q08 @hl); q0g); (try dsimp only))
    exact ⟨⟨by omega, by omega, by rw [hl]; omega, hp⟩, by omega⟩
   ·rename_i hc1
    rw [show qpc (qp2 r s) = [(max r.1 s.1, min r.2 s.2)] from if_pos hc1, if_neg hc] at hd
    rw [hd, ← List.append_assoc] at hp
    have hl : (o ++ [(max r.1 s.1, min r.2 s.2)]).length = o.length + 1 := by simp
    (refine Fin.nextW (⟨i, j + 1, o ++ [(max r.1 s.1, min r.2 s.2)]⟩) ?_ (have hW := (aI @q08 @hl); q0g); (try dsimp only))
    exact ⟨⟨by omega, by omega, by rw [hl]; omega, hp⟩, by omega⟩
   ·rename_i hc1
    rw [show qpc (qp2 r s) = [] from if_neg hc1, if_pos hc] at hd
    rw [hd, List.nil_append] at hp
    (refine Fin.nextW (⟨i + 1, j, o⟩) ?_ (have hW := @q08; q0g); (try dsimp only))
    exact ⟨⟨by omega, by omega, by omega, hp⟩, by omega⟩
   ·rename_i hc1
    rw [show qpc (qp2 r s) = [] from if_neg hc1, if_neg hc] at hd
    rw [hd, List.nil_append] at hp
    (refine Fin.nextW (⟨i, j + 1, o⟩) ?_ (have hW := @q08; q0g); (try dsimp only))
    exact ⟨⟨by omega, by omega, by omega, hp⟩, by omega⟩
  ·rw [List.drop_eq_nil_of_le (show y.length ≤ j by omega), q9b, List.append_nil] at hp
   rw [← hp]
   (have hF := (aI @e1 (aI @e2 @e3)); refine q01 (k:=?_); clear hF)
   exact qfz (.sl 2 (q06 o))
 ·rw [List.drop_eq_nil_of_le (show x.length ≤ i by omega), show q5f [] (y.drop j) = [] by unfold q5f; rfl, List.append_nil] at hp
  rw [← hp]
  (have hF := (aI @e1 (aI @e2 @e3)); refine q01 (k:=?_); clear hF)
  exact qfz (.sl 2 (q06 o))
def q2e : Int → List Rn → List Rn
 | k, [] => qpc (k, 1000000000)
 | k, r :: l => (if k < r.1 then [(k, r.1 - 1)] else []) ++ q2e (r.2 + 1) l
def q4z (l : List Rn) : List Rn := q2e 1 l
structure OtS where
 i : Nat
 k : Int
 o : List Rn
theorem ev_k161 (l : List Rn) (hl : l.length ≤ 400000000) (hb : ∀ r ∈ l, 1 ≤ r.1 ∧ r.1 ≤ 1000000000 ∧ 1 ≤ r.2 ∧ r.2 ≤ 1000000000) : Ev (En Tryz.prog rfl).P 161 [.sl 2 (q06 l)] (.ret (.sl 2 (q06 (q4z l)))) := by
 refine Ev.of_body it_k161 (by simp) (Run.start ?_)
 unfold t_k161
 have e1 := q0u l
 (have hF := @e1; refine q01 (k:=?_); clear hF)
 refine Run.wk (Wk.own_nil 3 24 2 rfl rfl) ?_
 refine Run.while (σ := OtS) (fun z => ⟨tms [(3, .os 24 z.o.length), (4, .int .i64 z.k), (7, .sl 2 (q06 l)), (8, .int .i64 (l.length : Int)), (9, .int .i64 (z.i : Int))], mms [(24, .arr z.o.length 2 (q06 z.o))]⟩)
  (fun z => z.i ≤ l.length ∧ z.o.length ≤ z.i ∧ 1 ≤ z.k ∧ z.k ≤ 1000000001 ∧ z.o ++ q2e z.k (l.drop z.i) = q4z l) (fun z => l.length - z.i) ⟨0, 1, []⟩ (have hW := @q08; q0g) ⟨Nat.zero_le _, Nat.le_refl _, by decide, by decide, rfl⟩ ?_
 rintro ⟨i, k, o⟩ ⟨hi, ho, hk1, hk2, hp⟩
 dsimp only at hi ho hp hk1 hk2 ⊢
 have e3 := q0u o
 unfold qi4
 by_cases hlt : i < l.length
 ·obtain ⟨r, hr⟩ : ∃ r, l[i]? = some r := ⟨l[i], by simp [hlt]⟩
  have g1 := q39 hr
  have hbr := hb r (List.mem_of_getElem? hr)
  obtain ⟨_, hre⟩ := List.getElem?_eq_some_iff.1 hr
  rw [List.drop_eq_getElem_cons hlt, hre] at hp
  change o ++ ((if k < r.1 then [(k, r.1 - 1)] else []) ++ q2e (r.2 + 1) (l.drop (i + 1))) = _ at hp
  unfold q3v at g1
  (focus (have hF := (aI (aI @e1 @e3) (aI @g1 @q69)); (repeat' (first | refine go1 (k:=?_) | with_reducible refine Ny.of ?_ ?_ | (refine Hyp.of ?_; intro hc; (try simp only [hc]); (try simp only [Bh] at hc)))); all_goals clear hF))
  ·rw [if_pos hc, ← List.append_assoc] at hp
   have hl : (o ++ [(k, r.1 - 1)]).length = o.length + 1 := by simp
   (refine Fin.nextW (⟨i + 1, r.2 + 1, o ++ [(k, r.1 - 1)]⟩) ?_ (have hW := (aI @q08 @hl); q0g); (try dsimp only))
   exact ⟨⟨by omega, by rw [hl]; omega, by omega, by omega, hp⟩, by omega⟩
  ·rw [if_neg hc, List.nil_append] at hp
   (refine Fin.nextW (⟨i + 1, r.2 + 1, o⟩) ?_ (have hW := @q08; q0g); (try dsimp only))
   exact ⟨⟨by omega, by omega, by omega, by omega, hp⟩, by omega⟩
 ·rw [List.drop_eq_nil_of_le (show l.length ≤ i by omega)] at hp
  change o ++ qpc (k, 1000000000) = _ at hp
  (focus (have hF := (aI @e1 (aI @e3 @q69)); (repeat' (first | refine go1 (k:=?_) | with_reducible refine Ny.of ?_ ?_ | (refine Hyp.of ?_; intro hc; (try simp only [hc]); (try simp only [Bh] at hc)))); all_goals clear hF))
  ·rw [show qpc (k, 1000000000) = [(k, 1000000000)] from if_pos hc] at hp
   rw [← hp]
   exact qfz (.sl 2 (q06 (o ++ [(k, 1000000000)])))
  ·rw [show qpc (k, 1000000000) = [] from if_neg hc, List.append_nil] at hp
   rw [← hp]
   exact qfz (.sl 2 (q06 o))
theorem z9q (a b x y : List Rn) (hb : Ev (En Tryz.prog rfl).P 156 [.sl 2 (q06 b)] (.ret (.sl 2 (q06 y)))) (ho : Ev (En Tryz.prog rfl).P 161 [.sl 2 (q06 y)] (.ret (.sl 2 (q06 (q4z y)))))
 (hm : Ev (En Tryz.prog rfl).P 160 [.sl 2 (q06 a), .sl 2 (q06 (q4z y))] (.ret (.sl 2 (q06 x)))) : Ev (En Tryz.prog rfl).P 139 [.sl 2 (q06 a), .sl 2 (q06 b)] (.ret (.sl 2 (q06 x))) := by
 refine Ev.of_body it_k139 (by simp) (Run.start ?_)
 unfold t_k139
 (have hF := True.intro; refine q01 (k:=?_); clear hF)
 refine q00 [.sl 2 (q06 b)] (he := hb) (k:=?_)
 (have hF := True.intro; refine q01 (k:=?_); clear hF)
 refine q00 [.sl 2 (q06 y)] (he := ho) (k:=?_)
 (have hF := True.intro; refine q01 (k:=?_); clear hF)
 refine q00 [.sl 2 (q06 a), .sl 2 (q06 (q4z y))] (he := hm) (k:=?_)
 (have hF := True.intro; refine q01 (k:=?_); clear hF)
 exact qfz (.sl 2 (q06 x))
theorem z9t (a b x : List Rn) (hx : x.length ≤ 1000000000) (hm : Ev (En Tryz.prog rfl).P 139 [.sl 2 (q06 a), .sl 2 (q06 b)] (.ret (.sl 2 (q06 x)))) : Ev (En Tryz.prog rfl).P 107 [.sl 2 (q06 a), .sl 2 (q06 b)] (.ret (.bool (decide (x = [])))) := by
 refine Ev.of_body it_k107 (by simp) (Run.start ?_)
 unfold t_k107
 have e1 := q0u x
 (have hF := @e1; refine q01 (k:=?_); clear hF)
 refine q00 [.sl 2 (q06 a), .sl 2 (q06 b)] (he := hm) (k:=?_)
 (have hF := @e1; refine q01 (k:=?_); clear hF)
 have hd : decide (x = []) = decide ((x.length : Int) = 0) := by
  rw [decide_eq_decide]
  constructor
  ·intro h; rw [h]; rfl
  ·intro h; exact List.eq_nil_of_length_eq_zero (by omega)
 rw [hd]
 exact Fin.tmp' rfl rfl

theorem z7g (x : Rn) (n : Int) : inR (qpc x) n ↔ x.1 ≤ n ∧ n ≤ x.2 := by
 unfold qpc
 by_cases h : x.1 ≤ x.2
 ·rw [if_pos h]; exact q6p x n
 ·rw [if_neg h]
  constructor
  ·intro hh; exact absurd hh (q29 n)
  ·intro hh; omega
theorem qgn : ∀ {l m : List Rn}, Can l → Can m → ∀ n, inR (q5f l m) n ↔ inR l n ∧ inR m n
 | [], m, _, _, n => by
  unfold q5f
  constructor
  ·intro h; exact absurd h (q29 n)
  ·intro h; exact absurd h.1 (q29 n)
 | x :: l, [], _, _, n => by
  rw [q9b]
  constructor
  ·intro h; exact absurd h (q29 n)
  ·intro h; exact absurd h.2 (q29 n)
 | x :: l, y :: m, hl, hm, n => by
  rw [q7q, q2f, z7g, q0t, q0t]
  have a := fun h => hl.above (n := n) h
  have b := fun h => hm.above (n := n) h
  unfold qp2
  by_cases h : x.2 < y.2
  ·rw [if_pos h, qgn hl.tail hm n, q0t]
   constructor
   ·rintro (h1 | ⟨h1, h2⟩)
    ·exact ⟨.inl (by omega), .inl (by omega)⟩
    ·exact ⟨.inr h1, h2⟩
   ·rintro ⟨h1 | h1, h2⟩
    ·rcases h2 with h2 | h2
     ·exact .inl (by omega)
     ·have := b h2; omega
    ·exact .inr ⟨h1, h2⟩
  ·rw [if_neg h, qgn hl hm.tail n, q0t]
   constructor
   ·rintro (h1 | ⟨h1, h2⟩)
    ·exact ⟨.inl (by omega), .inl (by omega)⟩
    ·exact ⟨h1, .inr h2⟩
   ·rintro ⟨h1, h2 | h2⟩
    ·rcases h1 with h1 | h1
     ·exact .inl (by omega)
     ·have := a h1; omega
    ·exact .inr ⟨h1, h2⟩
termination_by l m => l.length + m.length
theorem qcy : ∀ l m : List Rn, (q5f l m).length ≤ l.length + m.length
 | [], m => by unfold q5f; simp
 | x :: l, [] => by rw [q9b]; simp
 | x :: l, y :: m => by
  rw [q7q, List.length_append]
  have h0 : (qpc (qp2 x y)).length ≤ 1 := by unfold qpc; split <;> simp
  by_cases h : x.2 < y.2
  ·rw [if_pos h]
   have := qcy l (y :: m)
   simp only [List.length_cons] at *
   omega
  ·rw [if_neg h]
   have := qcy (x :: l) m
   simp only [List.length_cons] at *
   omega
termination_by l m => l.length + m.length
theorem q96 : ∀ {l : List Rn} (k : Int), Can l → 1 ≤ k → (∀ n, inR l n → k ≤ n) → ∀ n, inR (q2e k l) n ↔ k ≤ n ∧ n ≤ 1000000000 ∧ ¬ inR l n
 | [], k, _, hk, _, n => by
  unfold q2e
  rw [z7g]
  constructor
  ·intro h; exact ⟨h.1, h.2, q29 n⟩
  ·intro h; exact ⟨h.1, h.2.1⟩
 | r :: l, k, hl, hk, hb, n => by
  have hr := (Can.cons_iff.1 hl).1
  unfold okR at hr
  have hkr : k ≤ r.1 := hb r.1 ((q0t r l _).2 (.inl ⟨Int.le_refl _, hr.2.1⟩))
  have ih := q96 (l := l) (r.2 + 1) hl.tail (by omega) (fun n h => by have := hl.above h; omega) n
  show inR ((if k < r.1 then [(k, r.1 - 1)] else []) ++ q2e (r.2 + 1) l) n ↔ _
  rw [q2f, ih, q0t]
  have a := fun h => hl.above (n := n) h
  by_cases h : k < r.1
  ·rw [if_pos h, q6p]
   constructor
   ·rintro (h1 | ⟨h1, h2, h3⟩)
    ·exact ⟨by omega, by omega, fun h4 => by
      rcases h4 with h4 | h4
      ·omega
      ·have := a h4; omega⟩
    ·exact ⟨by omega, h2, fun h4 => by
      rcases h4 with h4 | h4
      ·omega
      ·exact h3 h4⟩
   ·rintro ⟨h1, h2, h3⟩
    by_cases h4 : n < r.1
    ·exact .inl (by omega)
    ·refine .inr ⟨?_, h2, fun h5 => h3 (.inr h5)⟩
     have : ¬ (r.1 ≤ n ∧ n ≤ r.2) := fun h5 => h3 (.inl h5)
     omega
  ·rw [if_neg h]
   constructor
   ·rintro (h1 | ⟨h1, h2, h3⟩)
    ·exact absurd h1 (q29 n)
    ·exact ⟨by omega, h2, fun h4 => by
      rcases h4 with h4 | h4
      ·omega
      ·exact h3 h4⟩
   ·rintro ⟨h1, h2, h3⟩
    refine .inr ⟨?_, h2, fun h5 => h3 (.inr h5)⟩
    have : ¬ (r.1 ≤ n ∧ n ≤ r.2) := fun h5 => h3 (.inl h5)
    omega
theorem q5v : ∀ (l : List Rn) (k : Int), (q2e k l).length ≤ l.length + 1
 | [], k => by unfold q2e qpc; split <;> simp
 | r :: l, k => by
  have := q5v l (r.2 + 1)
  show ((if k < r.1 then [(k, r.1 - 1)] else []) ++ q2e (r.2 + 1) l).length ≤ _
  rw [List.length_append, List.length_cons]
  split <;> simp <;> omega
theorem qex {l : List Rn} (h : Can l) (n : Int) : inR (q4z l) n ↔ 1 ≤ n ∧ n ≤ 1000000000 ∧ ¬ inR l n :=
 q96 1 h (by omega) (fun n hn => (h.bound hn).1) n
def q51 (a b : List Rn) : List Rn := q5f (q0y a) (q0y (q4z (q0y b)))
theorem q65 (a b : List Rn) (n : Int) : inR (q51 a b) n ↔ mem1 a n ∧ ¬ mem1 b n := by
 unfold q51
 rw [qgn (q1d _) (q1d _), q2k, q2k]
 constructor
 ·rintro ⟨h1, h2⟩
  refine ⟨h1, fun h3 => ?_⟩
  have := (qex (q1d b) n).1 h2.2.2
  exact this.2.2 ((q2k b n).2 h3)
 ·rintro ⟨h1, h2⟩
  refine ⟨h1, h1.1, h1.2.1, (qex (q1d b) n).2 ⟨h1.1, h1.2.1, fun h3 => h2 ((q2k b n).1 h3)⟩⟩

def zg9 : List SOp := [⟨some 2,.box 26 (.tmp 0),none⟩,⟨some 3,.box 26 (.tmp 1),none⟩,⟨some 4,.assign (.const (.bool false)),none⟩]
instance : Live zg9 := ⟨[0,1]⟩
def zg8 : List SOp := [⟨some 8,.load 26 (.tmp 2),none⟩,⟨some 9,.buildSlice 116 1 #[(0,.tmp 8)],none⟩,⟨some 10,.call ⟨.value (.func 96),#[.tmp 9],#[116]⟩,none⟩,⟨some 11,.load 26 (.tmp 3),none⟩,⟨some 12,.buildSlice 116 1 #[(0,.tmp 11)],none⟩,⟨some 13,.call ⟨.value (.func 96),#[.tmp 12],#[116]⟩,none⟩,⟨some 5,.assign (.tmp 10),none⟩,⟨some 6,.assign (.tmp 13),none⟩]
instance : Live zg8 := ⟨[2,3]⟩
def zg7 : List SOp := [⟨some 14,.move (.const (.int .i64 0)),none⟩]
instance : Live zg7 := ⟨[5,6]⟩
def zg6 : List SOp := [⟨some 15,.binOp .lss 3 (.tmp 14) (.const (.int .i64 16)) 3,none⟩]
instance : Live zg6 := ⟨[5,6,14]⟩
def zg5 : List SOp := [⟨some 16,.move (.tmp 14),none⟩,⟨some 7,.assign (.tmp 16),none⟩]
instance : Live zg5 := ⟨[5,6,14]⟩
def zg4 : List SOp := [⟨some 17,.move (.tmp 5),none⟩,⟨some 18,.move (.tmp 7),none⟩,⟨some 19,.nilCheck (.tmp 17),none⟩,⟨some 20,.indexAddr 151 (.tmp 19) (.tmp 18),none⟩,⟨some 21,.load 149 (.tmp 20),none⟩,⟨some 22,.call ⟨.builtin .len,#[.tmp 21],#[149]⟩,none⟩,⟨some 23,.binOp .gtr 3 (.tmp 22) (.const (.int .i64 0)) 3,none⟩,⟨some 24,.move (.tmp 23),none⟩,⟨some 25,.move (.tmp 5),some ((some 24),true)⟩,⟨some 26,.move (.tmp 7),some ((some 24),true)⟩,⟨some 27,.nilCheck (.tmp 25),some ((some 24),true)⟩,⟨some 28,.indexAddr 151 (.tmp 27) (.tmp 26),some ((some 24),true)⟩,⟨some 29,.load 149 (.tmp 28),some ((some 24),true)⟩,⟨some 30,.move (.tmp 6),some ((some 24),true)⟩,⟨some 31,.move (.tmp 7),some ((some 24),true)⟩,⟨some 32,.nilCheck (.tmp 30),some ((some 24),true)⟩,⟨some 33,.indexAddr 151 (.tmp 32) (.tmp 31),some ((some 24),true)⟩,⟨some 34,.load 149 (.tmp 33),some ((some 24),true)⟩,⟨some 35,.call ⟨.value (.func 107),#[.tmp 29,.tmp 34],#[149,149]⟩,some ((some 24),true)⟩,⟨some 36,.unOp .not 4 (.tmp 35),some ((some 24),true)⟩,⟨some 37,.pick (.tmp 24) (.tmp 36) (.const (.bool false)),none⟩]
instance : Live zg4 := ⟨[5,6,7,14]⟩
def zg3 : List SOp := [⟨some 4,.assign (.const (.bool false)),none⟩]
instance : Live zg3 := ⟨[]⟩
def zg2 : List SOp := [⟨some 38,.binOp .add 3 (.tmp 14) (.const (.int .i64 1)) 3,none⟩,⟨some 14,.move (.tmp 38),none⟩]
instance : Live zg2 := ⟨[5,6,14]⟩
def zg1 : List SOp := [⟨some 4,.assign (.const (.bool true)),none⟩]
instance : Live zg1 := ⟨[]⟩
def qrn : SC :=
 (.seq (.ops false zg6) (.seq (.cond (.tmp 15) .skip (.exit 0)) (.seq (.block 1 (.seq (.ops false zg5) (.seq (.ops true zg4) (.cond (.tmp 37) (.seq (.ops false zg3) .ret) .skip)))) (.ops false zg2))))
def t_k56 : SC :=
 (.seq (.ops false zg9) (.seq (.ops true zg8) (.seq (.seq (.ops false zg7) (.block 0 (.loop qrn))) (.seq (.ops false zg1) .ret))))
theorem it_k56 : FnIs Tryz.prog 56 39 [.tmp 4] t_k56 := ⟨Tryz.f56, _, Tryz.func56, rfl, rfl, rfl, rfl, by kernel_rfl⟩

def zcj : List SOp := [⟨some 1,.box 26 (.tmp 0),none⟩,⟨some 2,.assign (.const (.bool false)),none⟩]
instance : Live zcj := ⟨[0]⟩
def zci : List SOp := [⟨some 3,.load 26 (.tmp 1),none⟩,⟨some 4,.call ⟨.value (.func 132),#[.tmp 3],#[26]⟩,none⟩,⟨some 5,.binOp .eql 3 (.tmp 4) (.const (.int .i64 0)) 3,none⟩,⟨some 2,.assign (.tmp 5),none⟩]
instance : Live zci := ⟨[1]⟩
def t_k92 : SC :=
 (.seq (.ops false zcj) (.seq (.ops false zci) .ret))
theorem it_k92 : FnIs Tryz.prog 92 6 [.tmp 2] t_k92 := ⟨Tryz.f92, _, Tryz.func92, rfl, rfl, rfl, rfl, by kernel_rfl⟩

theorem ev_k160 (a b : List Rn) (ha : a.length ≤ 300000000) (hb : b.length ≤ 300000000) : Ev (En Tryz.prog rfl).P 160 [.sl 2 (q06 a), .sl 2 (q06 b)] (.ret (.sl 2 (q06 (q5f (q0y a) (q0y b))))) :=
 z9n a b _ _ (qdi a (by omega)) (qdi b (by omega)) (by have := q1z a; omega) (by have := q1z b; omega)
theorem zm6 (a b : List Rn) (ha : a.length ≤ 200000000) (hb : b.length ≤ 200000000) : Ev (En Tryz.prog rfl).P 139 [.sl 2 (q06 a), .sl 2 (q06 b)] (.ret (.sl 2 (q06 (q51 a b)))) := by
 have h1 := q1z b
 have h2 := q5v (q0y b) 1
 exact z9q a b _ _ (qdi b (by omega)) (ev_k161 _ (by omega) fun r hr => by have := (q1d b).2 r hr; unfold okR at this; omega) (ev_k160 a _ (by omega) (by unfold q4z; omega))
theorem q7p (a b : List Rn) : (q51 a b).length ≤ a.length + b.length + 1 := by
 have h1 := qcy (q0y a) (q0y (q4z (q0y b)))
 have h2 := q1z a
 have h3 := q1z (q4z (q0y b))
 have h4 := q5v (q0y b) 1
 have h5 := q1z b
 unfold q51 q4z at *
 omega
theorem ev_k107 (a b : List Rn) (ha : a.length ≤ 200000000) (hb : b.length ≤ 200000000) : Ev (En Tryz.prog rfl).P 107 [.sl 2 (q06 a), .sl 2 (q06 b)] (.ret (.bool (decide (q51 a b = [])))) :=
 z9t a b _ (by have := q7p a b; omega) (zm6 a b ha hb)
def zaf (t u : Tab) : Prop := ∀ r, r < 16 → q51 (t.getD r []) (u.getD r []) = []
open Classical in
noncomputable def q14 (p q : Pst) : Bool := decide (zaf (q0l [p]) (q0l [q]))
theorem qao {p q : Pst} (h : zaf (q0l [p]) (q0l [q])) : q14 p q = true := by
 classical
 exact decide_eq_true h
theorem q8u {p q : Pst} (h : ¬ zaf (q0l [p]) (q0l [q])) : q14 p q = false := by
 classical
 exact decide_eq_false h
theorem qgm : ∀ (l m : List Rn), ∀ r ∈ q5f l m, r.1 ≤ r.2
 | [], m, r, h => by unfold q5f at h; simp at h
 | x :: l, [], r, h => by rw [q9b] at h; simp at h
 | x :: l, y :: m, r, h => by
  rw [q7q] at h
  rcases List.mem_append.1 h with h | h
  ·unfold qpc at h
   split at h
   ·rename_i hc
    simp at h
    subst h
    exact hc
   ·simp at h
  ·split at h
   ·exact qgm l (y :: m) r h
   ·exact qgm (x :: l) m r h
termination_by l m => l.length + m.length
theorem zas {t u : Tab} : zaf t u ↔ ∀ r, r < 16 → ∀ n, inT t r n → inT u r n := by
 constructor
 ·intro h r hr n hn
  by_cases h' : inT u r n
  ·exact h'
  ·have := (q65 (t.getD r []) (u.getD r []) n).2 ⟨hn, h'⟩
   rw [h r hr] at this
   exact absurd this (q29 n)
 ·intro h r hr
  cases hm : q51 (t.getD r []) (u.getD r []) with
  | nil => rfl
  | cons x l =>
   have hx : x ∈ q51 (t.getD r []) (u.getD r []) := by rw [hm]; exact List.mem_cons_self
   have hok := qgm _ _ x hx
   have := (q65 (t.getD r []) (u.getD r []) x.1).1 ⟨x, hx, Int.le_refl _, hok⟩
   exact absurd (h r hr x.1 this.1) this.2
theorem q6h {p q : Pst} : q14 p q = true ↔ ∀ r, r < 16 → ∀ n, inP p r n → inP q r n := by
 have h : zaf (q0l [p]) (q0l [q]) ↔ ∀ r, r < 16 → ∀ n, inP p r n → inP q r n := by
  rw [zas]
  constructor
  ·intro h r hr n
   have := h r hr n
   rw [q5w hr, q5w hr] at this
   simpa using this
  ·intro h r hr n
   rw [q5w hr, q5w hr]
   simpa using h r hr n
 rw [← h]
 constructor
 ·intro h1
  by_cases h2 : zaf (q0l [p]) (q0l [q])
  ·exact h2
  ·rw [q8u h2] at h1; simp at h1
 ·exact qao
theorem z91 (b : List Rn) : q51 [] b = [] := by
 unfold q51
 rw [q4e Can.nil]
 unfold q5f
 rfl
theorem ev_k56 (p q : Pst) (hp : wt p ≤ 100000000) (hq : wt q ≤ 100000000) : Ev (En Tryz.prog rfl).P 56 [q0f p, q0f q] (.ret (.bool (q14 p q))) := by
 refine Ev.of_body it_k56 (by simp) (Run.start ?_)
 unfold t_k56 q0f
 have c1 := qf9 [p] (by simp) (by simp; omega)
 have c2 := qf9 [q] (by simp) (by simp; omega)
 have ht : TabLe (q0l [p]) (wt p) := by simpa using q1c [p]
 have hu : TabLe (q0l [q]) (wt q) := by simpa using q1c [q]
 have hr := @qao p q
 have hr' := @q8u p q
 (have hF := True.intro; refine q01 (k:=?_); clear hF)
 refine q00 [.sl 2 (q1k [p])] (he := c1) (k:=?_)
 (have hF := True.intro; refine q01 (k:=?_); clear hF)
 refine q00 [.sl 2 (q1k [q])] (he := c2) (k:=?_)
 clear c1 c2
 generalize q0l [p] = t at ht hr hr' ⊢
 generalize q0l [q] = u at hu hr hr' ⊢
 have e1 : (q1w t).length = 16 := by rw [q55, ht.1]
 have e2 : (q1w u).length = 16 := by rw [q55, hu.1]
 (have hF := (aI @e1 @e2); refine q01 (k:=?_); clear hF)
 refine Run.while (σ := Nat) (fun i => ⟨tms [(5, .sptr (q1w t)), (6, .sptr (q1w u)), (14, .int .i64 (i : Int))], mms []⟩) (fun i => i ≤ 16 ∧ ∀ r, r < i → q51 (t.getD r []) (u.getD r []) = []) (fun i => 16 - i) 0 (have hW := @q1b; q0g) ⟨Nat.zero_le _, fun j hj => absurd hj (Nat.not_lt_zero _)⟩ ?_
 rintro i ⟨hi, hp⟩
 unfold qrn
 by_cases hlt : i < 16
 ·have hit : i < t.length := by rw [ht.1]; exact hlt
  have hiu : i < u.length := by rw [hu.1]; exact hlt
  have h1 := ht.2 i
  have h2 := hu.2 i
  have g1 := q7j (q67 hit)
  have g2 := q7j (q67 hiu)
  have c3 := ev_k107 (t.getD i []) (u.getD i []) (by omega) (by omega)
  have hs : q51 (t.getD i []) (u.getD i []) = [] → ∀ r, r < i + 1 → q51 (t.getD r []) (u.getD r []) = [] := fun h r hr => by
   by_cases e : r = i
   ·rw [e]; exact h
   ·exact hp r (by omega)
  have e3 := q0u (t.getD i [])
  by_cases hn : t.getD i [] = []
  ·have hs2 := hs (by rw [hn, z91])
   have e4 : (q06 (t.getD i [])).length = 0 := by rw [e3, hn]; rfl
   (have hF := (aI (aI @e1 @e2) (aI @g1 (aI @g2 @e4))); refine q01 (k:=?_); clear hF)
   (refine Fin.nextW (i + 1) ?_ (have hW := @q1b; q0g); (try dsimp only))
   exact ⟨⟨hlt, hs2⟩, by omega⟩
  ·have e4 : 0 < (t.getD i []).length := List.length_pos_iff.2 hn
   (have hF := (aI (aI @e1 @e2) (aI @g1 (aI @g2 @e3))); refine q01 (k:=?_); clear hF)
   refine q00 [.sl 2 (q06 (t.getD i [])), .sl 2 (q06 (u.getD i []))] (he := c3) (k:=?_)
   (focus (have hF := (aI (aI @e1 @e2) (aI @g1 (aI @g2 @e3))); (repeat' (first | refine go1 (k:=?_) | with_reducible refine Ny.of ?_ ?_ | (refine Hyp.of ?_; intro hc; (try simp only [hc]); (try simp only [Bh] at hc)))); all_goals clear hF))
   ·rw [hr' fun h => hc (h i hlt)]
    exact Fin.tmp' rfl rfl
   ·have hs2 := hs hc
    (refine Fin.nextW (i + 1) ?_ (have hW := @q1b; q0g); (try dsimp only))
    exact ⟨⟨hlt, hs2⟩, by omega⟩
 ·rw [hr fun r hr => hp r (by omega)]
  (have hF := (aI @e1 @e2); refine q01 (k:=?_); clear hF)
  exact Fin.tmp' rfl rfl
theorem z7r (p : Pst) (hp : wt p ≤ 50000000) : Ev (En Tryz.prog rfl).P 92 [q0f p] (.ret (.bool (decide (q3e p = 0)))) := by
 refine Ev.of_body it_k92 (by simp) (Run.start ?_)
 unfold t_k92 q0f
 (have hF := True.intro; refine q01 (k:=?_); clear hF)
 refine q00 [q0f p] (he := ev_k132 p hp) (k:=?_)
 (have hF := True.intro; refine q01 (k:=?_); clear hF)
 exact Fin.tmp' rfl rfl

def qx6 : List SOp := [⟨some 3,.box 26 (.tmp 0),none⟩,⟨some 4,.box 26 (.tmp 1),none⟩,⟨some 6,.alloc 26,none⟩]
instance : Live qx6 := ⟨[0,1,2]⟩
def qx5 : List SOp := [⟨some 10,.load 26 (.tmp 3),none⟩,⟨some 11,.buildSlice 116 1 #[(0,.tmp 10)],none⟩,⟨some 12,.call ⟨.value (.func 96),#[.tmp 11],#[116]⟩,none⟩,⟨some 13,.load 26 (.tmp 4),none⟩,⟨some 14,.buildSlice 116 1 #[(0,.tmp 13)],none⟩,⟨some 15,.call ⟨.value (.func 96),#[.tmp 14],#[116]⟩,none⟩,⟨some 7,.assign (.tmp 12),none⟩,⟨some 8,.assign (.tmp 15),none⟩]
instance : Live qx5 := ⟨[2,3,4,6]⟩
def qx4 : List SOp := [⟨some 16,.move (.const (.int .i64 0)),none⟩]
instance : Live qx4 := ⟨[2,6,7,8]⟩
def qx3 : List SOp := [⟨some 17,.binOp .lss 3 (.tmp 16) (.const (.int .i64 16)) 3,none⟩]
instance : Live qx3 := ⟨[2,6,7,8,16]⟩
def qx2 : List SOp := [⟨some 18,.move (.tmp 16),none⟩,⟨some 9,.assign (.tmp 18),none⟩]
instance : Live qx2 := ⟨[2,6,7,8,16]⟩
def qx1 : List SOp := [⟨some 19,.move (.tmp 7),none⟩,⟨some 20,.move (.tmp 9),none⟩,⟨some 21,.move (.tmp 2),none⟩,⟨some 22,.move (.tmp 7),none⟩,⟨some 23,.move (.tmp 9),none⟩,⟨some 24,.nilCheck (.tmp 22),none⟩,⟨some 25,.indexAddr 151 (.tmp 24) (.tmp 23),none⟩,⟨some 26,.load 149 (.tmp 25),none⟩,⟨some 27,.move (.tmp 8),none⟩,⟨some 28,.move (.tmp 9),none⟩,⟨some 29,.nilCheck (.tmp 27),none⟩,⟨some 30,.indexAddr 151 (.tmp 29) (.tmp 28),none⟩,⟨some 31,.load 149 (.tmp 30),none⟩,⟨some 32,.call ⟨.value (.tmp 21),#[.tmp 26,.tmp 31],#[149,149]⟩,none⟩,⟨some 33,.nilCheck (.tmp 19),none⟩,⟨some 34,.indexAddr 151 (.tmp 33) (.tmp 20),none⟩,⟨none,.store 149 (.tmp 34) (.tmp 32),none⟩]
instance : Live qx1 := ⟨[2,6,7,8,9,16]⟩
def qx0 : List SOp := [⟨some 35,.binOp .add 3 (.tmp 16) (.const (.int .i64 1)) 3,none⟩,⟨some 16,.move (.tmp 35),none⟩]
instance : Live qx0 := ⟨[2,6,7,8,16]⟩
def qwz : List SOp := [⟨some 36,.move (.tmp 7),none⟩,⟨some 37,.call ⟨.value (.func 97),#[.tmp 36],#[137]⟩,none⟩,⟨none,.store 26 (.tmp 6) (.tmp 37),none⟩]
instance : Live qwz := ⟨[6,7]⟩
def qi3 : SC :=
 (.seq (.ops false qx3) (.seq (.cond (.tmp 17) .skip (.exit 0)) (.seq (.block 1 (.seq (.ops false qx2) (.ops true qx1))) (.ops false qx0))))
def t_k162 : SC :=
 (.seq (.ops false qx6) (.seq (.ops true qx5) (.seq (.seq (.ops false qx4) (.block 0 (.loop qi3))) (.seq (.ops false qwz) .ret))))
theorem it_k162 : FnIs Tryz.prog 162 38 [.cell 6 26] t_k162 := ⟨Tryz.f162, _, Tryz.func162, rfl, rfl, rfl, rfl, by kernel_rfl⟩

def z0q : List SOp := [⟨some 2,.box 26 (.tmp 0),none⟩,⟨some 3,.box 26 (.tmp 1),none⟩,⟨some 4,.alloc 26,none⟩]
instance : Live z0q := ⟨[0,1]⟩
def z0p : List SOp := [⟨some 5,.load 26 (.tmp 2),none⟩,⟨some 6,.load 26 (.tmp 3),none⟩,⟨some 7,.call ⟨.value (.func 162),#[.tmp 5,.tmp 6,.func 139],#[26,26,186]⟩,none⟩,⟨none,.store 26 (.tmp 4) (.tmp 7),none⟩]
instance : Live z0p := ⟨[2,3,4]⟩
def t_k140 : SC :=
 (.seq (.ops false z0q) (.seq (.ops false z0p) .ret))
theorem it_k140 : FnIs Tryz.prog 140 8 [.cell 4 26] t_k140 := ⟨Tryz.f140, _, Tryz.func140, rfl, rfl, rfl, rfl, by kernel_rfl⟩

theorem new_k96 (ps : List Pst) (hl : ps.length ≤ 1000000000) (hw : (ps.map wt).sum ≤ 900000000) : EvNew (En Tryz.prog rfl).P 96 [.sl 2 (q1k ps)] (q1w (q0l ps)) := by
 refine EvNew.of_body it_k96 (by simp) (Run.start ?_)
 unfold t_k96
 have e0 : (q1k ps).length = ps.length := q9l _
 (have hF := @e0; refine q1i (k:=?_); clear hF)
 refine Run.wk (Wk.trans (Wk.own_cells (k := 10) (cs' := q4p q6e) rfl rfl ?_) (Wk.toL [(3, .ptr 10 0), (11, .sl 2 (q1k ps)), (12, .int .i64 ps.length), (13, .int .i64 0)] [(10, .cells (q4p q6e))] ⟨rfl, rfl, rfl, rfl, trivial⟩ ⟨rfl, trivial⟩ ⟨rfl, q0e ps, rfl, rfl, trivial⟩ ⟨q2r _ _, trivial⟩)) ?_
 ·intro i x y hx hy
  have hx' : (List.replicate 16 AVal.nil)[i]? = some x := hx
  rw [List.getElem?_replicate] at hx'
  have hy' : (List.replicate 16 (AVal.own 2 []))[i]? = some y := hy
  rw [List.getElem?_replicate] at hy'
  split at hx'
  ·rename_i h16
   rw [if_pos h16] at hy'
   cases hx'; cases hy'
   exact .inr ⟨rfl, 2, rfl⟩
  ·cases hx'
 refine Run.range ps.length (fun i => ⟨tms [(3, .ptr 10 0), (11, .sl 2 (q1k ps)), (12, .int .i64 ps.length), (13, .int .i64 i)], mms [(10, .cells (q4p ((ps.take i).foldl q1n q6e)))]⟩) (Wk.refl _ _) (fun i hi => ?_) ?_
 ·have hq0 := TabLe.all q9x (ps.take i)
  obtain ⟨p, hp⟩ : ∃ p, ps[i]? = some p := ⟨ps[i], by simp [hi]⟩
  rw [q2w q1n q6e ps hp]
  have hsum : ((ps.take i).map wt).sum + wt p ≤ (ps.map wt).sum := by
   have : ((ps.take (i + 1)).map wt).sum ≤ (ps.map wt).sum := by rw [List.map_take]; exact q8i _
   rw [List.take_add_one, hp] at this
   simpa using this
  generalize (ps.take i).foldl q1n q6e = u at hq0 ⊢
  generalize ((ps.take i).map wt).sum = m at hq0 hsum
  have hwt : wt p = p.vec.length + p.cloud.length := rfl
  have hv : p.vec.length ≤ 1000000000 := by omega
  have hc : p.cloud.length ≤ 1000000000 := by omega
  have e1 : ((i : Int) < (ps.length : Int)) = True := by simp only [eq_iff_iff, iff_true]; omega
  have e2 : (0 ≤ (i : Int)) = True := by simp
  have e3 : (q1k ps)[i]? = some (.agg [.sl 1 (q05 p.vec), .sl 3 (q0d p.cloud)]) := qdn hp
  have e4 : (q05 p.vec).length = p.vec.length := q0i _
  have e5 : (q0d p.cloud).length = p.cloud.length := q1e _
  have e13 : IntKind.i64.wrap ((i : Int) + 1) = ((i + 1 : Nat) : Int) := by rw [q3d (by omega)]; omega
  unfold q8x
  (have hF := (aI (aI @e0 (aI @e1 @e2)) (aI @e3 (aI @e4 @e5))); refine q1i (k:=?_); clear hF)
  refine Run.wk (Wk.toL [(3, .ptr 10 0), (11, .sl 2 (q1k ps)), (12, .int .i64 ps.length), (13, .int .i64 i), (5, .ptr 5 0), (20, .int .i64 (min p.vec.length 16)), (21, .int .i64 0)] [(10, .cells (q4p u)), (5, .cells [.sl 1 (q05 p.vec), .sl 3 (q0d p.cloud)])] ⟨rfl, rfl, rfl, rfl, rfl, rfl, rfl, trivial⟩ ⟨rfl, rfl, trivial⟩ ⟨rfl, q0e ps, rfl, rfl, rfl, rfl, rfl, trivial⟩ ⟨q2r _ _, by simp [ABlk.no, AVal.noC, AVal.no, AVal.stb, q03, q04], trivial⟩) ?_
  refine zkc (.sl 2 (q1k ps)) (q0e ps) _ _ p hv u (n0 := 0 + m) hq0 (by omega) ?_
  (have hF := (aI (aI @e0 (aI @e1 @e2)) (aI @e3 (aI @e4 @e5))); refine q1i (k:=?_); clear hF)
  refine Run.wk (Wk.toL [(3, .ptr 10 0), (11, .sl 2 (q1k ps)), (12, .int .i64 ps.length), (13, .int .i64 i), (43, .sl 3 (q0d p.cloud)), (44, .int .i64 p.cloud.length), (45, .int .i64 0)] [(10, .cells (q4p (q5b p.vec u)))] ⟨rfl, rfl, rfl, rfl, rfl, rfl, rfl, trivial⟩ ⟨rfl, trivial⟩ ⟨rfl, q0e ps, rfl, rfl, q04 _, rfl, rfl, trivial⟩ ⟨q2r _ _, trivial⟩) ?_
  refine zkb (.sl 2 (q1k ps)) (q0e ps) _ _ p.cloud hc (q5b p.vec u) (n0 := 0 + m + min p.vec.length 16) (TabLe.range hq0 _) (by omega) ?_
  (have hF := (aI (aI @e0 (aI @e1 @e2)) (aI (aI @e3 @e4) (aI @e5 @e13))); refine q1i (k:=?_); clear hF)
  exact Fin.next (Wk.toL _ _ ⟨rfl, rfl, rfl, rfl, trivial⟩ ⟨rfl, trivial⟩ ⟨rfl, q0e ps, rfl, rfl, trivial⟩ ⟨q2r _ _, trivial⟩)
 ·have e1 : ((ps.length : Int) < (ps.length : Int)) = False := by simp
  have e3 : ps.take ps.length = ps := List.take_length
  rw [e3]
  refine Run.wk (Wk.freeze (k := 10) (cs := q4p (q0l ps)) rfl) ?_
  unfold q8x
  (have hF := (aI @e0 @e1); refine q1i (k:=?_); clear hF)
  have hf : (q4p (q0l ps)).map frz = q1w (q0l ps) := by
   unfold q4p q1w
   rw [List.map_map]
   rfl
  refine Fin.done ⟨10, rfl, ?_, q1b _⟩
  rw [← hf]
  rfl
theorem encTs_fz (K : Nat → Bool) (M : Mem) (t : Tab) : (q1w t).map (fzc K M) = q1w t := by
 unfold q1w
 rw [List.map_map]
 rfl
theorem zmd (t : Tab) (i : Nat) (l : List Rn) : (q1w t).set i (.sl 2 (q06 l)) = q1w (t.set i l) := by simp [q1w, List.map_set]
theorem z9m (p q : Pst) (g : FuncId) (h : Nat → List Rn) {N : Nat} (hp : wt p ≤ 100000000) (hq : wt q ≤ 100000000) (hN : N ≤ 50000000) (hlen : ∀ r, r < 16 → (h r).length ≤ N)
 (hf : ∀ r, r < 16 → Ev (En Tryz.prog rfl).P g [.sl 2 (q06 ((q0l [p]).getD r [])), .sl 2 (q06 ((q0l [q]).getD r []))] (.ret (.sl 2 (q06 (h r))))) :
 Ev (En Tryz.prog rfl).P 162 [q0f p, q0f q, .fn g []] (.ret (q0f (q5u ((List.range 16).map h)))) := by
 refine Ev.of_body it_k162 (by simp) (Run.start ?_)
 unfold t_k162 q0f
 have c1 := new_k96 [p] (by simp) (by simp; omega)
 have c2 := qf9 [q] (by simp) (by simp; omega)
 have ht : TabLe (q0l [p]) (wt p) := by simpa using q1c [p]
 have hu : TabLe (q0l [q]) (wt q) := by simpa using q1c [q]
 (have hF := True.intro; refine q01 (k:=?_); clear hF)
 refine stNew [.sl 2 (q1k [p])] (he := c1) (k:=?_)
 (have hF := True.intro; refine q01 (k:=?_); clear hF)
 refine q00 [.sl 2 (q1k [q])] (he := c2) (k:=?_)
 clear c1 c2
 generalize q0l [p] = t at ht hf ⊢
 generalize q0l [q] = u at hu hf ⊢
 have e2 : (q1w u).length = 16 := by rw [q55, hu.1]
 have e1 : (q1w t).length = 16 := by rw [q55, ht.1]
 (have hF := (aI @e1 @e2); refine q01 (k:=?_); clear hF)
 refine Run.while (σ := Nat × Tab) (fun z => ⟨tms [(2, .fn g []), (6, .ptr 6 0), (7, .ptr 12 0), (8, .sptr (q1w u)), (16, .int .i64 (z.1 : Int))], mms [(6, .cells [.nil, .nil]), (12, .cells (q1w z.2))]⟩)
  (fun z => z.1 ≤ 16 ∧ z.2.length = 16 ∧ ∀ r, r < 16 → z.2.getD r [] = if r < z.1 then h r else t.getD r []) (fun z => 16 - z.1) (0, t) (have hW := @q1b; q0g) ⟨Nat.zero_le _, ht.1, fun r _ => by rw [if_neg (Nat.not_lt_zero r)]⟩ ?_
 rintro ⟨i, T⟩ ⟨hi, hT, hrow⟩
 dsimp only at hi hT hrow ⊢
 have e3 : (q1w T).length = 16 := by rw [q55, hT]
 unfold qi3
 by_cases hlt : i < 16
 ·have hiT : i < T.length := by omega
  have hiu : i < u.length := by rw [hu.1]; exact hlt
  have hrT : T.getD i [] = t.getD i [] := by rw [hrow i hlt, if_neg (by omega)]
  have g1 := q67 hiT
  have g2 := q7j (q67 hiu)
  rw [hrT] at g1
  have c3 := hf i hlt
  have hs : List.take i (q1w T) ++ [AVal.sl 2 (q06 (h i))] ++ List.drop (i + 1) (q1w T) = q1w (T.set i (h i)) := by
   rw [← zmd, List.set_eq_take_append_cons_drop, if_pos (by omega), List.append_assoc]
   rfl
  have hrow2 : ∀ r, r < 16 → (T.set i (h i)).getD r [] = if r < i + 1 then h r else t.getD r [] := fun r hr => by
   rw [List.getD_eq_getElem?_getD, List.getElem?_set]
   by_cases e : i = r
   ·subst e
    rw [if_pos rfl, if_pos hiT, if_pos (by omega)]
    rfl
   ·rw [if_neg e, ← List.getD_eq_getElem?_getD, hrow r hr]
    by_cases hr2 : r < i
    ·rw [if_pos hr2, if_pos (by omega)]
    ·rw [if_neg hr2, if_neg (by omega)]
  (have hF := (aI (aI @e2 @e3) (aI @g1 @g2)); refine q01 (k:=?_); clear hF)
  refine q00 [.sl 2 (q06 (t.getD i [])), .sl 2 (q06 (u.getD i []))] (he := c3) (k:=?_)
  (have hF := (aI (aI @e2 @e3) (aI @g1 @g2)); refine q01 (k:=?_); clear hF)
  rw [hs]
  (refine Fin.nextW ((i + 1, T.set i (h i))) ?_ (have hW := @q1b; q0g); (try dsimp only))
  exact ⟨⟨by show i + 1 ≤ 16; omega, by show (T.set i (h i)).length = 16; rw [List.length_set]; exact hT, hrow2⟩, by show 16 - (i + 1) < 16 - i; omega⟩
 ·have hTh : T = (List.range 16).map h := by
   refine List.ext_getElem (by simp [hT]) fun j h1 h2 => ?_
   have := hrow j (by omega)
   rw [if_pos (by omega), List.getD_eq_getElem?_getD, List.getElem?_eq_getElem h1] at this
   simpa using this
  rw [← hTh]
  have hTl : TabLe T N := by
   refine ⟨hT, fun r => ?_⟩
   by_cases hr : r < 16
   ·rw [hrow r hr, if_pos (by omega)]; exact hlen r hr
   ·rw [List.getD_eq_getElem?_getD, List.getElem?_eq_none (by omega)]; exact Nat.zero_le _
  have c4 := z7q T hTl hN
  (have hF := (aI @e2 @e3); refine q01 (k:=?_); clear hF)
  refine qhf (fun j => j == 12) (l := [.sptr (q1w T)]) rfl ?hl (by simp [q0k, AVal.stb, q1b]) c4 rfl ?k
  case hl =>
   show [AVal.sptr (((q1w T).map (fzc (fun j => j == 12) _)).drop 0)] = _
   rw [encTs_fz]
   rfl
  unfold q0f
  (have hF := True.intro; refine q01 (k:=?_); clear hF)
  exact Fin.all rfl (by simp [q0k, AVal.stb, q03, q04, fzc, q4i]) rfl
def q5n (p q : Pst) (r : Nat) : List Rn := q51 ((q0l [p]).getD r []) ((q0l [q]).getD r [])
def q30 (p q : Pst) : Pst := q5u ((List.range 16).map (q5n p q))
theorem q5l (p : Pst) (r : Nat) : ((q0l [p]).getD r []).length ≤ wt p := by
 have : TabLe (q0l [p]) (wt p) := by simpa using q1c [p]
 exact this.2 r
theorem ev_k140 (p q : Pst) (hp : wt p ≤ 20000000) (hq : wt q ≤ 20000000) : Ev (En Tryz.prog rfl).P 140 [q0f p, q0f q] (.ret (q0f (q30 p q))) := by
 have c := z9m p q 139 (q5n p q) (N := 40000001) (by omega) (by omega) (by omega) (fun r hr => by
  have h1 := q7p ((q0l [p]).getD r []) ((q0l [q]).getD r [])
  have h4 := q5l p r
  have h5 := q5l q r
  unfold q5n
  omega) (fun r hr => zm6 _ _ (by have := q5l p r; omega) (by have := q5l q r; omega))
 refine Ev.of_body it_k140 (by simp) (Run.start ?_)
 unfold t_k140 q0f
 (have hF := True.intro; refine q01 (k:=?_); clear hF)
 refine q00 [q0f p, q0f q, .fn 139 []] (he := c) (k:=?_)
 unfold q30 q0f
 (have hF := True.intro; refine q01 (k:=?_); clear hF)
 exact Fin.all rfl (by simp [q0k, AVal.stb, q03, q04, fzc, q4i]) rfl

theorem rows_in {h : Nat → List Rn} {r : Nat} (hr : r < 16) (n : Int) : inP (q5u ((List.range 16).map h)) r n ↔ mem1 (h r) n := by
 rw [qge _ hr]
 unfold inT
 have : ((List.range 16).map h).getD r [] = h r := by
  rw [List.getD_eq_getElem?_getD, List.getElem?_map, List.getElem?_range hr]
  rfl
 rw [this]
theorem zl6 (p : Pst) {r : Nat} (hr : r < 16) (n : Int) : mem1 ((q0l [p]).getD r []) n ↔ inP p r n := by
 show inT (q0l [p]) r n ↔ _
 rw [q5w hr]
 simp
theorem q79 (p q : Pst) {r : Nat} (hr : r < 16) (n : Int) : inP (q30 p q) r n ↔ inP p r n ∧ ¬ inP q r n := by
 unfold q30
 rw [rows_in hr, ← zl6 p hr, ← zl6 q hr]
 unfold q5n
 constructor
 ·rintro ⟨h1, h2, h3⟩
  exact (q65 _ _ n).1 h3
 ·intro h
  exact ⟨h.1.1, h.1.2.1, (q65 _ _ n).2 h⟩
theorem za6 (p q : Pst) : CanP (q30 p q) := qqs _ (by simp)

def qzt : List SOp := [⟨some 3,.box 168 (.tmp 0),none⟩,⟨some 4,.box 168 (.tmp 1),none⟩,⟨some 6,.alloc 168,none⟩]
instance : Live qzt := ⟨[0,1,2]⟩
def qzs : List SOp := [⟨some 7,.alloc 168,none⟩]
instance : Live qzs := ⟨[2,3,4,6]⟩
def qzr : List SOp := [⟨some 8,.assign (.const (.int .i64 0)),none⟩]
instance : Live qzr := ⟨[2,3,4,6,7]⟩
def qzq : List SOp := [⟨some 9,.move (.tmp 8),none⟩,⟨some 10,.binOp .lss 3 (.tmp 9) (.const (.int .i64 16)) 3,none⟩]
instance : Live qzq := ⟨[2,3,4,6,7,8]⟩
def qzp : List SOp := [⟨some 13,.move (.tmp 8),none⟩,⟨some 14,.move (.tmp 8),none⟩,⟨some 15,.fieldAddr 168 (.tmp 3) 0,none⟩,⟨some 16,.indexAddr 166 (.tmp 15) (.tmp 14),none⟩,⟨some 17,.load 23 (.tmp 16),none⟩,⟨some 18,.move (.tmp 8),none⟩,⟨some 19,.fieldAddr 168 (.tmp 4) 0,none⟩,⟨some 20,.indexAddr 166 (.tmp 19) (.tmp 18),none⟩,⟨some 21,.load 23 (.tmp 20),none⟩,⟨some 22,.move (.tmp 2),none⟩,⟨some 23,.call ⟨.value (.func 166),#[.tmp 17,.tmp 21,.tmp 22],#[23,23,3]⟩,none⟩,⟨some 24,.fieldAddr 168 (.tmp 7) 0,none⟩,⟨some 25,.indexAddr 166 (.tmp 24) (.tmp 13),none⟩,⟨none,.store 23 (.tmp 25) (.tmp 23),none⟩]
instance : Live qzp := ⟨[2,3,4,6,7,8]⟩
def qzo : List SOp := [⟨some 11,.move (.tmp 8),none⟩,⟨some 12,.binOp .add 3 (.tmp 11) (.const (.int .i64 1)) 3,none⟩,⟨some 8,.assign (.tmp 12),none⟩]
instance : Live qzo := ⟨[2,3,4,6,7,8]⟩
def qzn : List SOp := [⟨some 26,.load 168 (.tmp 7),none⟩,⟨none,.store 168 (.tmp 6) (.tmp 26),none⟩]
instance : Live qzn := ⟨[6,7]⟩
def qib : SC :=
 (.seq (.seq (.ops false qzq) (.cond (.tmp 10) .skip (.exit 0))) (.seq (.block 1 (.ops true qzp)) (.ops false qzo)))
def t_k148 : SC :=
 (.seq (.ops false qzt) (.seq (.ops false qzs) (.seq (.seq (.ops false qzr) (.block 0 (.loop qib))) (.seq (.ops false qzn) .ret))))
theorem it_k148 : FnIs Tryz.prog 148 27 [.cell 6 168] t_k148 := ⟨Tryz.f148, _, Tryz.func148, rfl, rfl, rfl, rfl, by kernel_rfl⟩

def z41 : List SOp := [⟨some 1,.box 26 (.tmp 0),none⟩,⟨some 2,.alloc 26,none⟩]
instance : Live z41 := ⟨[0]⟩
def z40 : List SOp := [⟨some 3,.load 26 (.tmp 1),none⟩,⟨some 4,.call ⟨.value (.func 127),#[.tmp 3],#[26]⟩,none⟩,⟨some 5,.call ⟨.value (.func 128),#[.tmp 4],#[168]⟩,none⟩,⟨none,.store 26 (.tmp 2) (.tmp 5),none⟩]
instance : Live z40 := ⟨[1,2]⟩
def t_k117 : SC :=
 (.seq (.ops false z41) (.seq (.ops false z40) .ret))
theorem it_k117 : FnIs Tryz.prog 117 6 [.cell 2 26] t_k117 := ⟨Tryz.f117, _, Tryz.func117, rfl, rfl, rfl, rfl, by kernel_rfl⟩

def zdi : List SOp := [⟨some 2,.alloc 26,none⟩]
instance : Live zdi := ⟨[0]⟩
def zdh : List SOp := [⟨some 3,.move (.tmp 0),none⟩,⟨some 4,.call ⟨.value (.func 129),#[.tmp 3],#[116]⟩,none⟩,⟨some 5,.call ⟨.value (.func 128),#[.tmp 4],#[168]⟩,none⟩,⟨none,.store 26 (.tmp 2) (.tmp 5),none⟩]
instance : Live zdh := ⟨[0,2]⟩
def t_k79 : SC :=
 (.seq (.ops false zdi) (.seq (.ops false zdh) .ret))
theorem it_k79 : FnIs Tryz.prog 79 6 [.cell 2 26] t_k79 := ⟨Tryz.f79, _, Tryz.func79, rfl, rfl, rfl, rfl, by kernel_rfl⟩

def z3o : List SOp := [⟨some 2,.box 26 (.tmp 0),none⟩,⟨some 3,.box 26 (.tmp 1),none⟩,⟨some 4,.alloc 26,none⟩]
instance : Live z3o := ⟨[0,1]⟩
def z3n : List SOp := [⟨some 5,.load 26 (.tmp 2),none⟩,⟨some 6,.call ⟨.value (.func 127),#[.tmp 5],#[26]⟩,none⟩,⟨some 7,.load 26 (.tmp 3),none⟩,⟨some 8,.call ⟨.value (.func 127),#[.tmp 7],#[26]⟩,none⟩,⟨some 9,.call ⟨.value (.func 148),#[.tmp 6,.tmp 8,.const (.int .i64 2)],#[168,168,3]⟩,none⟩,⟨some 10,.call ⟨.value (.func 128),#[.tmp 9],#[168]⟩,none⟩,⟨none,.store 26 (.tmp 4) (.tmp 10),none⟩]
instance : Live z3n := ⟨[2,3,4]⟩
def t_k120 : SC :=
 (.seq (.ops false z3o) (.seq (.ops true z3n) .ret))
theorem it_k120 : FnIs Tryz.prog 120 11 [.cell 4 26] t_k120 := ⟨Tryz.f120, _, Tryz.func120, rfl, rfl, rfl, rfl, by kernel_rfl⟩

def qe9 (h : Nat → List Rn) : Tab := (List.range 16).map h
theorem qj4 (h : Nat → List Rn) {r : Nat} (hr : r < 16) : (qe9 h).getD r [] = h r := by
 unfold qe9
 rw [List.getD_eq_getElem?_getD, List.getElem?_map, List.getElem?_range hr]
 rfl
theorem qc8 (h : Nat → List Rn) : (qe9 h).length = 16 := by simp [qe9]
theorem ev_k148 (A B : List (List Int)) (hA : A.length = 16) (hB : B.length = 16) (h : Nat → List Rn) (rule : Int)
 (hrow : ∀ r, r < 16 → Ev (En Tryz.prog rfl).P 166 [.sl 1 (q05 (A.getD r [])), .sl 1 (q05 (B.getD r [])), .int .i64 rule] (.ret (.sl 1 (q05 (q0p (h r)))))) :
 Ev (En Tryz.prog rfl).P 148 [.agg (q0j A), .agg (q0j B), .int .i64 rule] (.ret (.agg (q0j ((qe9 h).map q0p)))) := by
 refine Ev.of_body it_k148 (by simp) (Run.start ?_)
 unfold t_k148
 have a1 : (q0j A).length = 16 := by simp [q0j, hA]
 have b1 : (q0j B).length = 16 := by simp [q0j, hB]
 have a2 := q44 A
 have b2 := q44 B
 have a3 := q27 A
 have b3 := q27 B
 have hu := qc8 h
 have hget := fun r hr => @qj4 h r hr
 generalize qe9 h = u at hu hget ⊢
 (have hF := (aI (aI @a1 @b1) (aI @a2 @b2)); refine q01 (k:=?_); clear hF)
 refine Run.while (σ := Nat) (fun r => ⟨tms [(2, .int .i64 rule), (3, .ptr 3 0), (4, .ptr 4 0), (6, .ptr 6 0), (7, .ptr 7 0), (8, .int .i64 (r : Int))], mms [(3, .cells (q0j A)), (4, .cells (q0j B)), (6, .cells (List.replicate 16 .nil)), (7, .cells (q26 u r))]⟩)
  (fun r => r ≤ 16) (fun r => 16 - r) 0 (have hW := (aI @a3 (aI @b3 @q6j)); q0g) (Nat.zero_le _) ?_
 intro r hr
 have g0 := qc5 u hu hr
 unfold qib
 by_cases hlt : r < 16
 ·have g1 := q7v (t := A) (r := r) (by omega)
  have g2 := q7v (t := B) (r := r) (by omega)
  have g5 := qc4 u hu hlt
  rw [hget r hlt] at g5
  have hc := hrow r hlt
  have g6 : (q26 u r).take r ++ [AVal.sl 1 (q05 (q0p (h r)))] ++ (q26 u r).drop (r + 1) = q26 u (r + 1) := by rw [← g5, List.set_eq_take_append_cons_drop, if_pos (by omega), List.append_assoc]; rfl
  (have hF := (aI (aI @a1 @b1) (aI @g0 (aI @g1 @g2))); refine q01 (k:=?_); clear hF)
  refine q00 [.sl 1 (q05 (A.getD r [])), .sl 1 (q05 (B.getD r [])), .int .i64 rule] (he := hc) (k:=?_)
  (have hF := (aI (aI @a1 @b1) (aI @g0 (aI @g1 @g2))); refine q01 (k:=?_); clear hF)
  rw [g6]
  (refine Fin.nextW (r + 1) ?_ (have hW := (aI @a3 (aI @b3 @q6j)); q0g); (try dsimp only))
  omega
 ·have hre : r = 16 := by omega
  subst hre
  have q1 := qc6 u hu
  have q2 : (q0j (u.map q0p)).length = 16 := by simp [q0j, hu]
  have q3 := q44 (u.map q0p)
  rw [q1]
  have htk : (q0j (u.map q0p)).take 16 = q0j (u.map q0p) := List.take_of_length_le (by omega)
  have q4 : (q0j (u.map q0p)).all AVal.plain = true := by
   rw [List.all_eq_true]
   intro x hx
   obtain ⟨l, _, rfl⟩ := List.mem_map.1 hx
   rfl
  have q5 : (List.replicate 16 AVal.nil).drop 16 = [] := rfl
  (have hF := (aI (aI @q2 (aI @q3 @q4)) (aI @q5 (aI @htk @List.length_replicate.{0}))); refine q01 (k:=?_); clear hF)
  refine Fin.all (xs := [.agg (q0j (u.map q0p))]) ?_ (by simp [q0k, AVal.stb, q27]) rfl
  simp [q4x, q89, qe6, TE_0, TE_3, TE_16, TE_23, TE_24, TE_26, zne, znd, znc, z8f, znb, zna, TD.isAgg, upd, tms, q2, htk, qdm]
theorem qh3 (p : Pst) (hw : wt p ≤ 800000000) : Ev (En Tryz.prog rfl).P 127 [q0f p] (.ret (.agg (q0j (q6y [p])))) :=
 z9s p (q6y [p]) (qcz [p]) (zm7 [p] (by simp) (by simpa using hw))
theorem qah (K : Nat → Bool) (M : Mem) (t : List (List Int)) : (q0j t).map (fzc K M) = q0j t := by
 unfold q0j
 rw [List.map_map]
 rfl
theorem qh4 (p : Pst) (hw : wt p ≤ 40000000) : Ev (En Tryz.prog rfl).P 117 [q0f p] (.ret (q0f (q16 p))) := by
 have c1 := qh3 p (by omega)
 have c2 := qqb (q0l [p]) (n := wt p) (by simpa using q1c [p]) (by omega)
 refine Ev.of_body it_k117 (by simp) (Run.start ?_)
 unfold t_k117 q0f
 have hS := q27
 have hL := qah
 (have hF := True.intro; refine q01 (k:=?_); clear hF)
 refine q00 [q0f p] (he := c1) (k:=?_)
 (have hF := True.intro; refine q01 (k:=?_); clear hF)
 refine q00 [.agg (q0j (q6y [p]))] (he := c2) (k:=?_)
 unfold q16 q0f
 (have hF := True.intro; refine q01 (k:=?_); clear hF)
 exact Fin.all rfl (by simp [q0k, AVal.stb, q03, q04, fzc, q4i]) rfl
theorem ev_k79 (ps : List Pst) (hl : ps.length ≤ 1000000000) (hw : (ps.map wt).sum ≤ 40000000) : Ev (En Tryz.prog rfl).P 79 [.sl 2 (q1k ps)] (.ret (q0f (q1s ps))) := by
 have c1 := zm7 ps hl (by omega)
 have c2 := qqb (q0l ps) (n := (ps.map wt).sum) (q1c ps) (by omega)
 refine Ev.of_body it_k79 (by simp) (Run.start ?_)
 unfold t_k79
 have hS := q27
 have hL := qah
 (have hF := True.intro; refine q01 (k:=?_); clear hF)
 refine q00 [.sl 2 (q1k ps)] (he := c1) (k:=?_)
 (have hF := True.intro; refine q01 (k:=?_); clear hF)
 refine q00 [.agg (q0j (q6y ps))] (he := c2) (k:=?_)
 unfold q1s q0f
 (have hF := True.intro; refine q01 (k:=?_); clear hF)
 exact Fin.all rfl (by simp [q0k, AVal.stb, q03, q04, fzc, q4i]) rfl
theorem qnr {q : Int → Prop} {t : List Int} (h : Turns q t) (m : Int) : odd (cnt t m) = true ↔ q m := by rw [zkl, h.mem]
theorem q75 (l : List Rn) : Turns (inR (q0y l)) (q0p l) := qbt (q1d l)
theorem qen (l : List Rn) : (q0p l).length ≤ 2 * l.length := by
 have := q1z l
 unfold q0p
 rw [q9w]
 omega
theorem z7a (p : Pst) {r : Nat} (hr : r < 16) : (q6y [p]).getD r [] = q0p ((q0l [p]).getD r []) := zkr [p] hr
theorem z8z (p q : Pst) (r : Nat) (m : Int) : mem1 (q5n p q r) m ↔ mem1 ((q0l [p]).getD r []) m ∧ ¬ mem1 ((q0l [q]).getD r []) m := by
 unfold q5n
 constructor
 ·intro h
  exact (q65 _ _ m).1 h.2.2
 ·intro h
  exact ⟨h.1.1, h.1.2.1, (q65 _ _ m).2 h⟩
theorem zbe (p q : Pst) (hp : wt p ≤ 20000000) (hq : wt q ≤ 20000000) (r : Nat) (hr : r < 16) :
 Ev (En Tryz.prog rfl).P 166 [.sl 1 (q05 ((q6y [p]).getD r [])), .sl 1 (q05 ((q6y [q]).getD r [])), .int .i64 2] (.ret (.sl 1 (q05 (q0p (q5n p q r))))) := by
 rw [z7a p hr, z7a q hr]
 have h1 := q5l p r
 have h2 := q5l q r
 refine ev_k166 (q75 _) (q75 _) (q75 _) (by have := qen ((q0l [p]).getD r []); omega) (by have := qen ((q0l [q]).getD r []); omega) 2 (fun x y => x && !y) (.inr ⟨rfl, rfl⟩) fun m => ?_
 rw [Bool.and_eq_true, Bool.not_eq_true', qnr (q75 _), q2k, q2k, z8z]
 have := qnr (q75 ((q0l [q]).getD r [])) m
 rw [q2k] at this
 rw [← this]
 cases odd (cnt (q0p ((q0l [q]).getD r [])) m) <;> simp
theorem rowsT_le (h : Nat → List Rn) {n : Nat} (hh : ∀ r, (h r).length ≤ n) : TabLe (qe9 h) n := by
 refine ⟨qc8 h, fun r => ?_⟩
 by_cases hr : r < 16
 ·rw [qj4 h hr]; exact hh r
 ·rw [List.getD_eq_getElem?_getD, List.getElem?_eq_none (by rw [qc8]; omega)]; exact Nat.zero_le _
theorem z90 (p q : Pst) (r : Nat) : (q5n p q r).length ≤ wt p + wt q + 1 := by
 have h1 := q7p ((q0l [p]).getD r []) ((q0l [q]).getD r [])
 have h4 := q5l p r
 have h5 := q5l q r
 unfold q5n
 omega
theorem zm9 (p q : Pst) (hp : wt p ≤ 20000000) (hq : wt q ≤ 20000000) : Ev (En Tryz.prog rfl).P 120 [q0f p, q0f q] (.ret (q0f (q30 p q))) := by
 have c1 := qh3 p (by omega)
 have c2 := qh3 q (by omega)
 have c3 := ev_k148 (q6y [p]) (q6y [q]) (qcz [p]) (qcz [q]) (q5n p q) 2 (zbe p q hp hq)
 have c4 := qqb (qe9 (q5n p q)) (rowsT_le _ (z90 p q)) (by omega)
 have hm : q30 p q = q5u (qe9 (q5n p q)) := rfl
 rw [hm]
 refine Ev.of_body it_k120 (by simp) (Run.start ?_)
 unfold t_k120 q0f
 have hS := q27
 have hL := qah
 (have hF := True.intro; refine q01 (k:=?_); clear hF)
 refine q00 [q0f p] (he := c1) (k:=?_)
 (have hF := True.intro; refine q01 (k:=?_); clear hF)
 refine q00 [q0f q] (he := c2) (k:=?_)
 (have hF := True.intro; refine q01 (k:=?_); clear hF)
 refine q00 [.agg (q0j (q6y [p])), .agg (q0j (q6y [q])), .int .i64 2] (he := c3) (k:=?_)
 (have hF := True.intro; refine q01 (k:=?_); clear hF)
 refine q00 [.agg (q0j ((qe9 (q5n p q)).map q0p))] (he := c4) (k:=?_)
 unfold q0f
 (have hF := True.intro; refine q01 (k:=?_); clear hF)
 exact Fin.all rfl (by simp [q0k, AVal.stb, q03, q04, fzc, q4i]) rfl

def z36 : List SOp := [⟨some 2,.box 26 (.tmp 0),none⟩,⟨some 3,.box 26 (.tmp 1),none⟩,⟨some 4,.assign (.const (.int .i64 0)),none⟩]
instance : Live z36 := ⟨[0,1]⟩
def z35 : List SOp := [⟨some 10,.load 26 (.tmp 2),none⟩,⟨some 11,.call ⟨.value (.func 64),#[.tmp 10],#[26]⟩,none⟩,⟨some 12,.load 26 (.tmp 3),none⟩,⟨some 13,.call ⟨.value (.func 64),#[.tmp 12],#[26]⟩,none⟩,⟨some 5,.alloc 26,none⟩,⟨some 6,.alloc 26,none⟩,⟨none,.store 26 (.tmp 5) (.tmp 11),none⟩,⟨none,.store 26 (.tmp 6) (.tmp 13),none⟩]
instance : Live z35 := ⟨[2,3]⟩
def z34 : List SOp := [⟨some 14,.move (.const (.int .i64 0)),none⟩]
instance : Live z34 := ⟨[5,6]⟩
def z33 : List SOp := [⟨some 15,.binOp .lss 3 (.tmp 14) (.const (.int .i64 16)) 3,none⟩]
instance : Live z33 := ⟨[5,6,14]⟩
def z32 : List SOp := [⟨some 16,.move (.tmp 14),none⟩,⟨some 7,.assign (.tmp 16),none⟩]
instance : Live z32 := ⟨[5,6,14]⟩
def z31 : List SOp := [⟨some 8,.assign (.const (.int .i64 0)),none⟩,⟨some 9,.assign (.const (.int .i64 0)),none⟩]
instance : Live z31 := ⟨[5,6,7,14]⟩
def z30 : List SOp := [⟨some 17,.move (.tmp 7),none⟩,⟨some 18,.fieldAddr 26 (.tmp 5) 0,none⟩,⟨some 19,.load 23 (.tmp 18),none⟩,⟨some 20,.call ⟨.builtin .len,#[.tmp 19],#[23]⟩,none⟩,⟨some 21,.binOp .lss 3 (.tmp 17) (.tmp 20) 3,none⟩]
instance : Live z30 := ⟨[5,6,7,8,9,14]⟩
def z2z : List SOp := [⟨some 22,.fieldAddr 26 (.tmp 5) 0,none⟩,⟨some 23,.load 23 (.tmp 22),none⟩,⟨some 24,.move (.tmp 7),none⟩,⟨some 25,.indexAddr 23 (.tmp 23) (.tmp 24),none⟩,⟨some 26,.load 3 (.tmp 25),none⟩,⟨some 8,.assign (.tmp 26),none⟩]
instance : Live z2z := ⟨[5,6,7,9,14]⟩
def z2y : List SOp := [⟨some 27,.move (.tmp 7),none⟩,⟨some 28,.fieldAddr 26 (.tmp 6) 0,none⟩,⟨some 29,.load 23 (.tmp 28),none⟩,⟨some 30,.call ⟨.builtin .len,#[.tmp 29],#[23]⟩,none⟩,⟨some 31,.binOp .lss 3 (.tmp 27) (.tmp 30) 3,none⟩]
instance : Live z2y := ⟨[5,6,7,8,9,14]⟩
def qmh : List SOp := [⟨some 32,.fieldAddr 26 (.tmp 6) 0,none⟩,⟨some 33,.load 23 (.tmp 32),none⟩,⟨some 34,.move (.tmp 7),none⟩,⟨some 35,.indexAddr 23 (.tmp 33) (.tmp 34),none⟩,⟨some 36,.load 3 (.tmp 35),none⟩,⟨some 9,.assign (.tmp 36),none⟩]
instance : Live qmh := ⟨[5,6,7,8,14]⟩
def qmg : List SOp := [⟨some 37,.move (.tmp 8),none⟩,⟨some 38,.move (.tmp 9),none⟩,⟨some 39,.binOp .neq 3 (.tmp 37) (.tmp 38) 3,none⟩]
instance : Live qmg := ⟨[5,6,8,9,14]⟩
def qmf : List SOp := [⟨some 40,.move (.tmp 8),none⟩,⟨some 41,.move (.tmp 9),none⟩,⟨some 42,.call ⟨.value (.func 149),#[.tmp 40,.tmp 41],#[3,3]⟩,none⟩,⟨some 4,.assign (.tmp 42),none⟩]
instance : Live qmf := ⟨[8,9]⟩
def qme : List SOp := [⟨some 43,.binOp .add 3 (.tmp 14) (.const (.int .i64 1)) 3,none⟩,⟨some 14,.move (.tmp 43),none⟩]
instance : Live qme := ⟨[5,6,14]⟩
def qmd : List SOp := [⟨some 44,.fieldAddr 26 (.tmp 5) 1,none⟩,⟨some 45,.load 24 (.tmp 44),none⟩,⟨some 46,.fieldAddr 26 (.tmp 6) 1,none⟩,⟨some 47,.load 24 (.tmp 46),none⟩,⟨some 48,.call ⟨.value (.func 150),#[.tmp 45,.tmp 47,.func 151],#[24,24,194]⟩,none⟩,⟨some 4,.assign (.tmp 48),none⟩]
instance : Live qmd := ⟨[5,6]⟩
def qio : SC :=
 (.seq (.ops false z33) (.seq (.cond (.tmp 15) .skip (.exit 0)) (.seq (.block 1 (.seq (.ops false z32) (.seq (.ops false z31) (.seq (.seq (.ops false z30) (.cond (.tmp 21) (.ops false z2z) .skip)) (.seq (.seq (.ops false z2y) (.cond (.tmp 31) (.ops false qmh) .skip)) (.seq (.ops false qmg) (.cond (.tmp 39) (.seq (.ops false qmf) .ret) .skip))))))) (.ops false qme))))
def t_k123 : SC :=
 (.seq (.ops false z36) (.seq (.ops true z35) (.seq (.seq (.ops false z34) (.block 0 (.loop qio))) (.seq (.ops false qmd) .ret))))
theorem it_k123 : FnIs Tryz.prog 123 49 [.tmp 4] t_k123 := ⟨Tryz.f123, _, Tryz.func123, rfl, rfl, rfl, rfl, by kernel_rfl⟩

theorem zm8 (p q : Pst) (hp : wt p ≤ 50000000) (hq : wt q ≤ 50000000) : Ev (En Tryz.prog rfl).P 123 [q0f p, q0f q] (.ret (.int .i64 (zao p q))) := by
 refine Ev.of_body it_k123 (by simp) (Run.start ?_)
 unfold t_k123 q0f
 have c1 := qfa p (by omega)
 have c2 := qfa q (by omega)
 have h1 := q5m p
 have h2 := q5m q
 have hr : zao p q = q5e (qf3 (q16 p)) (qf3 (q16 q)) := rfl
 rw [hr]
 (have hF := True.intro; refine q01 (k:=?_); clear hF)
 refine q00 [q0f p] (he := c1) (k:=?_)
 (have hF := True.intro; refine q01 (k:=?_); clear hF)
 refine q00 [q0f q] (he := c2) (k:=?_)
 clear c1 c2 hr
 generalize q16 p = x at h1 ⊢
 generalize q16 q = y at h2 ⊢
 unfold q0f
 have hw1 : x.vec.length + x.cloud.length = wt x := rfl
 have hw2 : y.vec.length + y.cloud.length = wt y := rfl
 have e1 := q0i x.vec
 have e2 := q0i y.vec
 (have hF := (aI @e1 @e2); refine q01 (k:=?_); clear hF)
 refine Run.while (σ := Nat) (fun i => ⟨tms [(5, .ptr 5 0), (6, .ptr 6 0), (14, .int .i64 (i : Int))], mms [(5, .cells [.sl 1 (q05 x.vec), .sl 3 (q0d x.cloud)]), (6, .cells [.sl 1 (q05 y.vec), .sl 3 (q0d y.cloud)])]⟩) (fun i => i ≤ 16 ∧ ∀ j, j < i → vv x j = vv y j) (fun i => 16 - i) 0 (have hW := (aI @q03 @q04); q0g) ⟨Nat.zero_le _, fun j hj => absurd hj (Nat.not_lt_zero _)⟩ ?_
 rintro i ⟨hi, hp⟩
 unfold qio
 by_cases hlt : i < 16
 ·have hne : vv x i ≠ vv y i → q5e (qf3 x) (qf3 y) = q73 (vv x i) (vv y i) := fun hn =>
   qpy (qhq x) (qhq y) i _ _ _ _ (q45 x hlt) (q45 y hlt) (fun j hj => by rw [q45 x (by omega), q45 y (by omega), hp j hj]) hn
  have heq : vv x i = vv y i → ∀ j, j < i + 1 → vv x j = vv y j := fun he j hj => by
   by_cases e : j = i
   ·rw [e]; exact he
   ·exact hp j (by omega)
  have k1 := qh2 (vv x i) (vv y i)
  unfold vv at hne heq k1
  by_cases hx : i < x.vec.length
  ·have g1 : (q05 x.vec)[i]? = some (.int .i64 (q1q x.vec i)) := q0v (by unfold q1q; rw [List.getD_eq_getElem?_getD, List.getElem?_eq_getElem hx]; rfl)
   simp only [if_pos hx] at hne heq k1
   by_cases hy : i < y.vec.length
   ·have g2 : (q05 y.vec)[i]? = some (.int .i64 (q1q y.vec i)) := q0v (by unfold q1q; rw [List.getD_eq_getElem?_getD, List.getElem?_eq_getElem hy]; rfl)
    simp only [if_pos hy] at hne heq k1
    (focus (have hF := (aI (aI @e1 @e2) (aI @g1 @g2)); (repeat' (first | refine go1 (k:=?_) | with_reducible refine Ny.of ?_ ?_ | (refine Hyp.of ?_; intro hc; (try simp only [hc]); (try simp only [Bh] at hc)))); all_goals clear hF))
    ·rw [hne hc]
     refine q00 [.int .i64 (q1q x.vec i), .int .i64 (q1q y.vec i)] (he := k1) (k:=?_)
     (have hF := True.intro; refine q01 (k:=?_); clear hF)
     exact Fin.tmp' rfl rfl
    ·have h := heq hc
     (refine Fin.nextW (i + 1) ?_ (have hW := (aI @q03 @q04); q0g); (try dsimp only))
     exact ⟨⟨hlt, h⟩, by omega⟩
   ·simp only [if_neg hy] at hne heq k1
    (focus (have hF := (aI @e1 (aI @e2 @g1)); (repeat' (first | refine go1 (k:=?_) | with_reducible refine Ny.of ?_ ?_ | (refine Hyp.of ?_; intro hc; (try simp only [hc]); (try simp only [Bh] at hc)))); all_goals clear hF))
    ·rw [hne hc]
     refine q00 [.int .i64 (q1q x.vec i), .int .i64 0] (he := k1) (k:=?_)
     (have hF := True.intro; refine q01 (k:=?_); clear hF)
     exact Fin.tmp' rfl rfl
    ·have h := heq hc
     (refine Fin.nextW (i + 1) ?_ (have hW := (aI @q03 @q04); q0g); (try dsimp only))
     exact ⟨⟨hlt, h⟩, by omega⟩
  ·simp only [if_neg hx] at hne heq k1
   by_cases hy : i < y.vec.length
   ·have g2 : (q05 y.vec)[i]? = some (.int .i64 (q1q y.vec i)) := q0v (by unfold q1q; rw [List.getD_eq_getElem?_getD, List.getElem?_eq_getElem hy]; rfl)
    simp only [if_pos hy] at hne heq k1
    (focus (have hF := (aI @e1 (aI @e2 @g2)); (repeat' (first | refine go1 (k:=?_) | with_reducible refine Ny.of ?_ ?_ | (refine Hyp.of ?_; intro hc; (try simp only [hc]); (try simp only [Bh] at hc)))); all_goals clear hF))
    ·rw [hne hc]
     refine q00 [.int .i64 0, .int .i64 (q1q y.vec i)] (he := k1) (k:=?_)
     (have hF := True.intro; refine q01 (k:=?_); clear hF)
     exact Fin.tmp' rfl rfl
    ·have h := heq hc
     (refine Fin.nextW (i + 1) ?_ (have hW := (aI @q03 @q04); q0g); (try dsimp only))
     exact ⟨⟨hlt, h⟩, by omega⟩
   ·simp only [if_neg hy] at hne heq k1
    (have hF := (aI @e1 @e2); refine q01 (k:=?_); clear hF)
    have h := heq trivial
    (refine Fin.nextW (i + 1) ?_ (have hW := (aI @q03 @q04); q0g); (try dsimp only))
    exact ⟨⟨hlt, h⟩, by omega⟩
 ·have hv : qhq x = qhq y := by
   unfold qhq
   exact List.map_congr_left fun j hj => hp j (by rw [List.mem_range] at hj; omega)
  have k2 := q87 x.cloud y.cloud (by omega) (by omega)
  have hk : q5e (qf3 x) (qf3 y) = qhl x.cloud y.cloud := by
   unfold qf3
   rw [hv, qgr, qdu]
  rw [hk]
  (have hF := (aI @e1 @e2); refine q01 (k:=?_); clear hF)
  refine q00 [.sl 3 (q0d x.cloud), .sl 3 (q0d y.cloud), .fn 151 []] (he := k2) (k:=?_)
  (have hF := (aI @e1 @e2); refine q01 (k:=?_); clear hF)
  exact Fin.tmp' rfl rfl

theorem zmz {q : Int → Prop} (h : ∀ n, ¬ q n) : q8r q = 0 := by
 classical
 rw [q5r]
 exact List.countP_eq_zero.2 fun i _ => by simp [h]
theorem card_one {k : Int} (h1 : 1 ≤ k) (h2 : k ≤ 1000000000) : q8r (fun n => n = k) = 1 := by
 have h := z81 h1 (Int.le_refl k) h2
 have : q8r (fun n => k ≤ n ∧ n ≤ k) = q8r (fun n => n = k) := q6c fun n _ _ => by omega
 omega
theorem qfl {q : Nat → Int → Prop} (h : ∀ r n, ¬ q r n) : ∀ m, qb3 q m = 0
 | 0 => rfl
 | m + 1 => by
  show qb3 q m + q8r (q m) = 0
  rw [qfl h m, zmz (h m)]

theorem qal {a b : Bool} (h : a = true ↔ b = true) : a = b := by cases a <;> cases b <;> simp_all
theorem card_pos {q : Int → Prop} {k : Int} (h1 : 1 ≤ k) (h2 : k ≤ 1000000000) (h : q k) : 1 ≤ q8r q := by
 have e := zn0 q (fun n => n = k)
 have : q8r (fun n => q n ∧ n = k) = q8r (fun n => n = k) := q6c fun n _ _ => ⟨fun x => x.2, fun x => ⟨x ▸ h, x⟩⟩
 rw [this, card_one h1 h2] at e
 omega
theorem qdy {q : Nat → Int → Prop} {r : Nat} {k : Int} (h1 : 1 ≤ k) (h2 : k ≤ 1000000000) (h : q r k) : ∀ {m : Nat}, r < m → 1 ≤ qb3 q m
 | 0, hm => by omega
 | m + 1, hm => by
  show 1 ≤ qb3 q m + q8r (q m)
  by_cases e : r = m
  ·subst e
   have := card_pos h1 h2 h
   omega
  ·have := qdy h1 h2 h (m := m) (by omega)
   omega

theorem zb4 (f a b : Nat → Nat) (c : Nat) (h : ∀ r, f r ≤ a r + b r + c) : ∀ m, ((List.range m).map f).sum ≤ ((List.range m).map a).sum + ((List.range m).map b).sum + m * c
 | 0 => by simp
 | m + 1 => by
  have ih := zb4 f a b c h m
  have := h m
  rw [List.range_succ, List.map_append, List.map_append, List.map_append, List.sum_append, List.sum_append, List.sum_append, Nat.succ_mul]
  simp only [List.map_cons, List.map_nil, List.sum_cons, List.sum_nil]
  omega
theorem rows_wt (p q : Pst) (h : Nat → List Rn) (c : Nat) (hh : ∀ r, (h r).length ≤ ((q0l [p]).getD r []).length + ((q0l [q]).getD r []).length + c) : wt (q5u ((List.range 16).map h)) ≤ 16 + wt p + wt q + 16 * c := by
 have h1 := qcp (t := (List.range 16).map h) (by simp)
 have h2 := zb4 (fun r => (h r).length) (fun r => ((q0l [p]).getD r []).length) (fun r => ((q0l [q]).getD r []).length) c hh 16
 have h3 := qa1 (q0l [p])
 have h4 := qa1 (q0l [q])
 have h5 := qbu [p]
 have h6 := qbu [q]
 rw [(q1c [p]).1] at h3
 rw [(q1c [q]).1] at h4
 simp only [List.map_cons, List.map_nil, List.sum_cons, List.sum_nil] at h5 h6
 have h7 : tot ((List.range 16).map h) = ((List.range 16).map fun r => (h r).length).sum := by
  unfold tot
  rw [List.map_map]
  rfl
 omega
theorem q9a (p q : Pst) : wt (q30 p q) ≤ 32 + wt p + wt q := by
 have := rows_wt p q (q5n p q) 1 fun r => q7p _ _
 unfold q30
 omega

def z2m : List SOp := [⟨some 1,.box 26 (.tmp 0),none⟩,⟨some 2,.assign (.const (.int .i64 0)),none⟩]
instance : Live z2m := ⟨[0]⟩
def z2l : List SOp := [⟨some 7,.load 26 (.tmp 1),none⟩,⟨some 8,.call ⟨.value (.func 127),#[.tmp 7],#[26]⟩,none⟩,⟨some 3,.alloc 168,none⟩,⟨none,.store 168 (.tmp 3) (.tmp 8),none⟩]
instance : Live z2l := ⟨[1]⟩
def z2k : List SOp := [⟨some 4,.assign (.const (.int .i64 0)),none⟩]
instance : Live z2k := ⟨[3]⟩
def z2j : List SOp := [⟨some 5,.assign (.const (.int .i64 0)),none⟩]
instance : Live z2j := ⟨[3,4]⟩
def z2i : List SOp := [⟨some 9,.move (.tmp 5),none⟩,⟨some 10,.binOp .lss 3 (.tmp 9) (.const (.int .i64 16)) 3,none⟩]
instance : Live z2i := ⟨[3,4,5]⟩
def z2h : List SOp := [⟨some 6,.assign (.const (.int .i64 0)),none⟩]
instance : Live z2h := ⟨[3,4,5]⟩
def z2g : List SOp := [⟨some 13,.move (.tmp 6),none⟩,⟨some 14,.binOp .add 3 (.tmp 13) (.const (.int .i64 1)) 3,none⟩,⟨some 15,.move (.tmp 5),none⟩,⟨some 16,.fieldAddr 168 (.tmp 3) 0,none⟩,⟨some 17,.indexAddr 166 (.tmp 16) (.tmp 15),none⟩,⟨some 18,.load 23 (.tmp 17),none⟩,⟨some 19,.call ⟨.builtin .len,#[.tmp 18],#[23]⟩,none⟩,⟨some 20,.binOp .lss 3 (.tmp 14) (.tmp 19) 3,none⟩]
instance : Live z2g := ⟨[3,4,5,6]⟩
def z2f : List SOp := [⟨some 23,.move (.tmp 4),none⟩,⟨some 24,.move (.tmp 5),none⟩,⟨some 25,.fieldAddr 168 (.tmp 3) 0,none⟩,⟨some 26,.indexAddr 166 (.tmp 25) (.tmp 24),none⟩,⟨some 27,.load 23 (.tmp 26),none⟩,⟨some 28,.move (.tmp 6),none⟩,⟨some 29,.binOp .add 3 (.tmp 28) (.const (.int .i64 1)) 3,none⟩,⟨some 30,.indexAddr 23 (.tmp 27) (.tmp 29),none⟩,⟨some 31,.load 3 (.tmp 30),none⟩,⟨some 32,.move (.tmp 5),none⟩,⟨some 33,.fieldAddr 168 (.tmp 3) 0,none⟩,⟨some 34,.indexAddr 166 (.tmp 33) (.tmp 32),none⟩,⟨some 35,.load 23 (.tmp 34),none⟩,⟨some 36,.move (.tmp 6),none⟩,⟨some 37,.indexAddr 23 (.tmp 35) (.tmp 36),none⟩,⟨some 38,.load 3 (.tmp 37),none⟩,⟨some 39,.binOp .sub 3 (.tmp 31) (.tmp 38) 3,none⟩,⟨some 40,.binOp .add 3 (.tmp 23) (.tmp 39) 3,none⟩,⟨some 4,.assign (.tmp 40),none⟩]
instance : Live z2f := ⟨[3,4,5,6]⟩
def z2e : List SOp := [⟨some 21,.move (.tmp 6),none⟩,⟨some 22,.binOp .add 3 (.tmp 21) (.const (.int .i64 2)) 3,none⟩,⟨some 6,.assign (.tmp 22),none⟩]
instance : Live z2e := ⟨[3,4,5,6]⟩
def qma : List SOp := [⟨some 11,.move (.tmp 5),none⟩,⟨some 12,.binOp .add 3 (.tmp 11) (.const (.int .i64 1)) 3,none⟩,⟨some 5,.assign (.tmp 12),none⟩]
instance : Live qma := ⟨[3,4,5]⟩
def qm9 : List SOp := [⟨some 41,.move (.tmp 4),none⟩,⟨some 2,.assign (.tmp 41),none⟩]
instance : Live qm9 := ⟨[4]⟩
def qil : SC :=
 (.seq (.seq (.ops false z2g) (.cond (.tmp 20) .skip (.exit 2))) (.seq (.block 3 (.ops true z2f)) (.ops false z2e)))
def qim : SC :=
 (.seq (.seq (.ops false z2i) (.cond (.tmp 10) .skip (.exit 0))) (.seq (.block 1 (.seq (.ops false z2h) (.block 2 (.loop qil)))) (.ops false qma)))
def t_k126 : SC :=
 (.seq (.ops false z2m) (.seq (.ops false z2l) (.seq (.ops false z2k) (.seq (.seq (.ops false z2j) (.block 0 (.loop qim))) (.seq (.ops false qm9) .ret)))))
theorem it_k126 : FnIs Tryz.prog 126 42 [.tmp 2] t_k126 := ⟨Tryz.f126, _, Tryz.func126, rfl, rfl, rfl, rfl, by kernel_rfl⟩

def zdt : List SOp := [⟨some 1,.box 26 (.tmp 0),none⟩,⟨some 2,.assign (.const (.bool false)),none⟩]
instance : Live zdt := ⟨[0]⟩
def zds : List SOp := [⟨some 3,.load 26 (.tmp 1),none⟩,⟨some 4,.call ⟨.value (.func 126),#[.tmp 3],#[26]⟩,none⟩,⟨some 5,.binOp .eql 3 (.tmp 4) (.const (.int .i64 0)) 3,none⟩,⟨some 2,.assign (.tmp 5),none⟩]
instance : Live zds := ⟨[1]⟩
def t_k76 : SC :=
 (.seq (.ops false zdt) (.seq (.ops false zds) .ret))
theorem it_k76 : FnIs Tryz.prog 76 6 [.tmp 2] t_k76 := ⟨Tryz.f76, _, Tryz.func76, rfl, rfl, rfl, rfl, by kernel_rfl⟩

def ze9 : List SOp := [⟨some 2,.box 26 (.tmp 0),none⟩,⟨some 3,.box 26 (.tmp 1),none⟩,⟨some 4,.assign (.const (.bool false)),none⟩]
instance : Live ze9 := ⟨[0,1]⟩
def ze8 : List SOp := [⟨some 5,.load 26 (.tmp 2),none⟩,⟨some 6,.load 26 (.tmp 3),none⟩,⟨some 7,.call ⟨.value (.func 120),#[.tmp 5,.tmp 6],#[26,26]⟩,none⟩,⟨some 8,.call ⟨.value (.func 76),#[.tmp 7],#[26]⟩,none⟩,⟨some 4,.assign (.tmp 8),none⟩]
instance : Live ze8 := ⟨[2,3]⟩
def t_k70 : SC :=
 (.seq (.ops false ze9) (.seq (.ops false ze8) .ret))
theorem it_k70 : FnIs Tryz.prog 70 9 [.tmp 4] t_k70 := ⟨Tryz.f70, _, Tryz.func70, rfl, rfl, rfl, rfl, by kernel_rfl⟩

def qzz : List SOp := [⟨some 4,.assign (.const (.int .i64 0)),none⟩]
instance : Live qzz := ⟨[0,1]⟩
def qzy : List SOp := [⟨some 5,.move (.tmp 0),none⟩,⟨some 6,.move (.tmp 1),none⟩,⟨some 7,.binOp .lss 3 (.tmp 5) (.tmp 6) 3,none⟩]
instance : Live qzy := ⟨[0,1]⟩
def qzx : List SOp := [⟨some 4,.assign (.const (.int .i64 (-1))),none⟩]
instance : Live qzx := ⟨[]⟩
def qzw : List SOp := [⟨some 8,.move (.tmp 0),none⟩,⟨some 9,.move (.tmp 1),none⟩,⟨some 10,.binOp .gtr 3 (.tmp 8) (.tmp 9) 3,none⟩]
instance : Live qzw := ⟨[0,1]⟩
def qzv : List SOp := [⟨some 4,.assign (.const (.int .i64 1)),none⟩]
instance : Live qzv := ⟨[]⟩
def qzu : List SOp := [⟨some 4,.assign (.const (.int .i64 0)),none⟩]
instance : Live qzu := ⟨[]⟩
def t_k147 : SC :=
 (.seq (.ops false qzz) (.seq (.seq (.ops false qzy) (.cond (.tmp 7) (.seq (.ops false qzx) .ret) .skip)) (.seq (.seq (.ops false qzw) (.cond (.tmp 10) (.seq (.ops false qzv) .ret) .skip)) (.seq (.ops false qzu) .ret))))
theorem it_k147 : FnIs Tryz.prog 147 11 [.tmp 4] t_k147 := ⟨Tryz.f147, _, Tryz.func147, rfl, rfl, rfl, rfl, by kernel_rfl⟩

def z3x : List SOp := [⟨some 2,.box 26 (.tmp 0),none⟩,⟨some 3,.box 26 (.tmp 1),none⟩,⟨some 4,.assign (.const (.int .i64 0)),none⟩]
instance : Live z3x := ⟨[0,1]⟩
def z3w : List SOp := [⟨some 11,.load 26 (.tmp 2),none⟩,⟨some 12,.call ⟨.value (.func 117),#[.tmp 11],#[26]⟩,none⟩,⟨none,.store 26 (.tmp 2) (.tmp 12),none⟩]
instance : Live z3w := ⟨[2,3]⟩
def z3v : List SOp := [⟨some 13,.load 26 (.tmp 3),none⟩,⟨some 14,.call ⟨.value (.func 117),#[.tmp 13],#[26]⟩,none⟩,⟨none,.store 26 (.tmp 3) (.tmp 14),none⟩]
instance : Live z3v := ⟨[2,3]⟩
def z3u : List SOp := [⟨some 5,.assign (.const (.int .i64 0)),none⟩]
instance : Live z3u := ⟨[2,3]⟩
def z3t : List SOp := [⟨some 15,.move (.tmp 5),none⟩,⟨some 16,.binOp .lss 3 (.tmp 15) (.const (.int .i64 16)) 3,none⟩]
instance : Live z3t := ⟨[2,3,5]⟩
def z3s : List SOp := [⟨some 6,.assign (.const (.int .i64 0)),none⟩,⟨some 7,.assign (.const (.int .i64 0)),none⟩]
instance : Live z3s := ⟨[2,3,5]⟩
def z3r : List SOp := [⟨some 19,.move (.tmp 5),none⟩,⟨some 20,.fieldAddr 26 (.tmp 2) 0,none⟩,⟨some 21,.load 23 (.tmp 20),none⟩,⟨some 22,.call ⟨.builtin .len,#[.tmp 21],#[23]⟩,none⟩,⟨some 23,.binOp .lss 3 (.tmp 19) (.tmp 22) 3,none⟩]
instance : Live z3r := ⟨[2,3,5,6,7]⟩
def z3q : List SOp := [⟨some 24,.fieldAddr 26 (.tmp 2) 0,none⟩,⟨some 25,.load 23 (.tmp 24),none⟩,⟨some 26,.move (.tmp 5),none⟩,⟨some 27,.indexAddr 23 (.tmp 25) (.tmp 26),none⟩,⟨some 28,.load 3 (.tmp 27),none⟩,⟨some 6,.assign (.tmp 28),none⟩]
instance : Live z3q := ⟨[2,3,5,7]⟩
def z3p : List SOp := [⟨some 29,.move (.tmp 5),none⟩,⟨some 30,.fieldAddr 26 (.tmp 3) 0,none⟩,⟨some 31,.load 23 (.tmp 30),none⟩,⟨some 32,.call ⟨.builtin .len,#[.tmp 31],#[23]⟩,none⟩,⟨some 33,.binOp .lss 3 (.tmp 29) (.tmp 32) 3,none⟩]
instance : Live z3p := ⟨[2,3,5,6,7]⟩
def qmw : List SOp := [⟨some 34,.fieldAddr 26 (.tmp 3) 0,none⟩,⟨some 35,.load 23 (.tmp 34),none⟩,⟨some 36,.move (.tmp 5),none⟩,⟨some 37,.indexAddr 23 (.tmp 35) (.tmp 36),none⟩,⟨some 38,.load 3 (.tmp 37),none⟩,⟨some 7,.assign (.tmp 38),none⟩]
instance : Live qmw := ⟨[2,3,5,6]⟩
def qmv : List SOp := [⟨some 39,.move (.tmp 6),none⟩,⟨some 40,.move (.tmp 7),none⟩,⟨some 41,.binOp .neq 3 (.tmp 39) (.tmp 40) 3,none⟩]
instance : Live qmv := ⟨[2,3,5,6,7]⟩
def qmu : List SOp := [⟨some 42,.move (.tmp 6),none⟩,⟨some 43,.move (.tmp 7),none⟩,⟨some 44,.call ⟨.value (.func 147),#[.tmp 42,.tmp 43],#[3,3]⟩,none⟩,⟨some 4,.assign (.tmp 44),none⟩]
instance : Live qmu := ⟨[6,7]⟩
def qmt : List SOp := [⟨some 17,.move (.tmp 5),none⟩,⟨some 18,.binOp .add 3 (.tmp 17) (.const (.int .i64 1)) 3,none⟩,⟨some 5,.assign (.tmp 18),none⟩]
instance : Live qmt := ⟨[2,3,5]⟩
def qms : List SOp := [⟨some 8,.assign (.const (.int .i64 0)),none⟩]
instance : Live qms := ⟨[2,3]⟩
def qmr : List SOp := [⟨some 45,.move (.tmp 8),none⟩,⟨some 46,.fieldAddr 26 (.tmp 2) 1,none⟩,⟨some 47,.load 24 (.tmp 46),none⟩,⟨some 48,.call ⟨.builtin .len,#[.tmp 47],#[24]⟩,none⟩,⟨some 49,.binOp .lss 3 (.tmp 45) (.tmp 48) 3,none⟩,⟨some 50,.move (.tmp 49),none⟩,⟨some 51,.move (.tmp 8),some ((some 50),true)⟩,⟨some 52,.fieldAddr 26 (.tmp 3) 1,some ((some 50),true)⟩,⟨some 53,.load 24 (.tmp 52),some ((some 50),true)⟩,⟨some 54,.call ⟨.builtin .len,#[.tmp 53],#[24]⟩,some ((some 50),true)⟩,⟨some 55,.binOp .lss 3 (.tmp 51) (.tmp 54) 3,some ((some 50),true)⟩,⟨some 56,.pick (.tmp 50) (.tmp 55) (.const (.bool false)),none⟩]
instance : Live qmr := ⟨[2,3,8]⟩
def qcm : List SOp := [⟨some 59,.fieldAddr 26 (.tmp 2) 1,none⟩,⟨some 60,.load 24 (.tmp 59),none⟩,⟨some 61,.move (.tmp 8),none⟩,⟨some 62,.indexAddr 24 (.tmp 60) (.tmp 61),none⟩,⟨some 63,.load 127 (.tmp 62),none⟩,⟨some 64,.fieldAddr 26 (.tmp 3) 1,none⟩,⟨some 65,.load 24 (.tmp 64),none⟩,⟨some 66,.move (.tmp 8),none⟩,⟨some 67,.indexAddr 24 (.tmp 65) (.tmp 66),none⟩,⟨some 68,.load 127 (.tmp 67),none⟩,⟨some 9,.alloc 127,none⟩,⟨some 10,.alloc 127,none⟩,⟨none,.store 127 (.tmp 9) (.tmp 63),none⟩,⟨none,.store 127 (.tmp 10) (.tmp 68),none⟩]
instance : Live qcm := ⟨[2,3,8]⟩
instance : Rd qcm := ⟨fun j => j == 2 || j == 3⟩
def qmq : List SOp := [⟨some 69,.fieldAddr 127 (.tmp 9) 0,none⟩,⟨some 70,.load 3 (.tmp 69),none⟩,⟨some 71,.fieldAddr 127 (.tmp 10) 0,none⟩,⟨some 72,.load 3 (.tmp 71),none⟩,⟨some 73,.binOp .neq 3 (.tmp 70) (.tmp 72) 3,none⟩]
instance : Live qmq := ⟨[2,3,8,9,10]⟩
def qmp : List SOp := [⟨some 74,.fieldAddr 127 (.tmp 9) 0,none⟩,⟨some 75,.load 3 (.tmp 74),none⟩,⟨some 76,.fieldAddr 127 (.tmp 10) 0,none⟩,⟨some 77,.load 3 (.tmp 76),none⟩,⟨some 78,.call ⟨.value (.func 147),#[.tmp 75,.tmp 77],#[3,3]⟩,none⟩,⟨some 4,.assign (.tmp 78),none⟩]
instance : Live qmp := ⟨[9,10]⟩
def qmo : List SOp := [⟨some 79,.fieldAddr 127 (.tmp 9) 1,none⟩,⟨some 80,.load 3 (.tmp 79),none⟩,⟨some 81,.fieldAddr 127 (.tmp 10) 1,none⟩,⟨some 82,.load 3 (.tmp 81),none⟩,⟨some 83,.binOp .neq 3 (.tmp 80) (.tmp 82) 3,none⟩]
instance : Live qmo := ⟨[2,3,8,9,10]⟩
def qmn : List SOp := [⟨some 84,.fieldAddr 127 (.tmp 9) 1,none⟩,⟨some 85,.load 3 (.tmp 84),none⟩,⟨some 86,.fieldAddr 127 (.tmp 10) 1,none⟩,⟨some 87,.load 3 (.tmp 86),none⟩,⟨some 88,.call ⟨.value (.func 147),#[.tmp 85,.tmp 87],#[3,3]⟩,none⟩,⟨some 4,.assign (.tmp 88),none⟩]
instance : Live qmn := ⟨[9,10]⟩
def qmm : List SOp := [⟨some 89,.fieldAddr 127 (.tmp 9) 2,none⟩,⟨some 90,.load 3 (.tmp 89),none⟩,⟨some 91,.fieldAddr 127 (.tmp 10) 2,none⟩,⟨some 92,.load 3 (.tmp 91),none⟩,⟨some 93,.binOp .neq 3 (.tmp 90) (.tmp 92) 3,none⟩]
instance : Live qmm := ⟨[2,3,8,9,10]⟩
def qml : List SOp := [⟨some 94,.fieldAddr 127 (.tmp 9) 2,none⟩,⟨some 95,.load 3 (.tmp 94),none⟩,⟨some 96,.fieldAddr 127 (.tmp 10) 2,none⟩,⟨some 97,.load 3 (.tmp 96),none⟩,⟨some 98,.call ⟨.value (.func 147),#[.tmp 95,.tmp 97],#[3,3]⟩,none⟩,⟨some 4,.assign (.tmp 98),none⟩]
instance : Live qml := ⟨[9,10]⟩
def qmk : List SOp := [⟨some 57,.move (.tmp 8),none⟩,⟨some 58,.binOp .add 3 (.tmp 57) (.const (.int .i64 1)) 3,none⟩,⟨some 8,.assign (.tmp 58),none⟩]
instance : Live qmk := ⟨[2,3,8]⟩
def qmj : List SOp := [⟨some 99,.fieldAddr 26 (.tmp 2) 1,none⟩,⟨some 100,.load 24 (.tmp 99),none⟩,⟨some 101,.call ⟨.builtin .len,#[.tmp 100],#[24]⟩,none⟩,⟨some 102,.fieldAddr 26 (.tmp 3) 1,none⟩,⟨some 103,.load 24 (.tmp 102),none⟩,⟨some 104,.call ⟨.builtin .len,#[.tmp 103],#[24]⟩,none⟩,⟨some 105,.call ⟨.value (.func 147),#[.tmp 101,.tmp 104],#[3,3]⟩,none⟩,⟨some 4,.assign (.tmp 105),none⟩]
instance : Live qmj := ⟨[2,3]⟩
def qis : SC :=
 (.seq (.seq (.ops false z3t) (.cond (.tmp 16) .skip (.exit 0))) (.seq (.block 1 (.seq (.ops false z3s) (.seq (.seq (.ops false z3r) (.cond (.tmp 23) (.ops false z3q) .skip)) (.seq (.seq (.ops false z3p) (.cond (.tmp 33) (.ops false qmw) .skip)) (.seq (.ops false qmv) (.cond (.tmp 41) (.seq (.ops false qmu) .ret) .skip)))))) (.ops false qmt)))
def qir : SC :=
 (.seq (.seq (.ops false qmr) (.cond (.tmp 56) .skip (.exit 2))) (.seq (.block 3 (.seq (.opsW [] qcm) (.seq (.seq (.ops false qmq) (.cond (.tmp 73) (.seq (.ops false qmp) .ret) .skip)) (.seq (.seq (.ops false qmo) (.cond (.tmp 83) (.seq (.ops false qmn) .ret) .skip)) (.seq (.ops false qmm) (.cond (.tmp 93) (.seq (.ops false qml) .ret) .skip)))))) (.ops false qmk)))
def t_k119 : SC :=
 (.seq (.ops false z3x) (.seq (.ops false z3w) (.seq (.ops false z3v) (.seq (.seq (.ops false z3u) (.block 0 (.loop qis))) (.seq (.seq (.ops false qms) (.block 2 (.loop qir))) (.seq (.ops false qmj) .ret))))))
theorem it_k119 : FnIs Tryz.prog 119 106 [.tmp 4] t_k119 := ⟨Tryz.f119, _, Tryz.func119, rfl, rfl, rfl, rfl, by kernel_rfl⟩


theorem ev_k126 (p : Pst) (hw : wt p ≤ 50000000) : Ev (En Tryz.prog rfl).P 126 [q0f p] (.ret (.int .i64 (q3e p))) := by
 have c1 := qh3 p (by omega)
 refine Ev.of_body it_k126 (by simp) (Run.start ?_)
 unfold t_k126 q0f
 have ht : TabLe (q0l [p]) (wt p) := by simpa using q1c [p]
 have hS := q27
 have hm : q6y [p] = (q0l [p]).map q0p := rfl
 have hp : q3e p = q25 (q0l [p]) 16 := rfl
 rw [hm] at c1
 rw [hp]
 have h16 : (q0j ((q0l [p]).map q0p)).length = 16 := by simp [q0j, ht.1]
 have hone := q44 ((q0l [p]).map q0p)
 have hst := q27 ((q0l [p]).map q0p)
 (have hF := True.intro; refine q01 (k:=?_); clear hF)
 refine q00 [q0f p] (he := c1) (k:=?_)
 clear c1 hm hp
 generalize q0l [p] = t at ht h16 hone hst ⊢
 (have hF := (aI @h16 @hone); refine q01 (k:=?_); clear hF)
 refine Run.while (σ := Nat) (fun r => ⟨tms [(3, .ptr 3 0), (4, .int .i64 (q25 t r)), (5, .int .i64 (r : Int))], mms [(3, .cells (q0j (t.map q0p)))]⟩)
  (fun r => r ≤ 16) (fun r => 16 - r) 0 (have hW := @hst; q0g) (Nat.zero_le _) ?_
 intro r hr
 unfold qim
 by_cases hlt : r < 16
 ·have hrt : r < t.length := by rw [ht.1]; exact hlt
  have hq := ht.2 r
  have g1 : (q0j (t.map q0p))[r]? = some (.sl 1 (q05 (q3r (q0y (t.getD r []))))) := by
   rw [q7v (by rw [List.length_map]; exact hrt)]
   simp [List.getD_eq_getElem?_getD, hrt, q0p]
  have hml := q1z (t.getD r [])
  have hcan := q1d (t.getD r [])
  have hb := q6i ht r
  have hr16 : (r : Int) * (1000000000 * (wt p : Int)) ≤ 16 * (1000000000 * (wt p : Int)) := Int.mul_le_mul_of_nonneg_right (by omega) (by omega)
  have hnx := q5j t r
  unfold qe8 at hnx
  generalize q0y (t.getD r []) = m at g1 hml hcan hnx
  have g2 : (q05 (q3r m)).length = 2 * m.length := by rw [q0i, q9w]
  (have hF := (aI @h16 @hone); refine q01 (k:=?_); clear hF)
  refine Run.while (σ := Nat) (fun c => ⟨tms [(3, .ptr 3 0), (4, .int .i64 ((m.take c).foldl q1f (q25 t r))), (5, .int .i64 (r : Int)), (6, .int .i64 ((2 * c : Nat) : Int))], mms [(3, .cells (q0j (t.map q0p)))]⟩)
   (fun c => c ≤ m.length) (fun c => m.length - c) 0 (have hW := @hst; q0g) (Nat.zero_le _) ?_
  intro c hc
  unfold qil
  by_cases hcl : c < m.length
  ·obtain ⟨x, hx⟩ : ∃ x, m[c]? = some x := ⟨m[c], by simp [hcl]⟩
   have ⟨k1, k2⟩ := qr4 hx
   have k1' : (q05 (q3r m))[2 * c]? = some (.int .i64 x.1) := q0v k1
   have k2' : (q05 (q3r m))[2 * c + 1]? = some (.int .i64 (x.2 + 1)) := q0v k2
   have hxr := hcan.2 x (List.mem_of_getElem? hx)
   unfold okR at hxr
   have e8 : ((2 * c : Nat) : Int) + 1 = ((2 * c + 1 : Nat) : Int) := by omega
   have e9 : ((2 * c : Nat) : Int) + 2 = ((2 * (c + 1) : Nat) : Int) := by omega
   have hf : (m.take (c + 1)).foldl q1f (q25 t r) = (m.take c).foldl q1f (q25 t r) + (x.2 + 1 - x.1) := by
    rw [q2w q1f _ m hx]
    unfold q1f
    omega
   have hb2 := q8l (m := m.take c) (fun y hy => by have := hcan.2 y (List.mem_of_mem_take hy); unfold okR at this; omega) (q25 t r)
   have hb3 : (m.take c).length ≤ m.length := by rw [List.length_take]; omega
   generalize (m.take c).foldl q1f (q25 t r) = a at hf hb2 ⊢
   (have hF := (aI (aI (aI @h16 @hone) (aI @g1 @g2)) (aI (aI @k1' @k2') (aI @e8 @e9))); refine q01 (k:=?_); clear hF)
   (refine Fin.nextW (c + 1) ?_ (have hW := (aI @hst @hf); q0g); (try dsimp only))
   omega
  ·have hce : (m.take c).foldl q1f (q25 t r) = q25 t (r + 1) := by
    rw [show c = m.length by omega, List.take_length, q88, hnx]
   rw [hce]
   (have hF := (aI (aI @h16 @hone) (aI @g1 @g2)); refine q01 (k:=?_); clear hF)
   (refine Fin.nextW (r + 1) ?_ (have hW := @hst; q0g); (try dsimp only))
   omega
 ·rw [show r = 16 by omega]
  (have hF := @h16; refine q01 (k:=?_); clear hF)
  exact Fin.tmp' rfl rfl
theorem ev_k76 (p : Pst) (hp : wt p ≤ 50000000) : Ev (En Tryz.prog rfl).P 76 [q0f p] (.ret (.bool (decide (q3e p = 0)))) := by
 refine Ev.of_body it_k76 (by simp) (Run.start ?_)
 unfold t_k76 q0f
 (have hF := True.intro; refine q01 (k:=?_); clear hF)
 refine q00 [q0f p] (he := ev_k126 p hp) (k:=?_)
 (have hF := True.intro; refine q01 (k:=?_); clear hF)
 exact Fin.tmp' rfl rfl
theorem qpf (p q : Pst) : decide (q3e (q30 p q) = 0) = q14 p q := by
 refine qal ?_
 rw [decide_eq_true_eq, q6h, qes]
 constructor
 ·intro h r hr n hn
  refine Classical.byContradiction fun h' => ?_
  have hin := (q79 p q hr n).2 ⟨hn, h'⟩
  have := qdy hin.2.1 hin.2.2.1 hin hr
  omega
 ·intro h
  have := qfl (q := inP (q30 p q)) (fun r n hh => by
   have := (q79 p q hh.1 n).1 hh
   exact this.2 (h r hh.1 n this.1)) 16
  omega
theorem zlv (p q : Pst) (hp : wt p ≤ 10000000) (hq : wt q ≤ 10000000) : Ev (En Tryz.prog rfl).P 70 [q0f p, q0f q] (.ret (.bool (q14 p q))) := by
 have w := q9a p q
 have c1 := zm9 p q (by omega) (by omega)
 have c2 := ev_k76 (q30 p q) (by omega)
 rw [qpf] at c2
 refine Ev.of_body it_k70 (by simp) (Run.start ?_)
 unfold t_k70 q0f
 (have hF := True.intro; refine q01 (k:=?_); clear hF)
 refine q00 [q0f p, q0f q] (he := c1) (k:=?_)
 (have hF := True.intro; refine q01 (k:=?_); clear hF)
 refine q00 [q0f (q30 p q)] (he := c2) (k:=?_)
 (have hF := True.intro; refine q01 (k:=?_); clear hF)
 exact Fin.tmp' rfl rfl
theorem qdj (a b : Int) : Ev (En Tryz.prog rfl).P 147 [.int .i64 a, .int .i64 b] (.ret (.int .i64 (q73 a b))) := by
 refine Ev.of_body it_k147 (by simp) (Run.start ?_)
 unfold t_k147
 by_cases h1 : a < b
 ·rw [show q73 a b = -1 from if_pos h1]
  (have hF := True.intro; refine q01 (k:=?_); clear hF)
  exact Fin.tmp' rfl rfl
 ·by_cases h2 : b < a
  ·rw [show q73 a b = 1 by unfold q73; rw [if_neg h1, if_pos h2]]
   (have hF := True.intro; refine q01 (k:=?_); clear hF)
   exact Fin.tmp' rfl rfl
  ·rw [show q73 a b = 0 by unfold q73; rw [if_neg h1, if_neg h2]]
   (have hF := True.intro; refine q01 (k:=?_); clear hF)
   exact Fin.tmp' rfl rfl

end Go.Proofs.YthejoeiecenjkaaGreat.Avm
