/- Part 5 of the proof: lemmas. -/
import Derived.Test.YthejoeiecenjkaaGreatL4
import Derived.Test.YthejoeiecenjkaaGreatProg
import Derived.KernelRfl
import Derived.Shelf.SlSortCmp.NoneTotal
set_option maxRecDepth 100000
set_option maxHeartbeats 4000000
set_option linter.unusedVariables false
set_option linter.unusedSimpArgs false
set_option linter.unusedSectionVars false
set_option linter.defProp false
namespace Go.Proofs.YthejoeiecenjkaaGreat.Avm
open Go.Proofs
theorem cmpS_def (s t : Sn) : cmpS s t = if q73 s.1 t.1 = 0 then (if q73 s.2.1 t.2.1 = 0 then q73 s.2.2 t.2.2 else q73 s.2.1 t.2.1) else q73 s.1 t.1 := by
 unfold cmpS
 simp only [orI]
 split
 ·split
  ·split
   ·rename_i h; exact h.symm
   ·rfl
  ·rfl
 ·rfl
theorem q6b {a b : Int} : q73 a b = 0 ↔ a = b := by
 unfold q73
 split
 ·constructor
  ·intro h; simp at h
  ·intro h; omega
 ·split
  ·constructor
   ·intro h; simp at h
   ·intro h; omega
  ·constructor
   ·intro _; omega
   ·intro _; rfl
theorem zma (p q : Pst) (hp : wt p ≤ 30000000) (hq : wt q ≤ 30000000) : Ev (En Tryz.prog rfl).P 119 [q0f p, q0f q] (.ret (.int .i64 (zao p q))) := by
 refine Ev.of_body it_k119 (by simp) (Run.start ?_)
 unfold t_k119 q0f
 have c1 := qh4 p (by omega)
 have c2 := qh4 q (by omega)
 have h1 := q5m p
 have h2 := q5m q
 have hr : zao p q = q5e (qf3 (q16 p)) (qf3 (q16 q)) := rfl
 rw [hr]
 (have hF := True.intro; refine q01 (k:=?_); clear hF)
 refine q00 [q0f p] (he := c1) (k:=?_)
 unfold q0f
 (have hF := True.intro; refine q01 (k:=?_); clear hF)
 refine q00 [q0f q] (he := c2) (k:=?_)
 clear c1 c2 hr
 generalize q16 p = x at h1 ⊢
 generalize q16 q = y at h2 ⊢
 unfold q0f
 have hw1 : x.vec.length + x.cloud.length = wt x := rfl
 have hw2 : y.vec.length + y.cloud.length = wt y := rfl
 have e1 := q0i x.vec
 have e2 := q0i y.vec
 have e3 := q1e x.cloud
 have e4 := q1e y.cloud
 (have hF := (aI @e1 @e2); refine q01 (k:=?_); clear hF)
 refine Run.while (σ := Nat) (fun i => ⟨tms [(2, .ptr 2 0), (3, .ptr 3 0), (5, .int .i64 (i : Int))], mms [(2, .cells [.sl 1 (q05 x.vec), .sl 3 (q0d x.cloud)]), (3, .cells [.sl 1 (q05 y.vec), .sl 3 (q0d y.cloud)])]⟩) (fun i => i ≤ 16 ∧ ∀ j, j < i → vv x j = vv y j) (fun i => 16 - i) 0 (have hW := (aI @q03 @q04); q0g) ⟨Nat.zero_le _, fun j hj => absurd hj (Nat.not_lt_zero _)⟩ ?_
 rintro i ⟨hi, hp⟩
 unfold qis
 by_cases hlt : i < 16
 ·have hne : vv x i ≠ vv y i → q5e (qf3 x) (qf3 y) = q73 (vv x i) (vv y i) := fun hn =>
   qpy (qhq x) (qhq y) i _ _ _ _ (q45 x hlt) (q45 y hlt) (fun j hj => by rw [q45 x (by omega), q45 y (by omega), hp j hj]) hn
  have heq : vv x i = vv y i → ∀ j, j < i + 1 → vv x j = vv y j := fun he j hj => by
   by_cases e : j = i
   ·rw [e]; exact he
   ·exact hp j (by omega)
  have k1 := qdj (vv x i) (vv y i)
  unfold vv at hne heq k1
  by_cases hx : i < x.vec.length
  ·have g1 : (q05 x.vec)[i]? = some (.int .i64 (q1q x.vec i)) := q0v (by unfold q1q; rw [List.getD_eq_getElem?_getD, List.getElem?_eq_getElem hx]; rfl)
   simp only [if_pos hx] at hne heq k1
   by_cases hy : i < y.vec.length
   ·have g2 : (q05 y.vec)[i]? = some (.int .i64 (q1q y.vec i)) := q0v (by unfold q1q; rw [List.getD_eq_getElem?_getD, List.getElem?_eq_getElem hy]; rfl)
    simp only [if_pos hy] at hne heq k1
    (focus (have hF := (aI (aI @e1 @e2) (aI @g1 @g2)); (repeat' (first | refine go1 (k:=?_) | with_reducible refine Ny.of ?_ ?_ | (refine Hyp.of ?_; intro hc; (try simp only [hc]); (try simp only [Bh] at hc)))); all_goals clear hF))
    ·rw [hne hc]
     refine q00 [.int .i64 (q1q x.vec i), .int .i64 (q1q y.vec i)] (he := k1) (k:=?_)
     (have hF := True.intro; refine q01 (k:=?_); clear hF)
     exact Fin.tmp' rfl rfl
    ·have h := heq hc
     (refine Fin.nextW (i + 1) ?_ (have hW := (aI @q03 @q04); q0g); (try dsimp only))
     exact ⟨⟨hlt, h⟩, by omega⟩
   ·simp only [if_neg hy] at hne heq k1
    (focus (have hF := (aI @e1 (aI @e2 @g1)); (repeat' (first | refine go1 (k:=?_) | with_reducible refine Ny.of ?_ ?_ | (refine Hyp.of ?_; intro hc; (try simp only [hc]); (try simp only [Bh] at hc)))); all_goals clear hF))
    ·rw [hne hc]
     refine q00 [.int .i64 (q1q x.vec i), .int .i64 0] (he := k1) (k:=?_)
     (have hF := True.intro; refine q01 (k:=?_); clear hF)
     exact Fin.tmp' rfl rfl
    ·have h := heq hc
     (refine Fin.nextW (i + 1) ?_ (have hW := (aI @q03 @q04); q0g); (try dsimp only))
     exact ⟨⟨hlt, h⟩, by omega⟩
  ·simp only [if_neg hx] at hne heq k1
   by_cases hy : i < y.vec.length
   ·have g2 : (q05 y.vec)[i]? = some (.int .i64 (q1q y.vec i)) := q0v (by unfold q1q; rw [List.getD_eq_getElem?_getD, List.getElem?_eq_getElem hy]; rfl)
    simp only [if_pos hy] at hne heq k1
    (focus (have hF := (aI @e1 (aI @e2 @g2)); (repeat' (first | refine go1 (k:=?_) | with_reducible refine Ny.of ?_ ?_ | (refine Hyp.of ?_; intro hc; (try simp only [hc]); (try simp only [Bh] at hc)))); all_goals clear hF))
    ·rw [hne hc]
     refine q00 [.int .i64 0, .int .i64 (q1q y.vec i)] (he := k1) (k:=?_)
     (have hF := True.intro; refine q01 (k:=?_); clear hF)
     exact Fin.tmp' rfl rfl
    ·have h := heq hc
     (refine Fin.nextW (i + 1) ?_ (have hW := (aI @q03 @q04); q0g); (try dsimp only))
     exact ⟨⟨hlt, h⟩, by omega⟩
   ·simp only [if_neg hy] at hne heq k1
    (have hF := (aI @e1 @e2); refine q01 (k:=?_); clear hF)
    have h := heq trivial
    (refine Fin.nextW (i + 1) ?_ (have hW := (aI @q03 @q04); q0g); (try dsimp only))
    exact ⟨⟨hlt, h⟩, by omega⟩
 ·have hv : qhq x = qhq y := by
   unfold qhq
   exact List.map_congr_left fun j hj => hp j (by rw [List.mem_range] at hj; omega)
  have hk : q5e (qf3 x) (qf3 y) = qhl x.cloud y.cloud := by
   unfold qf3
   rw [hv, qgr, qdu]
  rw [hk]
  (have hF := (aI @e1 @e2); refine q01 (k:=?_); clear hF)
  refine Run.while (σ := Nat) (fun i => ⟨tms [(2, .ptr 2 0), (3, .ptr 3 0), (8, .int .i64 (i : Int))], mms [(2, .cells [.sl 1 (q05 x.vec), .sl 3 (q0d x.cloud)]), (3, .cells [.sl 1 (q05 y.vec), .sl 3 (q0d y.cloud)])]⟩) (fun i => i ≤ x.cloud.length ∧ i ≤ y.cloud.length ∧ qhl (x.cloud.drop i) (y.cloud.drop i) = qhl x.cloud y.cloud) (fun i => x.cloud.length - i) 0 (have hW := (aI @q03 @q04); q0g) ⟨Nat.zero_le _, Nat.zero_le _, by rw [List.drop_zero, List.drop_zero]⟩ ?_
  clear hlt hi hp
  rintro i ⟨hi, hi2, hp⟩
  unfold qir
  by_cases hlt : i < x.cloud.length ∧ i < y.cloud.length
  ·obtain ⟨hla, hlb⟩ := hlt
   obtain ⟨s, hs⟩ : ∃ s, x.cloud[i]? = some s := ⟨x.cloud[i], by simp [hla]⟩
   obtain ⟨t, ht⟩ : ∃ t, y.cloud[i]? = some t := ⟨y.cloud[i], by simp [hlb]⟩
   have g1 := q2c hs
   have g2 := q2c ht
   obtain ⟨_, hxa⟩ := List.getElem?_eq_some_iff.1 hs
   obtain ⟨_, hyb⟩ := List.getElem?_eq_some_iff.1 ht
   have hd : qhl x.cloud y.cloud = if cmpS s t = 0 then qhl (x.cloud.drop (i + 1)) (y.cloud.drop (i + 1)) else cmpS s t := by
    rw [← hp, List.drop_eq_getElem_cons hla, List.drop_eq_getElem_cons hlb, hxa, hyb]
    rfl
   rw [cmpS_def] at hd
   have k1 := qdj s.1 t.1
   have k2 := qdj s.2.1 t.2.1
   have k3 := qdj s.2.2 t.2.2
   unfold qqj at g1 g2
   by_cases q1 : s.1 = t.1
   ·rw [if_pos (q6b.2 q1)] at hd
    by_cases q2 : s.2.1 = t.2.1
    ·rw [if_pos (q6b.2 q2)] at hd
     by_cases q3 : s.2.2 = t.2.2
     ·rw [if_pos (q6b.2 q3)] at hd
      (have hF := (aI (aI (aI @e1 @e2) (aI @e3 @e4)) (aI (aI @g1 @g2) (aI @q1 (aI @q2 @q3)))); refine run2 (k:=?_); clear hF)
      (refine Fin.nextW (i + 1) ?_ (have hW := (aI @q03 @q04); q0g); (try dsimp only))
      exact ⟨⟨hla, hlb, hd.symm⟩, by omega⟩
     ·rw [if_neg (fun h => q3 (q6b.1 h))] at hd
      rw [hd]
      (have hF := (aI (aI (aI @e1 @e2) (aI @e3 @e4)) (aI (aI @g1 @g2) (aI @q1 (aI @q2 @q3)))); refine run2 (k:=?_); clear hF)
      refine q00 [.int .i64 s.2.2, .int .i64 t.2.2] (he := k3) (k:=?_)
      (have hF := True.intro; refine q01 (k:=?_); clear hF)
      exact Fin.tmp' rfl rfl
    ·have hd2 : ¬ q73 s.2.1 t.2.1 = 0 := fun h => q2 (q6b.1 h)
     rw [if_neg hd2, if_neg hd2] at hd
     rw [hd]
     (have hF := (aI (aI (aI @e1 @e2) (aI @e3 @e4)) (aI (aI @g1 @g2) (aI @q1 @q2))); refine run2 (k:=?_); clear hF)
     refine q00 [.int .i64 s.2.1, .int .i64 t.2.1] (he := k2) (k:=?_)
     (have hF := True.intro; refine q01 (k:=?_); clear hF)
     exact Fin.tmp' rfl rfl
   ·have hd2 : ¬ q73 s.1 t.1 = 0 := fun h => q1 (q6b.1 h)
    rw [if_neg hd2, if_neg hd2] at hd
    rw [hd]
    (have hF := (aI (aI @e1 (aI @e2 @e3)) (aI (aI @e4 @g1) (aI @g2 @q1))); refine run2 (k:=?_); clear hF)
    refine q00 [.int .i64 s.1, .int .i64 t.1] (he := k1) (k:=?_)
    (have hF := True.intro; refine q01 (k:=?_); clear hF)
    exact Fin.tmp' rfl rfl
  ·have hd : qhl x.cloud y.cloud = q73 (x.cloud.length : Int) (y.cloud.length : Int) := by
    rw [← hp]
    by_cases ha : i < x.cloud.length
    ·have hb : ¬ i < y.cloud.length := fun h => hlt ⟨ha, h⟩
     rw [List.drop_eq_getElem_cons ha, List.drop_eq_nil_of_le (show y.cloud.length ≤ i by omega)]
     unfold q73
     rw [if_neg (by omega), if_pos (by omega)]
     rfl
    ·by_cases hb : i < y.cloud.length
     ·rw [List.drop_eq_nil_of_le (show x.cloud.length ≤ i by omega), List.drop_eq_getElem_cons hb]
      unfold q73
      rw [if_pos (by omega)]
      rfl
     ·rw [List.drop_eq_nil_of_le (show x.cloud.length ≤ i by omega), List.drop_eq_nil_of_le (show y.cloud.length ≤ i by omega)]
      unfold q73
      rw [if_neg (by omega), if_neg (by omega)]
      rfl
   rw [hd]
   have k1 := qdj (x.cloud.length : Int) (y.cloud.length : Int)
   by_cases ha : i < x.cloud.length
   ·have hb : ¬ i < y.cloud.length := fun h => hlt ⟨ha, h⟩
    (have hF := (aI (aI @e1 @e2) (aI @e3 @e4)); refine q01 (k:=?_); clear hF)
    refine q00 [.int .i64 (x.cloud.length : Int), .int .i64 (y.cloud.length : Int)] (he := k1) (k:=?_)
    (have hF := True.intro; refine q01 (k:=?_); clear hF)
    exact Fin.tmp' rfl rfl
   ·(have hF := (aI (aI @e1 @e2) (aI @e3 @e4)); refine q01 (k:=?_); clear hF)
    refine q00 [.int .i64 (x.cloud.length : Int), .int .i64 (y.cloud.length : Int)] (he := k1) (k:=?_)
    (have hF := True.intro; refine q01 (k:=?_); clear hF)
    exact Fin.tmp' rfl rfl

def qxv : List SOp := [⟨some 4,.assign (.const (.int .i64 0)),none⟩]
instance : Live qxv := ⟨[0,1]⟩
def qxu : List SOp := [⟨some 5,.move (.tmp 0),none⟩,⟨some 6,.move (.tmp 1),none⟩,⟨some 7,.call ⟨.value (.func 173),#[.tmp 5,.tmp 6],#[9,9]⟩,none⟩,⟨some 4,.assign (.tmp 7),none⟩]
instance : Live qxu := ⟨[0,1]⟩
def t_k159 : SC :=
 (.seq (.ops false qxv) (.seq (.ops false qxu) .ret))
theorem it_k159 : FnIs Tryz.prog 159 8 [.tmp 4] t_k159 := ⟨Tryz.f159, _, Tryz.func159, rfl, rfl, rfl, rfl, by kernel_rfl⟩

def z0u : List SOp := [⟨some 4,.assign (.const (.int .i64 0)),none⟩]
instance : Live z0u := ⟨[0,1]⟩
def z0t : List SOp := [⟨some 5,.move (.tmp 0),none⟩,⟨some 6,.move (.tmp 1),none⟩,⟨some 7,.call ⟨.value (.func 159),#[.tmp 5,.tmp 6],#[9,9]⟩,none⟩,⟨some 4,.assign (.tmp 7),none⟩]
instance : Live z0t := ⟨[0,1]⟩
def t_k138 : SC :=
 (.seq (.ops false z0u) (.seq (.ops false z0t) .ret))
theorem it_k138 : FnIs Tryz.prog 138 8 [.tmp 4] t_k138 := ⟨Tryz.f138, _, Tryz.func138, rfl, rfl, rfl, rfl, by kernel_rfl⟩

def z5u : List SOp := [⟨some 2,.box 91 (.tmp 0),none⟩,⟨some 3,.box 91 (.tmp 1),none⟩,⟨some 4,.assign (.const (.int .i64 0)),none⟩]
instance : Live z5u := ⟨[0,1]⟩
def z5t : List SOp := [⟨some 6,.fieldAddr 91 (.tmp 2) 0,none⟩,⟨some 7,.load 9 (.tmp 6),none⟩,⟨some 8,.fieldAddr 91 (.tmp 3) 0,none⟩,⟨some 9,.load 9 (.tmp 8),none⟩,⟨some 10,.call ⟨.value (.func 138),#[.tmp 7,.tmp 9],#[9,9]⟩,none⟩,⟨some 5,.assign (.tmp 10),none⟩]
instance : Live z5t := ⟨[2,3]⟩
def z5s : List SOp := [⟨some 11,.move (.tmp 5),none⟩,⟨some 12,.binOp .neq 3 (.tmp 11) (.const (.int .i64 0)) 3,none⟩]
instance : Live z5s := ⟨[2,3,5]⟩
def z5r : List SOp := [⟨some 13,.move (.tmp 5),none⟩,⟨some 4,.assign (.tmp 13),none⟩]
instance : Live z5r := ⟨[5]⟩
def z5q : List SOp := [⟨some 14,.fieldAddr 91 (.tmp 2) 1,none⟩,⟨some 15,.load 26 (.tmp 14),none⟩,⟨some 16,.fieldAddr 91 (.tmp 3) 1,none⟩,⟨some 17,.load 26 (.tmp 16),none⟩,⟨some 18,.call ⟨.value (.func 123),#[.tmp 15,.tmp 17],#[26,26]⟩,none⟩,⟨some 4,.assign (.tmp 18),none⟩]
instance : Live z5q := ⟨[2,3]⟩
def t_k106 : SC :=
 (.seq (.ops false z5u) (.seq (.seq (.ops false z5t) (.seq (.ops false z5s) (.cond (.tmp 12) (.seq (.ops false z5r) .ret) .skip))) (.seq (.ops false z5q) .ret)))
theorem it_k106 : FnIs Tryz.prog 106 19 [.tmp 4] t_k106 := ⟨Tryz.f106, _, Tryz.func106, rfl, rfl, rfl, rfl, by kernel_rfl⟩

def z60 : List SOp := [⟨some 1,.box 91 (.tmp 0),none⟩,⟨some 2,.assign (.const (.int .i64 0)),none⟩]
instance : Live z60 := ⟨[0]⟩
def z5z : List SOp := [⟨some 3,.fieldAddr 91 (.tmp 1) 0,none⟩,⟨some 4,.load 9 (.tmp 3),none⟩,⟨some 5,.binOp .neq 9 (.tmp 4) (.const (.string ⟨#[]⟩)) 9,none⟩,⟨some 6,.move (.tmp 5),none⟩,⟨some 7,.fieldAddr 91 (.tmp 1) 0,some ((some 6),true)⟩,⟨some 8,.load 9 (.tmp 7),some ((some 6),true)⟩,⟨some 9,.call ⟨.value (.func 137),#[.tmp 8],#[9]⟩,some ((some 6),true)⟩,⟨some 10,.unOp .not 4 (.tmp 9),some ((some 6),true)⟩,⟨some 11,.pick (.tmp 6) (.tmp 10) (.const (.bool false)),none⟩]
instance : Live z5z := ⟨[1]⟩
def z5y : List SOp := [⟨some 2,.assign (.const (.int .i64 5)),none⟩]
instance : Live z5y := ⟨[]⟩
def z5x : List SOp := [⟨some 12,.fieldAddr 91 (.tmp 1) 1,none⟩,⟨some 13,.load 26 (.tmp 12),none⟩,⟨some 14,.call ⟨.value (.func 54),#[.tmp 13],#[26]⟩,none⟩,⟨some 15,.unOp .not 4 (.tmp 14),none⟩,⟨some 16,.move (.tmp 15),none⟩,⟨some 17,.fieldAddr 91 (.tmp 1) 1,some ((some 16),false)⟩,⟨some 18,.load 26 (.tmp 17),some ((some 16),false)⟩,⟨some 19,.call ⟨.value (.func 92),#[.tmp 18],#[26]⟩,some ((some 16),false)⟩,⟨some 20,.pick (.tmp 16) (.const (.bool true)) (.tmp 19),none⟩]
instance : Live z5x := ⟨[1]⟩
def z5w : List SOp := [⟨some 2,.assign (.const (.int .i64 1)),none⟩]
instance : Live z5w := ⟨[]⟩
def z5v : List SOp := [⟨some 2,.assign (.const (.int .i64 0)),none⟩]
instance : Live z5v := ⟨[]⟩
def t_k105 : SC :=
 (.seq (.ops false z60) (.seq (.seq (.ops false z5z) (.cond (.tmp 11) (.seq (.ops false z5y) .ret) .skip)) (.seq (.seq (.ops false z5x) (.cond (.tmp 20) (.seq (.ops false z5w) .ret) .skip)) (.seq (.ops false z5v) .ret))))
theorem it_k105 : FnIs Tryz.prog 105 21 [.tmp 2] t_k105 := ⟨Tryz.f105, _, Tryz.func105, rfl, rfl, rfl, rfl, by kernel_rfl⟩

def zgh : List SOp := [⟨some 2,.assign (.const (.int .i64 0)),none⟩]
instance : Live zgh := ⟨[0]⟩
def zgg : List SOp := [⟨some 5,.move (.tmp 0),none⟩,⟨some 6,.call ⟨.builtin .len,#[.tmp 5],#[27]⟩,none⟩,⟨some 7,.move (.const (.int .i64 0)),none⟩]
instance : Live zgg := ⟨[0]⟩
def zgf : List SOp := [⟨some 8,.binOp .lss 3 (.tmp 7) (.tmp 6) 3,none⟩]
instance : Live zgf := ⟨[0,5,6,7]⟩
def zge : List SOp := [⟨some 9,.move (.tmp 7),none⟩,⟨some 10,.indexAddr 27 (.tmp 5) (.tmp 7),none⟩,⟨some 11,.load 91 (.tmp 10),none⟩,⟨some 4,.alloc 91,none⟩,⟨some 3,.assign (.tmp 9),none⟩,⟨none,.store 91 (.tmp 4) (.tmp 11),none⟩]
instance : Live zge := ⟨[0,5,6,7]⟩
def zgd : List SOp := [⟨some 12,.load 91 (.tmp 4),none⟩,⟨some 13,.call ⟨.value (.func 105),#[.tmp 12],#[91]⟩,none⟩,⟨some 14,.binOp .neq 32 (.tmp 13) (.const (.int .i64 0)) 32,none⟩,⟨some 15,.move (.tmp 14),none⟩,⟨some 16,.move (.tmp 3),some ((some 15),false)⟩,⟨some 17,.binOp .gtr 3 (.tmp 16) (.const (.int .i64 0)) 3,some ((some 15),false)⟩,⟨some 18,.move (.tmp 17),some ((some 15),false)⟩,⟨some 19,.move (.tmp 0),some ((some 18),true)⟩,⟨some 20,.move (.tmp 3),some ((some 18),true)⟩,⟨some 21,.binOp .sub 3 (.tmp 20) (.const (.int .i64 1)) 3,some ((some 18),true)⟩,⟨some 22,.indexAddr 27 (.tmp 19) (.tmp 21),some ((some 18),true)⟩,⟨some 23,.load 91 (.tmp 22),some ((some 18),true)⟩,⟨some 24,.load 91 (.tmp 4),some ((some 18),true)⟩,⟨some 25,.call ⟨.value (.func 106),#[.tmp 23,.tmp 24],#[91,91]⟩,some ((some 18),true)⟩,⟨some 26,.binOp .geq 3 (.tmp 25) (.const (.int .i64 0)) 3,some ((some 18),true)⟩,⟨some 27,.pick (.tmp 18) (.tmp 26) (.const (.bool false)),some ((some 15),false)⟩,⟨some 28,.pick (.tmp 15) (.const (.bool true)) (.tmp 27),none⟩]
instance : Live zgd := ⟨[0,3,4,5,6,7]⟩
def zgc : List SOp := [⟨some 2,.assign (.const (.int .i64 1)),none⟩]
instance : Live zgc := ⟨[]⟩
def zgb : List SOp := [⟨some 29,.binOp .add 3 (.tmp 7) (.const (.int .i64 1)) 3,none⟩,⟨some 7,.move (.tmp 29),none⟩]
instance : Live zgb := ⟨[0,5,6,7]⟩
def zga : List SOp := [⟨some 2,.assign (.const (.int .i64 0)),none⟩]
instance : Live zga := ⟨[]⟩
def qro : SC :=
 (.seq (.ops false zgf) (.seq (.cond (.tmp 8) .skip (.exit 0)) (.seq (.block 1 (.seq (.ops false zge) (.seq (.ops true zgd) (.cond (.tmp 28) (.seq (.ops false zgc) .ret) .skip)))) (.ops false zgb))))
def t_k55 : SC :=
 (.seq (.ops false zgh) (.seq (.seq (.ops false zgg) (.block 0 (.loop qro))) (.seq (.ops false zga) .ret)))
theorem it_k55 : FnIs Tryz.prog 55 30 [.tmp 2] t_k55 := ⟨Tryz.f55, _, Tryz.func55, rfl, rfl, rfl, rfl, by kernel_rfl⟩

def z6u : List SOp := [⟨some 1,.box 62 (.tmp 0),none⟩,⟨some 2,.assign (.const (.int .i64 0)),none⟩]
instance : Live z6u := ⟨[0]⟩
def z6t : List SOp := [⟨some 4,.fieldAddr 62 (.tmp 1) 0,none⟩,⟨some 5,.fieldAddr 41 (.tmp 4) 0,none⟩,⟨some 6,.load 3 (.tmp 5),none⟩,⟨some 7,.binOp .lss 3 (.tmp 6) (.const (.int .i64 0)) 3,none⟩,⟨some 8,.move (.tmp 7),none⟩,⟨some 9,.fieldAddr 62 (.tmp 1) 0,some ((some 8),false)⟩,⟨some 10,.fieldAddr 41 (.tmp 9) 0,some ((some 8),false)⟩,⟨some 11,.load 3 (.tmp 10),some ((some 8),false)⟩,⟨some 12,.binOp .geq 3 (.tmp 11) (.const (.int .i64 16)) 3,some ((some 8),false)⟩,⟨some 13,.pick (.tmp 8) (.const (.bool true)) (.tmp 12),none⟩,⟨some 3,.assign (.tmp 13),none⟩]
instance : Live z6t := ⟨[1]⟩
def z6s : List SOp := [⟨some 2,.assign (.const (.int .i64 3)),none⟩]
instance : Live z6s := ⟨[]⟩
def z6r : List SOp := [⟨some 15,.fieldAddr 62 (.tmp 1) 0,none⟩,⟨some 16,.fieldAddr 41 (.tmp 15) 1,none⟩,⟨some 17,.load 3 (.tmp 16),none⟩,⟨some 18,.binOp .lss 3 (.tmp 17) (.const (.int .i64 1)) 3,none⟩,⟨some 19,.move (.tmp 18),none⟩,⟨some 20,.fieldAddr 62 (.tmp 1) 0,some ((some 19),false)⟩,⟨some 21,.fieldAddr 41 (.tmp 20) 1,some ((some 19),false)⟩,⟨some 22,.load 3 (.tmp 21),some ((some 19),false)⟩,⟨some 23,.binOp .gtr 3 (.tmp 22) (.const (.int .i64 1000000000)) 3,some ((some 19),false)⟩,⟨some 24,.pick (.tmp 19) (.const (.bool true)) (.tmp 23),none⟩,⟨some 14,.assign (.tmp 24),none⟩]
instance : Live z6r := ⟨[1]⟩
def z6q : List SOp := [⟨some 2,.assign (.const (.int .i64 2)),none⟩]
instance : Live z6q := ⟨[]⟩
def z6p : List SOp := [⟨some 26,.fieldAddr 62 (.tmp 1) 1,none⟩,⟨some 27,.load 9 (.tmp 26),none⟩,⟨some 28,.call ⟨.value (.func 137),#[.tmp 27],#[9]⟩,none⟩,⟨some 29,.unOp .not 4 (.tmp 28),none⟩,⟨some 25,.assign (.tmp 29),none⟩]
instance : Live z6p := ⟨[1]⟩
def z6o : List SOp := [⟨some 2,.assign (.const (.int .i64 5)),none⟩]
instance : Live z6o := ⟨[]⟩
def z6n : List SOp := [⟨some 31,.fieldAddr 62 (.tmp 1) 2,none⟩,⟨some 32,.load 3 (.tmp 31),none⟩,⟨some 33,.binOp .lss 3 (.tmp 32) (.const (.int .i64 1)) 3,none⟩,⟨some 34,.move (.tmp 33),none⟩,⟨some 35,.fieldAddr 62 (.tmp 1) 2,some ((some 34),false)⟩,⟨some 36,.load 3 (.tmp 35),some ((some 34),false)⟩,⟨some 37,.binOp .gtr 3 (.tmp 36) (.const (.int .i64 1000000)) 3,some ((some 34),false)⟩,⟨some 38,.pick (.tmp 34) (.const (.bool true)) (.tmp 37),none⟩,⟨some 30,.assign (.tmp 38),none⟩]
instance : Live z6n := ⟨[1]⟩
def z6m : List SOp := [⟨some 2,.assign (.const (.int .i64 6)),none⟩]
instance : Live z6m := ⟨[]⟩
def qnn : List SOp := [⟨some 2,.assign (.const (.int .i64 0)),none⟩]
instance : Live qnn := ⟨[]⟩
def t_k101 : SC :=
 (.seq (.ops false z6u) (.seq (.block 0 (.seq (.ops false z6t) (.cond (.tmp 3) (.seq (.ops false z6s) .ret) (.seq (.ops false z6r) (.cond (.tmp 14) (.seq (.ops false z6q) .ret) (.seq (.ops false z6p) (.cond (.tmp 25) (.seq (.ops false z6o) .ret) (.seq (.ops false z6n) (.cond (.tmp 30) (.seq (.ops false z6m) .ret) .skip))))))))) (.seq (.ops false qnn) .ret)))
theorem it_k101 : FnIs Tryz.prog 101 39 [.tmp 2] t_k101 := ⟨Tryz.f101, _, Tryz.func101, rfl, rfl, rfl, rfl, by kernel_rfl⟩

def z6l : List SOp := [⟨some 2,.box 41 (.tmp 0),none⟩,⟨some 3,.box 41 (.tmp 1),none⟩,⟨some 4,.assign (.const (.bool false)),none⟩]
instance : Live z6l := ⟨[0,1]⟩
def z6k : List SOp := [⟨some 5,.fieldAddr 41 (.tmp 2) 0,none⟩,⟨some 6,.load 3 (.tmp 5),none⟩,⟨some 7,.fieldAddr 41 (.tmp 3) 0,none⟩,⟨some 8,.load 3 (.tmp 7),none⟩,⟨some 9,.binOp .lss 3 (.tmp 6) (.tmp 8) 3,none⟩,⟨some 10,.move (.tmp 9),none⟩,⟨some 11,.fieldAddr 41 (.tmp 2) 0,some ((some 10),false)⟩,⟨some 12,.load 3 (.tmp 11),some ((some 10),false)⟩,⟨some 13,.fieldAddr 41 (.tmp 3) 0,some ((some 10),false)⟩,⟨some 14,.load 3 (.tmp 13),some ((some 10),false)⟩,⟨some 15,.binOp .eql 3 (.tmp 12) (.tmp 14) 3,some ((some 10),false)⟩,⟨some 16,.move (.tmp 15),some ((some 10),false)⟩,⟨some 17,.fieldAddr 41 (.tmp 2) 1,some ((some 16),true)⟩,⟨some 18,.load 3 (.tmp 17),some ((some 16),true)⟩,⟨some 19,.fieldAddr 41 (.tmp 3) 1,some ((some 16),true)⟩,⟨some 20,.load 3 (.tmp 19),some ((some 16),true)⟩,⟨some 21,.binOp .lss 3 (.tmp 18) (.tmp 20) 3,some ((some 16),true)⟩,⟨some 22,.pick (.tmp 16) (.tmp 21) (.const (.bool false)),some ((some 10),false)⟩,⟨some 23,.pick (.tmp 10) (.const (.bool true)) (.tmp 22),none⟩,⟨some 4,.assign (.tmp 23),none⟩]
instance : Live z6k := ⟨[2,3]⟩
def t_k102 : SC :=
 (.seq (.ops false z6l) (.seq (.ops false z6k) .ret))
theorem it_k102 : FnIs Tryz.prog 102 24 [.tmp 4] t_k102 := ⟨Tryz.f102, _, Tryz.func102, rfl, rfl, rfl, rfl, by kernel_rfl⟩

def zgs : List SOp := [⟨some 2,.assign (.const (.int .i64 0)),none⟩]
instance : Live zgs := ⟨[0]⟩
def zgr : List SOp := [⟨some 5,.move (.tmp 0),none⟩,⟨some 6,.call ⟨.builtin .len,#[.tmp 5],#[22]⟩,none⟩,⟨some 7,.move (.const (.int .i64 0)),none⟩]
instance : Live zgr := ⟨[0]⟩
def zgq : List SOp := [⟨some 8,.binOp .lss 3 (.tmp 7) (.tmp 6) 3,none⟩]
instance : Live zgq := ⟨[0,5,6,7]⟩
def zgp : List SOp := [⟨some 9,.move (.tmp 7),none⟩,⟨some 10,.indexAddr 22 (.tmp 5) (.tmp 7),none⟩,⟨some 11,.load 62 (.tmp 10),none⟩,⟨some 4,.alloc 62,none⟩,⟨some 3,.assign (.tmp 9),none⟩,⟨none,.store 62 (.tmp 4) (.tmp 11),none⟩]
instance : Live zgp := ⟨[0,5,6,7]⟩
def zgo : List SOp := [⟨some 12,.load 62 (.tmp 4),none⟩,⟨some 13,.call ⟨.value (.func 101),#[.tmp 12],#[62]⟩,none⟩,⟨some 14,.binOp .neq 32 (.tmp 13) (.const (.int .i64 0)) 32,none⟩,⟨some 15,.move (.tmp 14),none⟩,⟨some 16,.move (.tmp 3),some ((some 15),false)⟩,⟨some 17,.binOp .gtr 3 (.tmp 16) (.const (.int .i64 0)) 3,some ((some 15),false)⟩,⟨some 18,.move (.tmp 17),some ((some 15),false)⟩,⟨some 19,.move (.tmp 0),some ((some 18),true)⟩,⟨some 20,.move (.tmp 3),some ((some 18),true)⟩,⟨some 21,.binOp .sub 3 (.tmp 20) (.const (.int .i64 1)) 3,some ((some 18),true)⟩,⟨some 22,.indexAddr 22 (.tmp 19) (.tmp 21),some ((some 18),true)⟩,⟨some 23,.fieldAddr 62 (.tmp 22) 0,some ((some 18),true)⟩,⟨some 24,.load 41 (.tmp 23),some ((some 18),true)⟩,⟨some 25,.fieldAddr 62 (.tmp 4) 0,some ((some 18),true)⟩,⟨some 26,.load 41 (.tmp 25),some ((some 18),true)⟩,⟨some 27,.call ⟨.value (.func 102),#[.tmp 24,.tmp 26],#[41,41]⟩,some ((some 18),true)⟩,⟨some 28,.unOp .not 4 (.tmp 27),some ((some 18),true)⟩,⟨some 29,.pick (.tmp 18) (.tmp 28) (.const (.bool false)),some ((some 15),false)⟩,⟨some 30,.pick (.tmp 15) (.const (.bool true)) (.tmp 29),none⟩]
instance : Live zgo := ⟨[0,3,4,5,6,7]⟩
def zgn : List SOp := [⟨some 2,.assign (.const (.int .i64 1)),none⟩]
instance : Live zgn := ⟨[]⟩
def zgm : List SOp := [⟨some 31,.binOp .add 3 (.tmp 7) (.const (.int .i64 1)) 3,none⟩,⟨some 7,.move (.tmp 31),none⟩]
instance : Live zgm := ⟨[0,5,6,7]⟩
def zgl : List SOp := [⟨some 2,.assign (.const (.int .i64 0)),none⟩]
instance : Live zgl := ⟨[]⟩
def qrp : SC :=
 (.seq (.ops false zgq) (.seq (.cond (.tmp 8) .skip (.exit 0)) (.seq (.block 1 (.seq (.ops false zgp) (.seq (.ops true zgo) (.cond (.tmp 30) (.seq (.ops false zgn) .ret) .skip)))) (.ops false zgm))))
def t_k53 : SC :=
 (.seq (.ops false zgs) (.seq (.seq (.ops false zgr) (.block 0 (.loop qrp))) (.seq (.ops false zgl) .ret)))
theorem it_k53 : FnIs Tryz.prog 53 32 [.tmp 2] t_k53 := ⟨Tryz.f53, _, Tryz.func53, rfl, rfl, rfl, rfl, by kernel_rfl⟩

def z51 : List SOp := [⟨some 1,.box 41 (.tmp 0),none⟩,⟨some 2,.assign (.const (.bool false)),none⟩]
instance : Live z51 := ⟨[0]⟩
def z4z : List SOp := [⟨some 3,.fieldAddr 41 (.tmp 1) 0,none⟩,⟨some 4,.load 3 (.tmp 3),none⟩,⟨some 5,.binOp .geq 3 (.tmp 4) (.const (.int .i64 0)) 3,none⟩,⟨some 6,.move (.tmp 5),none⟩,⟨some 7,.fieldAddr 41 (.tmp 1) 0,some ((some 6),true)⟩,⟨some 8,.load 3 (.tmp 7),some ((some 6),true)⟩,⟨some 9,.binOp .lss 3 (.tmp 8) (.const (.int .i64 16)) 3,some ((some 6),true)⟩,⟨some 10,.pick (.tmp 6) (.tmp 9) (.const (.bool false)),none⟩,⟨some 11,.move (.tmp 10),none⟩,⟨some 12,.fieldAddr 41 (.tmp 1) 1,some ((some 11),true)⟩,⟨some 13,.load 3 (.tmp 12),some ((some 11),true)⟩,⟨some 14,.binOp .geq 3 (.tmp 13) (.const (.int .i64 1)) 3,some ((some 11),true)⟩,⟨some 15,.pick (.tmp 11) (.tmp 14) (.const (.bool false)),none⟩,⟨some 16,.move (.tmp 15),none⟩,⟨some 17,.fieldAddr 41 (.tmp 1) 1,some ((some 16),true)⟩,⟨some 18,.load 3 (.tmp 17),some ((some 16),true)⟩,⟨some 19,.binOp .leq 3 (.tmp 18) (.const (.int .i64 1000000000)) 3,some ((some 16),true)⟩,⟨some 20,.pick (.tmp 16) (.tmp 19) (.const (.bool false)),none⟩,⟨some 2,.assign (.tmp 20),none⟩]
instance : Live z4z := ⟨[1]⟩
def t_k111 : SC :=
 (.seq (.ops false z51) (.seq (.ops false z4z) .ret))
theorem it_k111 : FnIs Tryz.prog 111 21 [.tmp 2] t_k111 := ⟨Tryz.f111, _, Tryz.func111, rfl, rfl, rfl, rfl, by kernel_rfl⟩

def zej : List SOp := [⟨some 1,.box 26 (.tmp 0),none⟩,⟨some 2,.assign (.const (.bool false)),none⟩]
instance : Live zej := ⟨[0]⟩
def zei : List SOp := [⟨some 3,.load 26 (.tmp 1),none⟩,⟨some 4,.load 26 (.tmp 1),none⟩,⟨some 5,.call ⟨.value (.func 117),#[.tmp 4],#[26]⟩,none⟩,⟨some 6,.call ⟨.value (.func 50),#[.tmp 3,.tmp 5],#[26,26]⟩,none⟩,⟨some 2,.assign (.tmp 6),none⟩]
instance : Live zei := ⟨[1]⟩
def t_k68 : SC :=
 (.seq (.ops false zej) (.seq (.ops true zei) .ret))
theorem it_k68 : FnIs Tryz.prog 68 7 [.tmp 2] t_k68 := ⟨Tryz.f68, _, Tryz.func68, rfl, rfl, rfl, rfl, by kernel_rfl⟩

theorem hook_cmp {P : Program} {f : FuncId} {fn : Func} (hf : P.funcs[f]? = some fn) (h1 : (fn.name = "runtime.NumGoroutine") = False) (h2 : (fn.body = none) = True) (h3 : Extern.findNext fn = none) (h4 : Extern.find fn = some Extern.BytealgCompare.compare) {s : AS} {x y : Operand} {ts : Array TypeId} {a b : ByteArray} (hx : ev s.T x = .str a) (hy : ev s.T y = .str b) :
 Hook P s (.call ⟨.value (.func f), #[x, y], ts⟩) (fun v M' => M' = s.M ∧ v = .int .i64 (q7k a b)) := by
 intro n B G act w hR o ho K Q hK
 have q1 := hR.ev x
 have q2 := hR.ev y
 rw [hx] at q1
 rw [hy] at q2
 generalize hxv : act.eval x = xv at q1
 generalize hyv : act.eval y = yv at q2
 cases q1
 cases q2
 have hrun : (execOp act.eval o).run P w = .ok (.value (.int .i64 (q7k a b))) w := by
  unfold execOp
  rw [ho]
  have hc := Go.Lib.run_compareString (P := P) a b w
  rw [qav] at hc
  have hf0 : act.eval (.func f) = .func (.func f) #[] #[] := rfl
  simp [resolve, Deferred.ofValue, invoke, callFunc, hf, hf0, h1, h2, h3, h4, hxv, hyv, hc, Result.andThen, q7k, bs]
 unfold Oper.wp
 rw [hrun]
 exact hK (.int .i64 (q7k a b)) _ s.M w G ⟨rfl, rfl⟩ (.refl G w) hR (.int _ _)
theorem ev_k159 (a b : ByteArray) : Ev (En Tryz.prog rfl).P 159 [.str a, .str b] (.ret (.int .i64 (q7k a b))) := by
 refine Ev.of_body it_k159 (by simp) (Run.start ?_)
 unfold t_k159
 (have hF := True.intro; refine q01 (k:=?_); clear hF)
 refine q49 (hook_cmp (f := 173) (fn := Tryz.f173) Tryz.func173 (eq_false (by decide)) (eq_true rfl) rfl rfl rfl rfl) ?_
 rintro v M' ⟨rfl, rfl⟩
 dsimp only [AS.put]
 (have hF := True.intro; refine q01 (k:=?_); clear hF)
 exact Fin.tmp' rfl rfl
theorem ev_k138 (a b : ByteArray) : Ev (En Tryz.prog rfl).P 138 [.str a, .str b] (.ret (.int .i64 (q7k a b))) := by
 refine Ev.of_body it_k138 (by simp) (Run.start ?_)
 unfold t_k138
 (have hF := True.intro; refine q01 (k:=?_); clear hF)
 refine q00 [.str a, .str b] (he := ev_k159 a b) (k:=?_)
 (have hF := True.intro; refine q01 (k:=?_); clear hF)
 exact Fin.tmp' rfl rfl
theorem qh5 (a b : Rec) (ha : wt a.past ≤ 50000000) (hb : wt b.past ≤ 50000000) : Ev (En Tryz.prog rfl).P 106 [q3p a, q3p b] (.ret (.int .i64 (q31 a b))) := by
 refine Ev.of_body it_k106 (by simp) (Run.start ?_)
 unfold t_k106 q3p q31
 have c1 := ev_k138 a.sku b.sku
 have c2 := zm8 a.past b.past ha hb
 generalize q7k a.sku b.sku = v at c1 ⊢
 (have hF := True.intro; refine q01 (k:=?_); clear hF)
 refine q00 [.str a.sku, .str b.sku] (he := c1) (k:=?_)
 by_cases h : v = 0
 ·rw [if_pos h]
  (have hF := @h; refine q01 (k:=?_); clear hF)
  refine q00 [q0f a.past, q0f b.past] (he := c2) (k:=?_)
  (have hF := True.intro; refine q01 (k:=?_); clear hF)
  exact Fin.tmp' rfl rfl
 ·rw [if_neg h]
  (have hF := True.intro; refine q01 (k:=?_); clear hF)
  exact Fin.tmp' rfl rfl
theorem qnx (p : Pst) : qpp p (q16 p) = q1j p := by
 refine qal ?_
 rw [q42]
 constructor
 ·intro h
  have : ∀ a b : Pst, a.vec = b.vec → a.cloud = b.cloud → a = b := fun a b u v => by cases a; cases b; simp at u v; rw [u, v]
  have h' := of_decide_eq_true h
  exact (this _ _ h'.1 h'.2).symm
 ·intro h
  have h' : q16 p = p := h
  rw [h']
  exact q9z ⟨rfl, rfl⟩
theorem ev_k68 (p : Pst) (hw : wt p ≤ 30000000) : Ev (En Tryz.prog rfl).P 68 [q0f p] (.ret (.bool (q1j p))) := by
 have c1 := qh4 p (by omega)
 have w := q5m p
 have c2 := zly p (q16 p) (by unfold wt at *; omega) (by unfold wt at *; omega)
 rw [qnx] at c2
 refine Ev.of_body it_k68 (by simp) (Run.start ?_)
 unfold t_k68 q0f
 (have hF := True.intro; refine q01 (k:=?_); clear hF)
 refine q00 [q0f p] (he := c1) (k:=?_)
 (have hF := True.intro; refine q01 (k:=?_); clear hF)
 refine q00 [q0f p, q0f (q16 p)] (he := c2) (k:=?_)
 (have hF := True.intro; refine q01 (k:=?_); clear hF)
 exact Fin.tmp' rfl rfl
theorem q8j (s : ByteArray) : (s = (⟨#[]⟩ : ByteArray)) = (s.size = 0) := propext q4v
theorem ev_k105 (r : Rec) (hw : wt r.past ≤ 40000000) : Ev (En Tryz.prog rfl).P 105 [q3p r] (.ret (.int .i64 (q2z r))) := by
 refine Ev.of_body it_k105 (by simp) (Run.start ?_)
 unfold t_k105 q3p q2z
 have c1 := qqa r.sku
 have c2 := qoc r.past hw
 have c3 := z7r r.past (by omega)
 have e := q8j r.sku
 generalize q6z r.sku = v1 at c1 ⊢
 generalize q1j r.past = v2 at c2 ⊢
 generalize q3e r.past = v3 at c3 ⊢
 have tail : ∀ (X : Prop), X → X := fun _ x => x
 by_cases h0 : r.sku.size = 0
 ·have h0' : (r.sku.size = 0) = True := eq_true h0
  simp only [h0', not_true_eq_false, false_and, if_false]
  rw [h0'] at e
  (have hF := (aI @e (aI @decide_true @Bool.not_true)); refine q01 (k:=?_); clear hF)
  refine q00 [q0f r.past] (he := c2) (k:=?_)
  cases v2
  ·(have hF := True.intro; refine q01 (k:=?_); clear hF)
   exact Fin.tmp' rfl rfl
  ·(have hF := True.intro; refine q01 (k:=?_); clear hF)
   refine q00 [q0f r.past] (he := c3) (k:=?_)
   by_cases h3 : v3 = 0
   ·(have hF := @h3; refine q01 (k:=?_); clear hF)
    simp only [h3, or_true, if_true]
    exact Fin.tmp' rfl rfl
   ·(have hF := @h3; refine q01 (k:=?_); clear hF)
    simp only [h3, reduceCtorEq, or_false, if_false]
    exact Fin.tmp' rfl rfl
 ·have h0' : (r.sku.size = 0) = False := eq_false h0
  rw [h0'] at e
  simp only [h0', not_false_eq_true, true_and]
  (have hF := (aI @e (aI @decide_false @Bool.not_false)); refine q01 (k:=?_); clear hF)
  refine q00 [.str r.sku] (he := c1) (k:=?_)
  cases v1
  ·(have hF := True.intro; refine q01 (k:=?_); clear hF)
   exact Fin.tmp' rfl rfl
  ·(have hF := True.intro; refine q01 (k:=?_); clear hF)
   refine q00 [q0f r.past] (he := c2) (k:=?_)
   cases v2
   ·(have hF := True.intro; refine q01 (k:=?_); clear hF)
    exact Fin.tmp' rfl rfl
   ·(have hF := True.intro; refine q01 (k:=?_); clear hF)
    refine q00 [q0f r.past] (he := c3) (k:=?_)
    by_cases h3 : v3 = 0
    ·(have hF := @h3; refine q01 (k:=?_); clear hF)
     simp only [h3, or_true, if_true, reduceCtorEq, if_false]
     exact Fin.tmp' rfl rfl
    ·(have hF := @h3; refine q01 (k:=?_); clear hF)
     simp only [h3, reduceCtorEq, or_false, if_false]
     exact Fin.tmp' rfl rfl
theorem qf7 {l : List Rec} {i : Nat} {r : Rec} (hr : l[i]? = some r) (hI : (∀ (j : Nat) q, j < i → l[j]? = some q → q2z q = 0) ∧ ∀ (j : Nat) a b, j + 1 < i → l[j]? = some a → l[j + 1]? = some b → q31 a b < 0) (h0 : q2z r = 0)
 (h1 : ∀ q, 0 < i → l[i - 1]? = some q → q31 q r < 0) : (∀ (j : Nat) q, j < i + 1 → l[j]? = some q → q2z q = 0) ∧ ∀ (j : Nat) a b, j + 1 < i + 1 → l[j]? = some a → l[j + 1]? = some b → q31 a b < 0 := by
 refine ⟨fun j q hj hq => ?_, fun j a b hj ha hb => ?_⟩
 ·by_cases e : j = i
  ·subst e; rw [hr] at hq; cases hq; exact h0
  ·exact hI.1 j q (by omega) hq
 ·by_cases e : j + 1 = i
  ·subst e
   rw [hr] at hb
   cases hb
   exact h1 a (by omega) (by simpa using ha)
  ·exact hI.2 j a b (by omega) ha hb
theorem q2x (l : List Rec) (hl : l.length ≤ 1000000000) (hw : ∀ r ∈ l, wt r.past ≤ 40000000) : Ev (En Tryz.prog rfl).P 55 [.sl 3 (q09 l)] (.ret (.int .i64 (if q3f l = true then 0 else 1))) := by
 refine Ev.of_body it_k55 (by simp) (Run.start ?_)
 unfold t_k55
 have e1 := q0h l
 have hS := qpa
 (have hF := @e1; refine q01 (k:=?_); clear hF)
 refine Run.while (σ := Nat) (fun i => ⟨tms [(0, .sl 3 (q09 l)), (5, .sl 3 (q09 l)), (6, .int .i64 (l.length : Int)), (7, .int .i64 (i : Int))], mms []⟩)
  (fun i => i ≤ l.length ∧ (∀ (j : Nat) q, j < i → l[j]? = some q → q2z q = 0) ∧ ∀ (j : Nat) a b, j + 1 < i → l[j]? = some a → l[j + 1]? = some b → q31 a b < 0) (fun i => l.length - i) 0 (have hW := @q02; q0g) ⟨Nat.zero_le _, fun j q hj => absurd hj (Nat.not_lt_zero _), fun j a b hj => by omega⟩ ?_
 rintro i ⟨hi, hI⟩
 unfold qro
 by_cases hlt : i < l.length
 ·obtain ⟨r, hr⟩ : ∃ r, l[i]? = some r := ⟨l[i], by simp [hlt]⟩
  have g1 := q0o hr
  have hwr := hw r (List.mem_of_getElem? hr)
  have c1 := ev_k105 r (by omega)
  have hst := fun h0 h1 => qf7 hr hI h0 h1
  have hbad : q2z r ≠ 0 → ¬ q3g l := fun h hf => h (hf.1 i r hr)
  generalize q2z r = v at c1 hst hbad
  (have hF := (aI @e1 @g1); refine q01 (k:=?_); clear hF)
  refine q00 [q3p r] (he := c1) (k:=?_)
  by_cases hv : v = 0
  ·by_cases h0 : i = 0
   ·have hst := hst hv (fun q hq => by omega)
    have h0' : (i : Int) = 0 := by omega
    (have hF := (aI (aI @e1 @g1) (aI @hv @h0')); refine q01 (k:=?_); clear hF)
    have hi1 : ((0 : Int) + 1) = ((i + 1 : Nat) : Int) := by omega
    (refine Fin.nextW (i + 1) ?_ (have hW := (aI @q02 @hi1); q0g); (try dsimp only))
    exact ⟨⟨hlt, hst⟩, by omega⟩
   ·obtain ⟨q, hq⟩ : ∃ q, l[i - 1]? = some q := ⟨l[i - 1]'(by omega), by simp [show i - 1 < l.length by omega]⟩
    have g2 := q0o hq
    have hpw : IntKind.i64.wrap ((i : Int) - 1) = ((i - 1 : Nat) : Int) := by rw [q2i (by omega)]; omega
    have hwq := hw q (List.mem_of_getElem? hq)
    have c2 := qh5 q r (by omega) (by omega)
    have hst := hst hv
    have hbad2 : ¬ q31 q r < 0 → ¬ q3g l := fun h hf => h (hf.2 (i - 1) q r hq (by rw [show i - 1 + 1 = i by omega]; exact hr))
    have hst : q31 q r < 0 → _ := fun h => hst (fun q' _ hq' => by rw [hq] at hq'; cases hq'; exact h)
    generalize q31 q r = u at c2 hst hbad2
    (have hF := (aI (aI @e1 @g1) (aI @g2 (aI @hv @hpw))); refine q01 (k:=?_); clear hF)
    refine q00 [q3p q, q3p r] (he := c2) (k:=?_)
    by_cases hu : u < 0
    ·have hst := hst hu
     (have hF := (aI @e1 @g1); refine q01 (k:=?_); clear hF)
     (refine Fin.nextW (i + 1) ?_ (have hW := @q02; q0g); (try dsimp only))
     exact ⟨⟨hlt, hst⟩, by omega⟩
    ·rw [q53 (hbad2 hu)]
     (have hF := (aI @e1 @g1); refine q01 (k:=?_); clear hF)
     exact Fin.tmp' rfl rfl
  ·rw [q53 (hbad hv)]
   (have hF := (aI @e1 (aI @g1 @hv)); refine q01 (k:=?_); clear hF)
   exact Fin.tmp' rfl rfl
 ·rw [q2g ⟨fun j q hq => hI.1 j q (by
   rcases Nat.lt_or_ge j l.length with h | h
   ·omega
   ·rw [List.getElem?_eq_none h] at hq; cases hq) hq, fun j a b ha hb => hI.2 j a b (by
   rcases Nat.lt_or_ge (j + 1) l.length with h | h
   ·omega
   ·rw [List.getElem?_eq_none h] at hb; cases hb) ha hb⟩]
  (have hF := @e1; refine q01 (k:=?_); clear hF)
  exact Fin.tmp' rfl rfl
theorem ev_k55 (l : List Rec) (hw : q5d l ≤ 40000000) : Ev (En Tryz.prog rfl).P 55 [.sl 3 (q09 l)] (.ret (.int .i64 (if q3f l = true then 0 else 1))) := by
 have hlw := q6f l
 exact q2x l (by omega) (fun r hr => by have := qek hr; unfold wtK at this; omega)

theorem ev_k101 (e : Ent) : Ev (En Tryz.prog rfl).P 101 [qb1 e] (.ret (.int .i64 (q21 e))) := by
 refine Ev.of_body it_k101 (by simp) (Run.start ?_)
 unfold t_k101 qb1 q21
 have c1 := qqa e.sku
 generalize q6z e.sku = v at c1 ⊢
 by_cases h1 : e.rep < 0 ∨ 16 ≤ e.rep
 ·rw [if_pos h1]
  rcases h1 with h1 | h1
  all_goals
   (have hF := True.intro; refine q01 (k:=?_); clear hF)
  all_goals first | exact Fin.tmp' rfl rfl | (exfalso; omega)
 ·rw [if_neg h1]
  by_cases h2 : e.num < 1 ∨ 1000000000 < e.num
  ·rw [if_pos h2]
   rcases h2 with h2 | h2
   all_goals
    (have hF := True.intro; refine q01 (k:=?_); clear hF)
   all_goals first | exact Fin.tmp' rfl rfl | (exfalso; omega)
  ·rw [if_neg h2]
   (have hF := True.intro; refine q01 (k:=?_); clear hF)
   all_goals
    refine q00 [.str e.sku] (he := c1) (k:=?_)
    cases v
    case' false =>
     rw [if_pos rfl]
     (have hF := True.intro; refine q01 (k:=?_); clear hF)
     exact Fin.tmp' rfl rfl
    case' true =>
     rw [if_neg (by decide)]
     by_cases h3 : e.qty < 1 ∨ 1000000 < e.qty
     ·rw [if_pos h3]
      rcases h3 with h3 | h3
      all_goals
       (have hF := True.intro; refine q01 (k:=?_); clear hF)
      all_goals first | exact Fin.tmp' rfl rfl | (exfalso; omega)
     ·rw [if_neg h3]
      (have hF := True.intro; refine q01 (k:=?_); clear hF)
      all_goals first | exact Fin.tmp' rfl rfl | (exfalso; omega)
theorem ev_k102 (a b : Rn) : Ev (En Tryz.prog rfl).P 102 [q3v a, q3v b] (.ret (.bool (q34 a b))) := by
 refine Ev.of_body it_k102 (by simp) (Run.start ?_)
 unfold t_k102 q3v q34
 by_cases h1 : a.1 < b.1
 ·rw [show (decide (a.1 < b.1) || (decide (a.1 = b.1) && decide (a.2 < b.2))) = true by simp [h1]]
  (have hF := True.intro; refine q01 (k:=?_); clear hF)
  exact Fin.tmp' rfl rfl
 ·by_cases h2 : a.1 = b.1
  ·rw [show (decide (a.1 < b.1) || (decide (a.1 = b.1) && decide (a.2 < b.2))) = decide (a.2 < b.2) by simp [h1, h2]]
   (have hF := True.intro; refine q01 (k:=?_); clear hF)
   exact Fin.tmp' rfl rfl
  ·rw [show (decide (a.1 < b.1) || (decide (a.1 = b.1) && decide (a.2 < b.2))) = false by simp [h1, h2]]
   (have hF := True.intro; refine q01 (k:=?_); clear hF)
   exact Fin.tmp' rfl rfl
theorem zmb (d : Rn) : Ev (En Tryz.prog rfl).P 111 [q3v d] (.ret (.bool (q3l d.1 d.2))) := by
 refine Ev.of_body it_k111 (by simp) (Run.start ?_)
 unfold t_k111 q3v q3l
 by_cases h1 : 0 ≤ d.1 <;> by_cases h2 : d.1 < 16 <;> by_cases h3 : 1 ≤ d.2 <;> by_cases h4 : d.2 ≤ 1000000000
 all_goals
  simp only [h1, h2, h3, h4, decide_true, decide_false, Bool.and_true, Bool.and_false, Bool.true_and, Bool.false_and]
  (have hF := True.intro; refine q01 (k:=?_); clear hF)
  all_goals first | exact Fin.tmp' rfl rfl | (exfalso; omega)
theorem qf8 {l : List Ent} {i : Nat} {r : Ent} (hr : l[i]? = some r) (hI : (∀ (j : Nat) q, j < i → l[j]? = some q → q21 q = 0) ∧ ∀ (j : Nat) a b, j + 1 < i → l[j]? = some a → l[j + 1]? = some b → q34 a.dot b.dot = true) (h0 : q21 r = 0)
 (h1 : ∀ q, 0 < i → l[i - 1]? = some q → q34 q.dot r.dot = true) : (∀ (j : Nat) q, j < i + 1 → l[j]? = some q → q21 q = 0) ∧ ∀ (j : Nat) a b, j + 1 < i + 1 → l[j]? = some a → l[j + 1]? = some b → q34 a.dot b.dot = true := by
 refine ⟨fun j q hj hq => ?_, fun j a b hj ha hb => ?_⟩
 ·by_cases e : j = i
  ·subst e; rw [hr] at hq; cases hq; exact h0
  ·exact hI.1 j q (by omega) hq
 ·by_cases e : j + 1 = i
  ·subst e
   rw [hr] at hb
   cases hb
   exact h1 a (by omega) (by simpa using ha)
  ·exact hI.2 j a b (by omega) ha hb
theorem qo6 {l : List Ent} {i : Nat} (hi : l.length ≤ i) (hI : (∀ (j : Nat) q, j < i → l[j]? = some q → q21 q = 0) ∧ ∀ (j : Nat) a b, j + 1 < i → l[j]? = some a → l[j + 1]? = some b → q34 a.dot b.dot = true) : q71 l :=
 ⟨fun j q hq => hI.1 j q (by
  rcases Nat.lt_or_ge j l.length with h | h
  ·omega
  ·rw [List.getElem?_eq_none h] at hq; cases hq) hq, fun j a b ha hb => hI.2 j a b (by
  rcases Nat.lt_or_ge (j + 1) l.length with h | h
  ·omega
  ·rw [List.getElem?_eq_none h] at hb; cases hb) ha hb⟩
theorem qod (l : List Ent) (hl : l.length ≤ 1000000000) : Ev (En Tryz.prog rfl).P 53 [.sl 4 (q0b l)] (.ret (.int .i64 (if q70 l = true then 0 else 1))) := by
 refine Ev.of_body it_k53 (by simp) (Run.start ?_)
 unfold t_k53
 have e1 := q0n l
 have hS := qpa
 (have hF := @e1; refine q01 (k:=?_); clear hF)
 refine Run.while (σ := Nat) (fun i => ⟨tms [(0, .sl 4 (q0b l)), (5, .sl 4 (q0b l)), (6, .int .i64 (l.length : Int)), (7, .int .i64 (i : Int))], mms []⟩)
  (fun i => i ≤ l.length ∧ (∀ (j : Nat) q, j < i → l[j]? = some q → q21 q = 0) ∧ ∀ (j : Nat) a b, j + 1 < i → l[j]? = some a → l[j + 1]? = some b → q34 a.dot b.dot = true) (fun i => l.length - i) 0 (have hW := @q07; q0g) ⟨Nat.zero_le _, fun j q hj => absurd hj (Nat.not_lt_zero _), fun j a b hj => by omega⟩ ?_
 rintro i ⟨hi, hI⟩
 unfold qrp
 by_cases hlt : i < l.length
 ·obtain ⟨r, hr⟩ : ∃ r, l[i]? = some r := ⟨l[i], by simp [hlt]⟩
  have g1 := q0w hr
  have c1 := ev_k101 r
  have hst := fun h0 h1 => qf8 hr hI h0 h1
  have hbad : q21 r ≠ 0 → ¬ q71 l := fun h hf => h (hf.1 i r hr)
  generalize q21 r = v at c1 hst hbad
  (have hF := (aI @e1 @g1); refine q01 (k:=?_); clear hF)
  refine q00 [qb1 r] (he := c1) (k:=?_)
  by_cases hv : v = 0
  ·by_cases h0 : i = 0
   ·have hst := hst hv (fun q hq => by omega)
    have h0' : (i : Int) = 0 := by omega
    (have hF := (aI (aI @e1 @g1) (aI @hv @h0')); refine q01 (k:=?_); clear hF)
    have hi1 : ((0 : Int) + 1) = ((i + 1 : Nat) : Int) := by omega
    (refine Fin.nextW (i + 1) ?_ (have hW := (aI @q07 @hi1); q0g); (try dsimp only))
    exact ⟨⟨hlt, hst⟩, by omega⟩
   ·obtain ⟨q, hq⟩ : ∃ q, l[i - 1]? = some q := ⟨l[i - 1]'(by omega), by simp [show i - 1 < l.length by omega]⟩
    have g2 := q0w hq
    have hpw : IntKind.i64.wrap ((i : Int) - 1) = ((i - 1 : Nat) : Int) := by rw [q2i (by omega)]; omega
    have c2 := ev_k102 q.dot r.dot
    have hst := hst hv
    have hbad2 : q34 q.dot r.dot = false → ¬ q71 l := fun h hf => by
     have := hf.2 (i - 1) q r hq (by rw [show i - 1 + 1 = i by omega]; exact hr)
     rw [h] at this
     cases this
    have hst : q34 q.dot r.dot = true → _ := fun h => hst (fun q' _ hq' => by rw [hq] at hq'; cases hq'; exact h)
    generalize q34 q.dot r.dot = u at c2 hst hbad2
    (have hF := (aI (aI @e1 @g1) (aI @g2 (aI @hv @hpw))); refine q01 (k:=?_); clear hF)
    refine q00 [q3v q.dot, q3v r.dot] (he := c2) (k:=?_)
    cases u
    ·rw [q6q (hbad2 rfl)]
     (have hF := (aI @e1 @g1); refine q01 (k:=?_); clear hF)
     exact Fin.tmp' rfl rfl
    ·have hst := hst rfl
     (have hF := (aI @e1 @g1); refine q01 (k:=?_); clear hF)
     (refine Fin.nextW (i + 1) ?_ (have hW := @q07; q0g); (try dsimp only))
     exact ⟨⟨hlt, hst⟩, by omega⟩
  ·rw [q6q (hbad hv)]
   (have hF := (aI @e1 (aI @g1 @hv)); refine q01 (k:=?_); clear hF)
   exact Fin.tmp' rfl rfl
 ·rw [q4o (qo6 (by omega) hI)]
  (have hF := @e1; refine q01 (k:=?_); clear hF)
  exact Fin.tmp' rfl rfl
theorem z9w (e : Ent) : q21 e = 0 ↔ q3l e.rep e.num = true ∧ q6z e.sku = true ∧ ¬ e.qty < 1 ∧ ¬ 1000000 < e.qty := by
 rw [q9h]
 unfold q21
 split
 ·constructor
  ·intro h; simp at h
  ·intro h; omega
 ·split
  ·constructor
   ·intro h; simp at h
   ·intro h; omega
  ·split
   ·rename_i h
    constructor
    ·intro h; simp at h
    ·intro h'; rw [h] at h'; simp at h'
   ·rename_i h
    split
    ·constructor
     ·intro h; simp at h
     ·intro h; omega
    ·constructor
     ·intro _; exact ⟨by omega, by simpa using h, by omega, by omega⟩
     ·intro _; rfl

def zfi : List SOp := [⟨some 2,.box 26 (.tmp 0),none⟩,⟨some 3,.box 41 (.tmp 1),none⟩,⟨some 4,.assign (.const (.bool false)),none⟩]
instance : Live zfi := ⟨[0,1]⟩
def zfh : List SOp := [⟨some 7,.load 41 (.tmp 3),none⟩,⟨some 8,.call ⟨.value (.func 111),#[.tmp 7],#[41]⟩,none⟩,⟨some 9,.unOp .not 4 (.tmp 8),none⟩]
instance : Live zfh := ⟨[2,3]⟩
def zfg : List SOp := [⟨some 4,.assign (.const (.bool false)),none⟩]
instance : Live zfg := ⟨[]⟩
def zff : List SOp := [⟨some 10,.fieldAddr 41 (.tmp 3) 0,none⟩,⟨some 11,.load 3 (.tmp 10),none⟩,⟨some 12,.fieldAddr 26 (.tmp 2) 0,none⟩,⟨some 13,.load 23 (.tmp 12),none⟩,⟨some 14,.call ⟨.builtin .len,#[.tmp 13],#[23]⟩,none⟩,⟨some 15,.binOp .lss 3 (.tmp 11) (.tmp 14) 3,none⟩,⟨some 16,.move (.tmp 15),none⟩,⟨some 17,.fieldAddr 41 (.tmp 3) 1,some ((some 16),true)⟩,⟨some 18,.load 3 (.tmp 17),some ((some 16),true)⟩,⟨some 19,.fieldAddr 26 (.tmp 2) 0,some ((some 16),true)⟩,⟨some 20,.load 23 (.tmp 19),some ((some 16),true)⟩,⟨some 21,.fieldAddr 41 (.tmp 3) 0,some ((some 16),true)⟩,⟨some 22,.load 3 (.tmp 21),some ((some 16),true)⟩,⟨some 23,.indexAddr 23 (.tmp 20) (.tmp 22),some ((some 16),true)⟩,⟨some 24,.load 3 (.tmp 23),some ((some 16),true)⟩,⟨some 25,.binOp .leq 3 (.tmp 18) (.tmp 24) 3,some ((some 16),true)⟩,⟨some 26,.pick (.tmp 16) (.tmp 25) (.const (.bool false)),none⟩]
instance : Live zff := ⟨[2,3]⟩
def zfe : List SOp := [⟨some 4,.assign (.const (.bool true)),none⟩]
instance : Live zfe := ⟨[]⟩
def zfd : List SOp := [⟨some 5,.assign (.const (.int .i64 0)),none⟩]
instance : Live zfd := ⟨[2,3]⟩
def zfc : List SOp := [⟨some 27,.move (.tmp 5),none⟩,⟨some 28,.fieldAddr 26 (.tmp 2) 1,none⟩,⟨some 29,.load 24 (.tmp 28),none⟩,⟨some 30,.call ⟨.builtin .len,#[.tmp 29],#[24]⟩,none⟩,⟨some 31,.binOp .lss 3 (.tmp 27) (.tmp 30) 3,none⟩]
instance : Live zfc := ⟨[2,3,5]⟩
def zfb : List SOp := [⟨some 34,.fieldAddr 26 (.tmp 2) 1,none⟩,⟨some 35,.load 24 (.tmp 34),none⟩,⟨some 36,.move (.tmp 5),none⟩,⟨some 37,.indexAddr 24 (.tmp 35) (.tmp 36),none⟩,⟨some 38,.load 127 (.tmp 37),none⟩,⟨some 6,.alloc 127,none⟩,⟨none,.store 127 (.tmp 6) (.tmp 38),none⟩]
instance : Live zfb := ⟨[2,3,5]⟩
def zfa : List SOp := [⟨some 39,.fieldAddr 127 (.tmp 6) 0,none⟩,⟨some 40,.load 3 (.tmp 39),none⟩,⟨some 41,.fieldAddr 41 (.tmp 3) 0,none⟩,⟨some 42,.load 3 (.tmp 41),none⟩,⟨some 43,.binOp .eql 3 (.tmp 40) (.tmp 42) 3,none⟩,⟨some 44,.move (.tmp 43),none⟩,⟨some 45,.fieldAddr 127 (.tmp 6) 1,some ((some 44),true)⟩,⟨some 46,.load 3 (.tmp 45),some ((some 44),true)⟩,⟨some 47,.fieldAddr 41 (.tmp 3) 1,some ((some 44),true)⟩,⟨some 48,.load 3 (.tmp 47),some ((some 44),true)⟩,⟨some 49,.binOp .leq 3 (.tmp 46) (.tmp 48) 3,some ((some 44),true)⟩,⟨some 50,.pick (.tmp 44) (.tmp 49) (.const (.bool false)),none⟩,⟨some 51,.move (.tmp 50),none⟩,⟨some 52,.fieldAddr 41 (.tmp 3) 1,some ((some 51),true)⟩,⟨some 53,.load 3 (.tmp 52),some ((some 51),true)⟩,⟨some 54,.fieldAddr 127 (.tmp 6) 2,some ((some 51),true)⟩,⟨some 55,.load 3 (.tmp 54),some ((some 51),true)⟩,⟨some 56,.binOp .leq 3 (.tmp 53) (.tmp 55) 3,some ((some 51),true)⟩,⟨some 57,.pick (.tmp 51) (.tmp 56) (.const (.bool false)),none⟩]
instance : Live zfa := ⟨[2,3,5,6]⟩
def qtj : List SOp := [⟨some 4,.assign (.const (.bool true)),none⟩]
instance : Live qtj := ⟨[]⟩
def qti : List SOp := [⟨some 32,.move (.tmp 5),none⟩,⟨some 33,.binOp .add 3 (.tmp 32) (.const (.int .i64 1)) 3,none⟩,⟨some 5,.assign (.tmp 33),none⟩]
instance : Live qti := ⟨[2,3,5]⟩
def qth : List SOp := [⟨some 4,.assign (.const (.bool false)),none⟩]
instance : Live qth := ⟨[]⟩
def qrk : SC :=
 (.seq (.seq (.ops false zfc) (.cond (.tmp 31) .skip (.exit 0))) (.seq (.block 1 (.seq (.ops false zfb) (.seq (.ops false zfa) (.cond (.tmp 57) (.seq (.ops false qtj) .ret) .skip)))) (.ops false qti)))
def t_k62 : SC :=
 (.seq (.ops false zfi) (.seq (.seq (.ops false zfh) (.cond (.tmp 9) (.seq (.ops false zfg) .ret) .skip)) (.seq (.seq (.ops true zff) (.cond (.tmp 26) (.seq (.ops false zfe) .ret) .skip)) (.seq (.seq (.ops false zfd) (.block 0 (.loop qrk))) (.seq (.ops false qth) .ret)))))
theorem it_k62 : FnIs Tryz.prog 62 58 [.tmp 4] t_k62 := ⟨Tryz.f62, _, Tryz.func62, rfl, rfl, rfl, rfl, by kernel_rfl⟩

def z0o : List SOp := [⟨some 2,.box 91 (.tmp 0),none⟩,⟨some 3,.box 62 (.tmp 1),none⟩,⟨some 4,.assign (.const (.bool false)),none⟩]
instance : Live z0o := ⟨[0,1]⟩
def z0n : List SOp := [⟨some 5,.fieldAddr 91 (.tmp 2) 0,none⟩,⟨some 6,.load 9 (.tmp 5),none⟩,⟨some 7,.binOp .eql 9 (.tmp 6) (.const (.string ⟨#[]⟩)) 9,none⟩,⟨some 8,.move (.tmp 7),none⟩,⟨some 9,.fieldAddr 91 (.tmp 2) 0,some ((some 8),false)⟩,⟨some 10,.load 9 (.tmp 9),some ((some 8),false)⟩,⟨some 11,.fieldAddr 62 (.tmp 3) 1,some ((some 8),false)⟩,⟨some 12,.load 9 (.tmp 11),some ((some 8),false)⟩,⟨some 13,.binOp .eql 9 (.tmp 10) (.tmp 12) 9,some ((some 8),false)⟩,⟨some 14,.pick (.tmp 8) (.const (.bool true)) (.tmp 13),none⟩,⟨some 15,.move (.tmp 14),none⟩,⟨some 16,.fieldAddr 91 (.tmp 2) 1,some ((some 15),true)⟩,⟨some 17,.load 26 (.tmp 16),some ((some 15),true)⟩,⟨some 18,.fieldAddr 62 (.tmp 3) 0,some ((some 15),true)⟩,⟨some 19,.load 41 (.tmp 18),some ((some 15),true)⟩,⟨some 20,.call ⟨.value (.func 51),#[.tmp 17,.tmp 19],#[26,41]⟩,some ((some 15),true)⟩,⟨some 21,.pick (.tmp 15) (.tmp 20) (.const (.bool false)),none⟩,⟨some 4,.assign (.tmp 21),none⟩]
instance : Live z0n := ⟨[2,3]⟩
def t_k141 : SC :=
 (.seq (.ops false z0o) (.seq (.ops false z0n) .ret))
theorem it_k141 : FnIs Tryz.prog 141 22 [.tmp 4] t_k141 := ⟨Tryz.f141, _, Tryz.func141, rfl, rfl, rfl, rfl, by kernel_rfl⟩

def z5c : List SOp := [⟨some 3,.box 62 (.tmp 1),none⟩,⟨some 4,.assign (.const (.int .i64 0)),none⟩]
instance : Live z5c := ⟨[0,1]⟩
def z5b : List SOp := [⟨some 5,.assign (.const (.int .i64 0)),none⟩]
instance : Live z5b := ⟨[0,3]⟩
def z5a : List SOp := [⟨some 8,.move (.tmp 0),none⟩,⟨some 9,.call ⟨.builtin .len,#[.tmp 8],#[27]⟩,none⟩,⟨some 10,.move (.const (.int .i64 0)),none⟩]
instance : Live z5a := ⟨[0,3,5]⟩
def z59 : List SOp := [⟨some 11,.binOp .lss 3 (.tmp 10) (.tmp 9) 3,none⟩]
instance : Live z59 := ⟨[3,5,8,9,10]⟩
def z58 : List SOp := [⟨some 12,.indexAddr 27 (.tmp 8) (.tmp 10),none⟩,⟨some 13,.load 91 (.tmp 12),none⟩,⟨some 7,.alloc 91,none⟩,⟨none,.store 91 (.tmp 7) (.tmp 13),none⟩]
instance : Live z58 := ⟨[3,5,8,9,10]⟩
def z57 : List SOp := [⟨some 14,.load 91 (.tmp 7),none⟩,⟨some 15,.load 62 (.tmp 3),none⟩,⟨some 16,.call ⟨.value (.func 141),#[.tmp 14,.tmp 15],#[91,62]⟩,none⟩]
instance : Live z57 := ⟨[3,5,7,8,9,10]⟩
def z56 : List SOp := [⟨some 17,.move (.tmp 5),none⟩,⟨some 18,.binOp .add 3 (.tmp 17) (.const (.int .i64 1)) 3,none⟩,⟨some 5,.assign (.tmp 18),none⟩]
instance : Live z56 := ⟨[3,5,8,9,10]⟩
def z54 : List SOp := [⟨some 19,.binOp .add 3 (.tmp 10) (.const (.int .i64 1)) 3,none⟩,⟨some 10,.move (.tmp 19),none⟩]
instance : Live z54 := ⟨[3,5,8,9,10]⟩
def z52 : List SOp := [⟨some 20,.move (.tmp 5),none⟩,⟨some 4,.assign (.tmp 20),none⟩]
instance : Live z52 := ⟨[5]⟩
def qiw : SC :=
 (.seq (.ops false z59) (.seq (.cond (.tmp 11) .skip (.exit 0)) (.seq (.block 1 (.seq (.ops false z58) (.seq (.ops false z57) (.cond (.tmp 16) (.ops false z56) .skip)))) (.ops false z54))))
def t_k110 : SC :=
 (.seq (.ops false z5c) (.seq (.ops false z5b) (.seq (.seq (.ops false z5a) (.block 0 (.loop qiw))) (.seq (.ops false z52) .ret))))
theorem it_k110 : FnIs Tryz.prog 110 21 [.tmp 4] t_k110 := ⟨Tryz.f110, _, Tryz.func110, rfl, rfl, rfl, rfl, by kernel_rfl⟩

def z5n : List SOp := [⟨some 1,.box 91 (.tmp 0),none⟩,⟨some 2,.alloc 91,none⟩]
instance : Live z5n := ⟨[0]⟩
def z5m : List SOp := [⟨some 3,.fieldAddr 91 (.tmp 1) 0,none⟩,⟨some 4,.load 9 (.tmp 3),none⟩,⟨some 5,.fieldAddr 91 (.tmp 1) 1,none⟩,⟨some 6,.load 26 (.tmp 5),none⟩,⟨some 7,.call ⟨.value (.func 64),#[.tmp 6],#[26]⟩,none⟩,⟨some 8,.build 91 #[(0,.tmp 4),(1,.tmp 7)],none⟩,⟨none,.store 91 (.tmp 2) (.tmp 8),none⟩]
instance : Live z5m := ⟨[1,2]⟩
def t_k108 : SC :=
 (.seq (.ops false z5n) (.seq (.ops true z5m) .ret))
theorem it_k108 : FnIs Tryz.prog 108 9 [.cell 2 91] t_k108 := ⟨Tryz.f108, _, Tryz.func108, rfl, rfl, rfl, rfl, by kernel_rfl⟩

theorem any_take {α : Type} {l : List α} {f : α → Bool} (i : Nat) (h : ∀ x ∈ l.take i, f x = false) (hi : l.length ≤ i) : l.any f = false := by
 rw [List.any_eq_false]
 intro x hx
 rw [List.take_of_length_le hi] at h
 simp [h x hx]
theorem q4j {α : Type} {l : List α} {q : α → Prop} {i : Nat} {x : α} (hx : l[i]? = some x) (h : ∀ y ∈ l.take i, q y) (hq : q x) : ∀ y ∈ l.take (i + 1), q y := by
 intro y hy
 rw [List.take_add_one, hx] at hy
 rcases List.mem_append.1 hy with hy | hy
 ·exact h y hy
 ·simp at hy; subst hy; exact hq
theorem ev_k62 (p : Pst) (d : Rn) (hw : wt p ≤ 900000000) : Ev (En Tryz.prog rfl).P 62 [q0f p, q3v d] (.ret (.bool (q2q p d))) := by
 refine Ev.of_body it_k62 (by simp) (Run.start ?_)
 have hwt : wt p = p.vec.length + p.cloud.length := rfl
 have e0 : (q05 p.vec).length = p.vec.length := q0i _
 have e9 : (q0d p.cloud).length = p.cloud.length := q1e _
 unfold t_k62 q0f q3v
 have c1 := zmb d
 generalize hv : q2q p d = v
 unfold q2q at hv
 (have hF := (aI @e0 @e9); refine q01 (k:=?_); clear hF)
 refine q00 [q3v d] (he := c1) (k:=?_)
 cases c0 : q3l d.1 d.2
 ·rw [c0, Bool.false_and] at hv
  subst hv
  (have hF := (aI @e0 @e9); refine q01 (k:=?_); clear hF)
  exact Fin.tmp' rfl rfl
 ·have hd : 0 ≤ d.1 ∧ d.1 < 16 := by simp [q3l] at c0; omega
  rw [c0, Bool.true_and] at hv
  obtain ⟨r, hr⟩ : ∃ r : Nat, d.1 = r := ⟨d.1.toNat, by omega⟩
  cases c2 : (decide (d.1 < p.vec.length) && decide (d.2 ≤ q1q p.vec d.1.toNat))
  case' true =>
   rw [c2, Bool.true_or] at hv
   subst hv
   simp only [Bool.and_eq_true, decide_eq_true_eq] at c2
   have hrl : r < p.vec.length := by omega
   have e1 : (q05 p.vec)[r]? = some (.int .i64 (q1q p.vec r)) := q0v (by simp [q1q, hrl])
   have c3 := c2.2
   rw [hr, Int.toNat_natCast] at c3
   rw [hr]
   (have hF := (aI (aI @e0 @e9) (aI @e1 (aI @hrl @c3))); refine q01 (k:=?_); clear hF)
   exact Fin.tmp' rfl rfl
  case' false =>
   rw [c2, Bool.false_or] at hv
   rw [hr] at c2 ⊢
   rw [Int.toNat_natCast] at c2
   by_cases h1 : (r : Int) < (p.vec.length : Int)
   case' pos =>
    have hrl : r < p.vec.length := by omega
    have e1 : (q05 p.vec)[r]? = some (.int .i64 (q1q p.vec r)) := q0v (by simp [q1q, hrl])
    have c3 : ¬ d.2 ≤ q1q p.vec r := by simpa [h1] using c2
    (have hF := (aI (aI @e0 @e9) (aI @e1 (aI @h1 @c3))); refine q01 (k:=?_); clear hF)
   case' neg =>
    (have hF := (aI @e0 (aI @e9 @h1)); refine q01 (k:=?_); clear hF)
   all_goals
    refine Run.while (σ := Nat) (fun i => ⟨tms [(2, .ptr 2 0), (3, .ptr 3 0), (5, .int .i64 (i : Int))], mms [(2, .cells [.sl 1 (q05 p.vec), .sl 3 (q0d p.cloud)]), (3, .cells [.int .i64 r, .int .i64 d.2])]⟩)
     (fun i => i ≤ p.cloud.length ∧ ∀ s ∈ p.cloud.take i, zam d s = false) (fun i => p.cloud.length - i) 0 (have hW := True.intro; q0g) ⟨Nat.zero_le _, by simp⟩ ?_
    rintro i ⟨hi, hI⟩
    unfold qrk
    by_cases hlt : i < p.cloud.length
    ·obtain ⟨s, hs⟩ : ∃ s, p.cloud[i]? = some s := ⟨p.cloud[i], by simp [hlt]⟩
     have g1 : (q0d p.cloud)[i]? = some (.agg [.int .i64 s.1, .int .i64 s.2.1, .int .i64 s.2.2]) := q2c hs
     by_cases k1 : s.1 = r
     ·by_cases k2 : s.2.1 ≤ d.2
      ·by_cases k3 : d.2 ≤ s.2.2
       ·have hu : v = true := by
         rw [← hv, List.any_eq_true]
         exact ⟨s, List.mem_of_getElem? hs, by simp [zam, hr, k1, k2, k3]⟩
        rw [hu]
        (have hF := (aI (aI @e0 (aI @e9 @g1)) (aI @k1 (aI @k2 @k3))); refine q01 (k:=?_); clear hF)
        exact Fin.tmp' rfl rfl
       ·(have hF := (aI (aI @e0 (aI @e9 @g1)) (aI @k1 (aI @k2 @k3))); refine q01 (k:=?_); clear hF)
        (refine Fin.nextW (i + 1) ?_ (have hW := True.intro; q0g); (try dsimp only))
        exact ⟨⟨hlt, q4j hs hI (by simp [zam, hr, k1, k2, k3])⟩, by omega⟩
      ·(have hF := (aI (aI @e0 @e9) (aI @g1 (aI @k1 @k2))); refine q01 (k:=?_); clear hF)
       (refine Fin.nextW (i + 1) ?_ (have hW := True.intro; q0g); (try dsimp only))
       exact ⟨⟨hlt, q4j hs hI (by simp [zam, hr, k1, k2])⟩, by omega⟩
     ·(have hF := (aI (aI @e0 @e9) (aI @g1 @k1)); refine q01 (k:=?_); clear hF)
      (refine Fin.nextW (i + 1) ?_ (have hW := True.intro; q0g); (try dsimp only))
      exact ⟨⟨hlt, q4j hs hI (by simp [zam, hr, k1])⟩, by omega⟩
    ·have hu : v = false := by
      rw [← hv]
      exact any_take i hI (by omega)
     rw [hu]
     (have hF := (aI @e0 @e9); refine q01 (k:=?_); clear hF)
     exact Fin.tmp' rfl rfl
def qb2 (r : Rec) (e : Ent) : Bool := (decide (r.sku.size = 0) || decide (r.sku = e.sku)) && q2q r.past e.dot
theorem ev_k141 (r : Rec) (e : Ent) (hw : wt r.past ≤ 900000000) : Ev (En Tryz.prog rfl).P 141 [q3p r, qb1 e] (.ret (.bool (qb2 r e))) := by
 refine Ev.of_body it_k141 (by simp) (Run.start ?_)
 unfold t_k141 q3p qb1 qb2
 have es := q8j r.sku
 have c1 := z7s r.past e.dot hw
 generalize q2q r.past e.dot = v at c1 ⊢
 by_cases h0 : r.sku.size = 0
 ·rw [decide_eq_true h0, Bool.true_or, Bool.true_and]
  rw [eq_true h0] at es
  (have hF := @es; refine q01 (k:=?_); clear hF)
  refine q00 [q0f r.past, q3v e.dot] (he := c1) (k:=?_)
  (have hF := True.intro; refine q01 (k:=?_); clear hF)
  exact Fin.tmp' rfl rfl
 ·rw [decide_eq_false h0, Bool.false_or]
  rw [eq_false h0] at es
  by_cases h1 : r.sku = e.sku
  ·rw [decide_eq_true h1, Bool.true_and]
   have es2 := es
   rw [h1] at es2
   (have hF := (aI @es (aI @h1 @es2)); refine q01 (k:=?_); clear hF)
   refine q00 [q0f r.past, q3v e.dot] (he := c1) (k:=?_)
   (have hF := True.intro; refine q01 (k:=?_); clear hF)
   exact Fin.tmp' rfl rfl
  ·rw [decide_eq_false h1, Bool.false_and]
   (have hF := (aI @es @h1); refine q01 (k:=?_); clear hF)
   exact Fin.tmp' rfl rfl
def q5g (l : List Rec) (e : Ent) : Nat := (l.filter fun r => qb2 r e).length
theorem qfn {l : List Rec} {i : Nat} {r : Rec} (h : l[i]? = some r) (e : Ent) : q5g (l.take (i + 1)) e = q5g (l.take i) e + if qb2 r e = true then 1 else 0 := by
 unfold q5g
 rw [List.take_add_one, h, List.filter_append]
 cases hc : qb2 r e <;> simp [hc]
theorem z85 (l : List Rec) (e : Ent) : q5g l e ≤ l.length := List.length_filter_le _ _
theorem ev_k110 (l : List Rec) (e : Ent) (hl : l.length ≤ 900000000) (hw : ∀ r ∈ l, wt r.past ≤ 900000000) : Ev (En Tryz.prog rfl).P 110 [.sl 3 (q09 l), qb1 e] (.ret (.int .i64 (q5g l e))) := by
 refine Ev.of_body it_k110 (by simp) (Run.start ?_)
 unfold t_k110 qb1
 have e1 := q0h l
 have hS := qpa
 (have hF := @e1; refine q01 (k:=?_); clear hF)
 refine Run.while (σ := Nat) (fun i => ⟨tms [(3, .ptr 3 0), (5, .int .i64 (q5g (l.take i) e : Nat)), (8, .sl 3 (q09 l)), (9, .int .i64 l.length), (10, .int .i64 (i : Int))], mms [(3, .cells [.int .i64 e.rep, .int .i64 e.num, .str e.sku, .int .i64 e.qty])]⟩)
  (fun i => i ≤ l.length) (fun i => l.length - i) 0 (have hW := @q02; q0g) (Nat.zero_le _) ?_
 intro i hi
 unfold qiw
 by_cases hlt : i < l.length
 ·obtain ⟨r, hr⟩ : ∃ r, l[i]? = some r := ⟨l[i], by simp [hlt]⟩
  have g1 := q0o hr
  have c1 := ev_k141 r e (hw r (List.mem_of_getElem? hr))
  have hn := qfn hr e
  have hle := z85 (l.take i) e
  have hlt' : (l.take i).length ≤ l.length := by rw [List.length_take]; omega
  generalize q5g (l.take i) e = n at hn hle ⊢
  cases hc : qb2 r e <;> rw [hc] at hn c1 <;> simp only [if_true, Bool.false_eq_true, if_false] at hn
  ·(have hF := (aI @e1 @g1); refine q01 (k:=?_); clear hF)
   refine q00 [q3p r, qb1 e] (he := c1) (k:=?_)
   (have hF := (aI @e1 @g1); refine q01 (k:=?_); clear hF)
   (refine Fin.nextW (i + 1) ?_ (have hW := (aI @q02 @hn); q0g); (try dsimp only))
   omega
  ·(have hF := (aI @e1 @g1); refine q01 (k:=?_); clear hF)
   refine q00 [q3p r, qb1 e] (he := c1) (k:=?_)
   (have hF := (aI @e1 @g1); refine q01 (k:=?_); clear hF)
   (refine Fin.nextW (i + 1) ?_ (have hW := (aI @q02 @hn); q0g); (try dsimp only))
   omega
 ·have : l.take i = l := List.take_of_length_le (by omega)
  rw [this]
  (have hF := @e1; refine q01 (k:=?_); clear hF)
  exact Fin.tmp' rfl rfl
theorem qqd (r : Rec) (hw : wt r.past ≤ 50000000) : Ev (En Tryz.prog rfl).P 108 [q3p r] (.ret (q3p ⟨r.sku, q16 r.past⟩)) := by
 refine Ev.of_body it_k108 (by simp) (Run.start ?_)
 unfold t_k108 q3p
 have c1 := qfa r.past hw
 have hS := qpa
 (have hF := True.intro; refine q01 (k:=?_); clear hF)
 refine q00 [q0f r.past] (he := c1) (k:=?_)
 unfold q0f
 (have hF := True.intro; refine q01 (k:=?_); clear hF)
 exact Fin.all rfl (by simp [q0k, AVal.stb, q03, q04, fzc, q4i]) rfl

def z5l : List SOp := [⟨some 2,.assign (.const (.slice none 0 0)),none⟩,⟨some 3,.assign (.const (.int .i64 0)),none⟩]
instance : Live z5l := ⟨[0]⟩
def z5k : List SOp := [⟨some 10,.move (.tmp 0),none⟩,⟨some 11,.call ⟨.value (.func 55),#[.tmp 10],#[27]⟩,none⟩,⟨some 12,.binOp .neq 32 (.tmp 11) (.const (.int .i64 0)) 32,none⟩]
instance : Live z5k := ⟨[0]⟩
def z5j : List SOp := [⟨some 2,.assign (.const (.slice none 0 0)),none⟩,⟨some 3,.assign (.const (.int .i64 1)),none⟩]
instance : Live z5j := ⟨[]⟩
def z5i : List SOp := [⟨some 4,.alloc 26,none⟩]
instance : Live z5i := ⟨[0]⟩
def z5h : List SOp := [⟨some 5,.assign (.const (.slice none 0 0)),none⟩]
instance : Live z5h := ⟨[0,4]⟩
def z5g : List SOp := [⟨some 6,.assign (.const (.int .i64 0)),none⟩]
instance : Live z5g := ⟨[0,4,5]⟩
def z5f : List SOp := [⟨some 13,.move (.tmp 6),none⟩,⟨some 14,.move (.tmp 0),none⟩,⟨some 15,.call ⟨.builtin .len,#[.tmp 14],#[27]⟩,none⟩,⟨some 16,.binOp .lss 3 (.tmp 13) (.tmp 15) 3,none⟩]
instance : Live z5f := ⟨[0,4,5,6]⟩
def z5e : List SOp := [⟨some 17,.move (.tmp 6),none⟩,⟨some 7,.assign (.tmp 17),none⟩]
instance : Live z5e := ⟨[0,4,5,6]⟩
def z5d : List SOp := [⟨some 8,.assign (.const (.slice none 0 0)),none⟩]
instance : Live z5d := ⟨[0,4,5,6,7]⟩
def qnk : List SOp := [⟨some 18,.move (.tmp 7),none⟩,⟨some 19,.move (.tmp 0),none⟩,⟨some 20,.call ⟨.builtin .len,#[.tmp 19],#[27]⟩,none⟩,⟨some 21,.binOp .lss 3 (.tmp 18) (.tmp 20) 3,none⟩,⟨some 22,.move (.tmp 21),none⟩,⟨some 23,.move (.tmp 0),some ((some 22),true)⟩,⟨some 24,.move (.tmp 7),some ((some 22),true)⟩,⟨some 25,.indexAddr 27 (.tmp 23) (.tmp 24),some ((some 22),true)⟩,⟨some 26,.fieldAddr 91 (.tmp 25) 0,some ((some 22),true)⟩,⟨some 27,.load 9 (.tmp 26),some ((some 22),true)⟩,⟨some 28,.move (.tmp 0),some ((some 22),true)⟩,⟨some 29,.move (.tmp 6),some ((some 22),true)⟩,⟨some 30,.indexAddr 27 (.tmp 28) (.tmp 29),some ((some 22),true)⟩,⟨some 31,.fieldAddr 91 (.tmp 30) 0,some ((some 22),true)⟩,⟨some 32,.load 9 (.tmp 31),some ((some 22),true)⟩,⟨some 33,.binOp .eql 9 (.tmp 27) (.tmp 32) 9,some ((some 22),true)⟩,⟨some 34,.pick (.tmp 22) (.tmp 33) (.const (.bool false)),none⟩]
instance : Live qnk := ⟨[0,4,5,6,7,8]⟩
def qnj : List SOp := [⟨some 35,.move (.tmp 8),none⟩,⟨some 36,.move (.tmp 0),none⟩,⟨some 37,.move (.tmp 7),none⟩,⟨some 38,.indexAddr 27 (.tmp 36) (.tmp 37),none⟩,⟨some 39,.fieldAddr 91 (.tmp 38) 1,none⟩,⟨some 40,.load 26 (.tmp 39),none⟩,⟨some 41,.buildSlice 116 1 #[(0,.tmp 40)],none⟩,⟨some 42,.call ⟨.builtin .append,#[.tmp 35,.tmp 41],#[116,116]⟩,none⟩,⟨some 8,.assign (.tmp 42),none⟩]
instance : Live qnj := ⟨[0,4,5,6,7,8]⟩
def qni : List SOp := [⟨some 43,.move (.tmp 7),none⟩,⟨some 44,.binOp .add 3 (.tmp 43) (.const (.int .i64 1)) 3,none⟩,⟨some 7,.assign (.tmp 44),none⟩]
instance : Live qni := ⟨[0,4,5,6,7,8]⟩
def qnh : List SOp := [⟨some 45,.move (.tmp 0),none⟩,⟨some 46,.move (.tmp 6),none⟩,⟨some 47,.indexAddr 27 (.tmp 45) (.tmp 46),none⟩,⟨some 48,.fieldAddr 91 (.tmp 47) 0,none⟩,⟨some 49,.load 9 (.tmp 48),none⟩,⟨some 50,.move (.tmp 8),none⟩,⟨some 51,.call ⟨.value (.func 49),#[.tmp 50],#[116]⟩,none⟩,⟨some 52,.build 91 #[(0,.tmp 49),(1,.tmp 51)],none⟩,⟨some 9,.alloc 91,none⟩,⟨none,.store 91 (.tmp 9) (.tmp 52),none⟩]
instance : Live qnh := ⟨[0,4,5,6,7,8]⟩
def qng : List SOp := [⟨some 53,.fieldAddr 91 (.tmp 9) 0,none⟩,⟨some 54,.load 9 (.tmp 53),none⟩,⟨some 55,.binOp .eql 9 (.tmp 54) (.const (.string ⟨#[]⟩)) 9,none⟩]
instance : Live qng := ⟨[0,4,5,7,9]⟩
def qnf : List SOp := [⟨some 56,.fieldAddr 91 (.tmp 9) 1,none⟩,⟨some 57,.load 26 (.tmp 56),none⟩,⟨none,.store 26 (.tmp 4) (.tmp 57),none⟩]
instance : Live qnf := ⟨[0,4,5,7,9]⟩
def qne : List SOp := [⟨some 58,.fieldAddr 91 (.tmp 9) 1,none⟩,⟨some 59,.load 26 (.tmp 58),none⟩,⟨some 60,.load 26 (.tmp 4),none⟩,⟨some 61,.call ⟨.value (.func 140),#[.tmp 59,.tmp 60],#[26,26]⟩,none⟩,⟨some 62,.fieldAddr 91 (.tmp 9) 1,none⟩,⟨none,.store 26 (.tmp 62) (.tmp 61),none⟩]
instance : Live qne := ⟨[0,4,5,7,9]⟩
def qnd : List SOp := [⟨some 63,.fieldAddr 91 (.tmp 9) 1,none⟩,⟨some 64,.load 26 (.tmp 63),none⟩,⟨some 65,.call ⟨.value (.func 92),#[.tmp 64],#[26]⟩,none⟩,⟨some 66,.unOp .not 4 (.tmp 65),none⟩]
instance : Live qnd := ⟨[0,4,5,7,9]⟩
def qnc : List SOp := [⟨some 67,.move (.tmp 5),none⟩,⟨some 68,.load 91 (.tmp 9),none⟩,⟨some 69,.buildSlice 27 1 #[(0,.tmp 68)],none⟩,⟨some 70,.call ⟨.builtin .append,#[.tmp 67,.tmp 69],#[27,27]⟩,none⟩,⟨some 5,.assign (.tmp 70),none⟩]
instance : Live qnc := ⟨[0,4,5,7,9]⟩
def qnb : List SOp := [⟨some 71,.move (.tmp 7),none⟩,⟨some 6,.assign (.tmp 71),none⟩]
instance : Live qnb := ⟨[0,4,5,7]⟩
def qna : List SOp := [⟨some 72,.move (.tmp 5),none⟩,⟨some 73,.call ⟨.builtin .len,#[.tmp 72],#[27]⟩,none⟩,⟨some 74,.binOp .gtr 3 (.tmp 73) (.const (.int .i64 0)) 3,none⟩,⟨some 75,.move (.tmp 74),none⟩,⟨some 76,.move (.tmp 5),some ((some 75),true)⟩,⟨some 77,.indexAddr 27 (.tmp 76) (.const (.int .i64 0)),some ((some 75),true)⟩,⟨some 78,.fieldAddr 91 (.tmp 77) 0,some ((some 75),true)⟩,⟨some 79,.load 9 (.tmp 78),some ((some 75),true)⟩,⟨some 80,.binOp .eql 9 (.tmp 79) (.const (.string ⟨#[]⟩)) 9,some ((some 75),true)⟩,⟨some 81,.pick (.tmp 75) (.tmp 80) (.const (.bool false)),none⟩]
instance : Live qna := ⟨[5]⟩
def qn9 : List SOp := [⟨some 82,.move (.tmp 5),none⟩,⟨some 83,.move (.tmp 5),none⟩,⟨some 84,.indexAddr 27 (.tmp 83) (.const (.int .i64 0)),none⟩,⟨some 85,.load 91 (.tmp 84),none⟩,⟨some 86,.call ⟨.value (.func 108),#[.tmp 85],#[91]⟩,none⟩,⟨some 87,.indexAddr 27 (.tmp 82) (.const (.int .i64 0)),none⟩,⟨none,.store 91 (.tmp 87) (.tmp 86),none⟩]
instance : Live qn9 := ⟨[5]⟩
def qn8 : List SOp := [⟨some 88,.move (.tmp 5),none⟩,⟨some 2,.assign (.tmp 88),none⟩,⟨some 3,.assign (.const (.int .i64 0)),none⟩]
instance : Live qn8 := ⟨[5]⟩
def qix : SC :=
 (.seq (.seq (.ops true qnk) (.cond (.tmp 34) .skip (.exit 2))) (.block 3 (.seq (.ops false qnj) (.ops false qni))))
def qiy : SC :=
 (.seq (.seq (.ops false z5f) (.cond (.tmp 16) .skip (.exit 0))) (.block 1 (.seq (.ops false z5e) (.seq (.ops false z5d) (.seq (.block 2 (.loop qix)) (.seq (.ops true qnh) (.seq (.seq (.ops false qng) (.cond (.tmp 55) (.ops false qnf) (.ops false qne))) (.seq (.seq (.ops false qnd) (.cond (.tmp 66) (.ops false qnc) .skip)) (.ops false qnb)))))))))
def t_k109 : SC :=
 (.seq (.ops false z5l) (.seq (.seq (.ops false z5k) (.cond (.tmp 12) (.seq (.ops false z5j) .ret) .skip)) (.seq (.ops false z5i) (.seq (.ops false z5h) (.seq (.seq (.ops false z5g) (.block 0 (.loop qiy))) (.seq (.seq (.ops false qna) (.cond (.tmp 81) (.ops false qn9) .skip)) (.seq (.ops false qn8) .ret)))))))
theorem it_k109 : FnIs Tryz.prog 109 89 [.tmp 2, .tmp 3] t_k109 := ⟨Tryz.f109, _, Tryz.func109, rfl, rfl, rfl, rfl, by kernel_rfl⟩

def q0z (s : ByteArray) (r : Rec) : Bool := decide (r.sku = s)
def z9h (l : List Rec) : List Rec := match l with | [] => [] | r :: t => l.takeWhile (q0z r.sku)
def q2j (l : List Rec) : Pst := q1s ((z9h l).map (·.past))
def z75 (all : Pst) (s : ByteArray) (p : Pst) : Pst := if s.size = 0 then p else q30 p all
def zae (all : Pst) (s : ByteArray) (p : Pst) : Pst := if s.size = 0 then p else all
def qhk (s : ByteArray) (p : Pst) : List Rec := if q3e p = 0 then [] else [⟨s, p⟩]
def q54 : Nat → List Rec → Pst → List Rec
 | 0, _, _ => []
 | n + 1, [], _ => []
 | n + 1, r :: l, all => qhk r.sku (z75 all r.sku (q2j (r :: l))) ++ q54 n ((r :: l).dropWhile (q0z r.sku)) (zae all r.sku (q2j (r :: l)))
def qgv : List Rec → List Rec
 | [] => []
 | r :: l => if r.sku.size = 0 then ⟨r.sku, q16 r.past⟩ :: l else r :: l
def q8p (l : List Rec) : List Rec := qgv (q54 l.length l ⟨[], []⟩)
theorem q5s {α : Type} {p : α → Bool} : ∀ {l : List α} {m : Nat}, (∀ x ∈ l.take m, p x = true) → (∀ x, l[m]? = some x → p x = false) → l.takeWhile p = l.take m ∧ l.dropWhile p = l.drop m
 | [], m, _, _ => by simp
 | x :: l, 0, _, h => by
  have := h x rfl
  simp [List.takeWhile, List.dropWhile, this]
 | x :: l, m + 1, h, h' => by
  have hx : p x = true := h x (by simp)
  have ih := q5s (l := l) (m := m) (fun y hy => h y (by simp [hy])) (fun y hy => h' y (by simpa using hy))
  simp [List.takeWhile, List.dropWhile, hx, ih]
theorem qfw {l m : List Nat} (h : l.Sublist m) : l.sum ≤ m.sum := by
 induction h with
 | slnil => exact Nat.le_refl _
 | cons a h ih => simp only [List.sum_cons]; omega
 | cons_cons a h ih => simp only [List.sum_cons]; omega
theorem wts_le {l m : List Rec} (h : l.Sublist m) : ((l.map (·.past)).map wt).sum ≤ q5d m := by
 have h1 : ∀ l : List Rec, ((l.map (·.past)).map wt).sum ≤ q5d l := by
  intro l
  induction l with
  | nil => exact Nat.le_refl _
  | cons r l ih => unfold q5d at *; simp only [List.map_cons, List.sum_cons, wtK] at *; omega
 exact Nat.le_trans (h1 l) (qfw (h.map wtK))
theorem qqk (l : List Pst) (v : List Int) (c : List Sn) : q1k l ++ [.agg [.sl 1 (q05 v), .sl 3 (q0d c)]] = q1k (l ++ [⟨v, c⟩]) := by simp [q1k, q0f]
theorem Wk.give {n u k e sz : Nat} {xs : List AVal} {l1 : List (Nat × AVal)} {m1 : List (Nat × ABlk)} (hn : qqv (fun j => j == k) l1) (hb : zab (fun j => j == k) m1) (h0 : mms m1 k = none) (hx : q0k xs = true) :
 Wk n ⟨tms ((u, .os k e) :: l1), mms ((k, .arr e sz xs) :: m1)⟩ ⟨tms ((u, .sl sz xs) :: l1), mms m1⟩ := by
 intro B G a w hR
 have hM1 : (fun j => if (j == k) = true then none else mms ((k, .arr e sz xs) :: m1) j) = mms m1 := by
  funext j
  by_cases hj : j = k
  ·subst hj; simp [h0]
  ·simp [hj, mms, q15]
 have hblk : ∀ {l : List (Nat × ABlk)}, zab (fun j => j == k) l → ∀ j blk, mms l j = some blk → blk.no (fun j => j == k) = true := by
  intro l
  induction l with
  | nil => intro _ j blk h; cases h
  | cons p l ih =>
   obtain ⟨q, v⟩ := p
   intro h j blk hj
   simp only [mms] at hj
   by_cases hjq : j = q
   ·subst hjq; rw [q0a] at hj; cases hj; exact h.1
   ·rw [q15 _ _ hjq] at hj; exact ih h.2 j blk hj
 have htm := zaz (qhg hn)
 refine ⟨G.without fun j => j == k, ⟨hR.size, hR.defers, fun t => ?_, fun j blk hj => ?_, fun b hb => ⟨(hR.fr b hb).1, q10 (hR.fr b hb).2⟩, fun b hb => hR.ol b fun hn => hb (q10 hn)⟩,
  ⟨⟨rfl, Nat.le_refl _⟩, rfl, rfl, Nat.le_refl _, fun b _ ho => ⟨rfl, q10 ho⟩⟩⟩
 ·have hv := hR.temps t
  simp only [tms] at hv ⊢
  rw [← hM1]
  by_cases ht : t = u
  ·subst ht
   rw [q0a] at hv ⊢
   have h1 := qq6 (K := fun j => j == k) hR.mem hv
   have h2 : fz (fun j => j == k) (mms ((k, .arr e sz xs) :: m1)) (.os k e) = .sl sz xs := by
    simp [fz, fzc, mms, q0a]
   rw [h2] at h1
   exact h1.stable (fun b _ hb ho => ⟨rfl, hb, ho⟩) hx
  ·rw [q15 _ _ ht] at hv ⊢
   exact hv.drop (htm t)
 ·change mms m1 j = some blk at hj
  have hjk : j ≠ k := fun h => by subst h; rw [h0] at hj; cases hj
  have hj' : mms ((k, .arr e sz xs) :: m1) j = some blk := by simp only [mms]; rw [q15 _ _ hjk]; exact hj
  have h0' := hR.mem j blk hj'
  have hno := hblk hb j blk hj
  have hK' : (j == k) = false := by simp [hjk]
  rw [← hM1]
  cases blk with
  | cells cs =>
   obtain ⟨c, el, b1, b2, b3, b4, b5⟩ := h0'
   refine ⟨c, el, by simp [Gh.without, b1, OKey.of, hjk], b2, b3, b4, fun i x hx => ?_⟩
   obtain ⟨u, hu, hr⟩ := b5 i x hx
   exact ⟨u, hu, hr.drop hK' (List.all_eq_true.1 hno x (List.mem_of_getElem? hx))⟩
  | arr e sz xs =>
   rcases h0' with h | ⟨b, o, cap, c, el, h1, h2, h3, h4, h5, h6, h7, h7', h8⟩
   ·exact .inl h
   ·exact .inr ⟨b, o, cap, c, el, h1, h2, by simp [Gh.without, h3, OKey.of, hjk], h4, h5, h6, h7, h7', fun n y hy => let ⟨u, hu, hr⟩ := h8 n y hy; ⟨u, hu, hr.drop (List.all_eq_true.1 hno y (List.mem_of_getElem? hy))⟩⟩
  | dead => trivial
  | map es =>
   obtain ⟨es', clock, b1, b2, b3, b4, b5⟩ := h0'
   refine ⟨es', clock, by simp [Gh.without, b1, OKey.of, hjk], b2, b3, b4, fun i p hp => ?_⟩
   obtain ⟨q, hq, r1, r2⟩ := b5 i p hp
   have := List.all_eq_true.1 hno p (List.mem_of_getElem? hp)
   rw [Bool.and_eq_true] at this
   exact ⟨q, hq, r1.drop this.1, r2.drop this.2⟩
structure FoS where
 i : Nat
 all : Pst
 out : List Rec
theorem qob (l : List Rec) (W : Nat) (hW : W ≤ 5000000) (hl : l.length ≤ 5000000) (hwr : ∀ r ∈ l, wt r.past ≤ W) (hg0 : ∀ (i m : Nat) (s : ByteArray), (∀ x ∈ (l.drop i).take m, q0z s x = true) → ((((l.drop i).take m).map (·.past)).map wt).sum ≤ W) : Ev (En Tryz.prog rfl).P 109 [.sl 3 (q09 l)] (.ret (.tup [.sl 3 (q09 (if q3f l = true then q8p l else [])), .int .i64 (if q3f l = true then 0 else 1)])) := by
 refine Ev.of_body it_k109 (by simp) (Run.start ?_)
 unfold t_k109
 have e1 := q0h l
 have hS := qpa
 have c1 := q2x l (by omega) (fun r hr => by have := hwr r hr; omega)
 (have hF := @e1; refine q01 (k:=?_); clear hF)
 refine q00 [.sl 3 (q09 l)] (he := c1) (k:=?_)
 by_cases hform : q3f l = true
 case' neg =>
  simp only [if_neg hform]
  (have hF := @e1; refine q01 (k:=?_); clear hF)
  exact Fin.two (x := .nil) (x' := .int .i64 1) rfl rfl rfl rfl (.inr ⟨rfl, 3, rfl⟩) (.inl rfl)
 case' pos =>
  simp only [if_pos hform]
  have hfk : q8p l = qgv (q54 l.length l ⟨[], []⟩) := rfl
  have hR0 : [] ++ q54 l.length (l.drop 0) ⟨[], []⟩ = q54 l.length l ⟨[], []⟩ := rfl
  generalize q54 l.length l ⟨[], []⟩ = R at hfk hR0
  (have hF := @e1; refine q01 (k:=?_); clear hF)
  refine Run.wk (Wk.trans (Wk.own_nil 5 70 3 rfl rfl) (Wk.trans (Wk.own_cells (k := 4) (cs' := [.own 1 [], .own 3 []]) rfl rfl ?_) (Wk.freeze (k := 4) (cs := [.own 1 [], .own 3 []]) rfl))) ?_
  ·intro i x y hx hy
   match i with
   | 0 => simp at hx hy; subst hx; subst hy; exact .inr ⟨rfl, 1, rfl⟩
   | 1 => simp at hx hy; subst hx; subst hy; exact .inr ⟨rfl, 3, rfl⟩
   | i + 2 => simp at hx
  refine Run.while (σ := FoS) (fun z => ⟨tms [(0, .sl 3 (q09 l)), (4, .ptr 4 0), (5, .os 70 z.out.length), (6, .int .i64 (z.i : Int))], mms [(4, .cells [.sl 1 (q05 z.all.vec), .sl 3 (q0d z.all.cloud)]), (70, .arr z.out.length 3 (q09 z.out))]⟩)
   (fun z => z.i ≤ l.length ∧ z.out.length ≤ z.i ∧ wt z.all ≤ 16 + W ∧ (∃ n, l.length - z.i ≤ n ∧ z.out ++ q54 n (l.drop z.i) z.all = R) ∧ ∀ r ∈ z.out, wt r.past ≤ 64 + 2 * W) (fun z => l.length - z.i) ⟨0, ⟨[], []⟩, []⟩ (have hW := @q02; q0g) ⟨Nat.zero_le _, Nat.le_refl _, Nat.zero_le _, ⟨l.length, Nat.le_refl _, hR0⟩, fun r hr => absurd hr (by simp)⟩ ?_
  rintro ⟨i, all, out⟩ ⟨hi, ho, ha, ⟨n, hn, hf⟩, hwo⟩
  dsimp only at *
  unfold qiy
  have e2 := q0h out
  by_cases hlt : i < l.length
  ·obtain ⟨r, hr⟩ : ∃ r, l[i]? = some r := ⟨l[i], by simp [hlt]⟩
   have g1 := q0o hr
   (have hF := (aI @e1 (aI @e2 @g1)); refine q01 (k:=?_); clear hF)
   refine Run.wk (Wk.own_nil 8 42 2 rfl rfl) ?_
   refine Run.while (σ := Nat) (fun m => ⟨tms [(0, .sl 3 (q09 l)), (4, .ptr 4 0), (5, .os 70 out.length), (6, .int .i64 (i : Int)), (7, .int .i64 ((i + m : Nat) : Int)), (8, .os 42 m)], mms [(4, .cells [.sl 1 (q05 all.vec), .sl 3 (q0d all.cloud)]), (42, .arr m 2 (q1k (((l.drop i).take m).map (·.past)))), (70, .arr out.length 3 (q09 out))]⟩)
    (fun m => i + m ≤ l.length ∧ ∀ x ∈ (l.drop i).take m, q0z r.sku x = true) (fun m => l.length - i - m) 0 (have hW := @q02; q0g) ⟨by omega, fun x hx => absurd hx (by simp)⟩ ?_
   rintro m ⟨hm, hg⟩
   unfold qix
   have hdr : (l.drop i)[m]? = l[i + m]? := by rw [List.getElem?_drop]
   have hrd : l.drop i = r :: l.drop (i + 1) := by
    have := List.drop_eq_getElem_cons hlt
    rw [this]
    simp only [List.getElem?_eq_getElem hlt, Option.some.injEq] at hr
    rw [hr]
   have hpl : (((l.drop i).take m).map (·.past)).length = m := by simp; omega
   have e3 := q9l (((l.drop i).take m).map (·.past))
   rw [hpl] at e3
   have hwp := hg0 i m r.sku hg
   by_cases hex : ∃ q, l[i + m]? = some q ∧ q.sku = r.sku
   ·obtain ⟨q, hq, hsk⟩ := hex
    have hjl : i + m < l.length := by
     rcases Nat.lt_or_ge (i + m) l.length with h | h
     ·exact h
     ·rw [List.getElem?_eq_none h] at hq; cases hq
    have g2 := q0o hq
    have hsn : ((l.drop i).take (m + 1)).map (·.past) = ((l.drop i).take m).map (·.past) ++ [q.past] := by
     rw [List.take_add_one, hdr, hq]
     simp
    (have hF := (aI (aI @e1 @e3) (aI @g1 (aI @g2 @hsk))); refine q01 (k:=?_); clear hF)
    (refine Fin.nextW (m + 1) ?_ (have hW := (aI @q02 (aI @hsn @qqk)); q0g); (try dsimp only))
    refine ⟨⟨hjl, q4j (by rw [hdr, hq]) hg (by simp [q0z, hsk])⟩, by omega⟩
   refine Run.wk (Wk.trans (Wk.toL [(8, .os 42 m), (0, .sl 3 (q09 l)), (4, .ptr 4 0), (5, .os 70 out.length), (6, .int .i64 (i : Int)), (7, .int .i64 ((i + m : Nat) : Int))] [(42, .arr m 2 (q1k (((l.drop i).take m).map (·.past)))), (4, .cells [.sl 1 (q05 all.vec), .sl 3 (q0d all.cloud)]), (70, .arr out.length 3 (q09 out))] ⟨rfl, rfl, rfl, rfl, rfl, rfl, trivial⟩ ⟨rfl, rfl, rfl, trivial⟩ ⟨rfl, q20 (q02 l), rfl, rfl, rfl, rfl, trivial⟩ ⟨qp4 (q0e _), qbk _ (by simp [q0k, AVal.stb, q03, q04]), qp4 (q02 _), trivial⟩) (Wk.give ⟨q20 (q02 l), rfl, rfl, rfl, rfl, trivial⟩ ⟨qbk _ (by simp [q0k, AVal.stb, q03, q04]), qp4 (q02 _), trivial⟩ rfl (q0e _))) ?_
   have htw := q5s (p := q0z r.sku) hg (fun x hx => by rw [hdr] at hx; exact decide_eq_false fun h => hex ⟨x, hx, h⟩)
   by_cases hjl : i + m < l.length
   case' pos =>
    obtain ⟨q, hq⟩ : ∃ q, l[i + m]? = some q := ⟨l[i + m], by simp [hjl]⟩
    have g2 := q0o hq
    have hsk : ¬ q.sku = r.sku := fun h => hex ⟨q, hq, h⟩
    (have hF := (aI (aI @e1 @e3) (aI @g1 (aI @g2 @hsk))); refine q01 (k:=?_); clear hF)
   case' neg =>
    (have hF := (aI @e1 (aI @e3 @g1)); refine q01 (k:=?_); clear hF)
   all_goals
    have hm1 : 1 ≤ m := by
     rcases Nat.eq_zero_or_pos m with h0 | h0
     ·exfalso
      have := htw.1
      rw [h0, hrd] at this
      simp [List.takeWhile, q0z] at this
     ·exact h0
    have hjg : q2j (r :: l.drop (i + 1)) = q1s (((l.drop i).take m).map (·.past)) := by
     unfold q2j z9h
     rw [← hrd]
     have h2 := htw.1
     rw [hrd] at h2 ⊢
     simp only
     rw [h2]
    obtain ⟨n', rfl⟩ : ∃ n', n = n' + 1 := ⟨n - 1, by omega⟩
    rw [hrd] at hf
    unfold q54 at hf
    rw [hjg, ← hrd, htw.2, List.drop_drop] at hf
    have hjw := q6o (((l.drop i).take m).map (·.past))
    generalize ((l.drop i).take m).map (·.past) = ps at *
    have c2 := ev_k49 ps (by omega) (by omega)
    refine q00 [.sl 2 (q1k ps)] (he := c2) (k:=?_)
    generalize q1s ps = p at *
    unfold q0f
    have es := q8j r.sku
    by_cases hz : r.sku.size = 0
    ·have hng : z75 all r.sku p = p := if_pos hz
     have hal : zae all r.sku p = p := if_pos hz
     rw [hng, hal] at hf
     rw [eq_true hz] at es
     have c3 := z7r p (by omega)
     (have hF := (aI @e2 @es); refine q01 (k:=?_); clear hF)
     refine q00 [q0f p] (he := c3) (k:=?_)
     by_cases hs : q3e p = 0
     ·have hog : qhk r.sku p = [] := if_pos hs
      rw [hog, List.nil_append] at hf
      rw [decide_eq_true hs]
      (have hF := @e2; refine q01 (k:=?_); clear hF)
      (refine Fin.nextW (⟨i + m, p, out⟩) ?_ (have hW := @q02; q0g); (try dsimp only))
      exact ⟨⟨hm, by omega, by omega, ⟨n', by omega, hf⟩, hwo⟩, by omega⟩
     ·have hog : qhk r.sku p = [⟨r.sku, p⟩] := if_neg hs
      rw [hog, ← List.append_assoc] at hf
      rw [decide_eq_false hs]
      (have hF := @e2; refine q01 (k:=?_); clear hF)
      (refine Fin.nextW (⟨i + m, p, out ++ [⟨r.sku, p⟩]⟩) ?_ (have hW := (aI @q02 @q2h); q0g); (try dsimp only))
      refine ⟨⟨hm, by simp; omega, by omega, ⟨n', by omega, hf⟩, fun x hx => ?_⟩, by omega⟩
      rcases List.mem_append.1 hx with hx | hx
      ·exact hwo x hx
      ·simp at hx; subst hx; dsimp only; omega
    ·have hng : z75 all r.sku p = q30 p all := if_neg hz
     have hal : zae all r.sku p = all := if_neg hz
     rw [hng, hal] at hf
     rw [eq_false hz] at es
     have c3 := ev_k140 p all (by omega) (by omega)
     have hmw := q9a p all
     (have hF := (aI @e2 @es); refine q01 (k:=?_); clear hF)
     refine q00 [q0f p, q0f all] (he := c3) (k:=?_)
     generalize q30 p all = p2 at *
     have c4 := z7r p2 (by omega)
     unfold q0f
     (have hF := @e2; refine q01 (k:=?_); clear hF)
     refine q00 [q0f p2] (he := c4) (k:=?_)
     by_cases hs : q3e p2 = 0
     ·have hog : qhk r.sku p2 = [] := if_pos hs
      rw [hog, List.nil_append] at hf
      rw [decide_eq_true hs]
      (have hF := @e2; refine q01 (k:=?_); clear hF)
      (refine Fin.nextW (⟨i + m, all, out⟩) ?_ (have hW := @q02; q0g); (try dsimp only))
      exact ⟨⟨hm, by omega, by omega, ⟨n', by omega, hf⟩, hwo⟩, by omega⟩
     ·have hog : qhk r.sku p2 = [⟨r.sku, p2⟩] := if_neg hs
      rw [hog, ← List.append_assoc] at hf
      rw [decide_eq_false hs]
      (have hF := @e2; refine q01 (k:=?_); clear hF)
      (refine Fin.nextW (⟨i + m, all, out ++ [⟨r.sku, p2⟩]⟩) ?_ (have hW := (aI @q02 @q2h); q0g); (try dsimp only))
      refine ⟨⟨hm, by simp; omega, by omega, ⟨n', by omega, hf⟩, fun x hx => ?_⟩, by omega⟩
      rcases List.mem_append.1 hx with hx | hx
      ·exact hwo x hx
      ·simp at hx; subst hx; dsimp only; omega
  ·have hfo : out = R := by
    rw [List.drop_eq_nil_of_le (by omega)] at hf
    rw [← hf]
    cases n <;> simp [q54]
   rw [hfk, ← hfo]
   cases out with
   | nil =>
    (have hF := (aI @e1 @e2); refine q01 (k:=?_); clear hF)
    exact Fin.two (x := .sl 3 (q09 [])) rfl rfl rfl rfl (.inl rfl) (.inl rfl)
   | cons x out =>
    have es := q8j x.sku
    have g1 : (q09 (x :: out))[0]? = some (.agg [.str x.sku, .sl 1 (q05 x.past.vec), .sl 3 (q0d x.past.cloud)]) := rfl
    by_cases hz : x.sku.size = 0
    ·rw [show qgv (x :: out) = ⟨x.sku, q16 x.past⟩ :: out from if_pos hz]
     rw [eq_true hz] at es
     have c4 := qqd x (by have := hwo x (by simp); omega)
     (have hF := (aI @e2 (aI @es @g1)); refine q01 (k:=?_); clear hF)
     refine q00 [q3p x] (he := c4) (k:=?_)
     (have hF := (aI @e2 (aI @es @g1)); refine q01 (k:=?_); clear hF)
     exact Fin.two (x := .sl 3 (q09 (⟨x.sku, q16 x.past⟩ :: out))) (by simp [fz, fzc, q4i, upd, tms, mms, q09, q3p]) (q02 _) rfl rfl (.inl rfl) (.inl rfl)
    ·rw [show qgv (x :: out) = x :: out from if_neg hz]
     rw [eq_false hz] at es
     (have hF := (aI @e2 (aI @es @g1)); refine q01 (k:=?_); clear hF)
     exact Fin.two (x := .sl 3 (q09 (x :: out))) (by simp [fz, fzc, q4i, upd, tms, mms, q09, q3p]) (q02 _) rfl rfl (.inl rfl) (.inl rfl)
theorem ev_k109 (l : List Rec) (hw : q5d l ≤ 5000000) : Ev (En Tryz.prog rfl).P 109 [.sl 3 (q09 l)] (.ret (.tup [.sl 3 (q09 (if q3f l = true then q8p l else [])), .int .i64 (if q3f l = true then 0 else 1)])) := by
 have hlw := q6f l
 refine qob l (q5d l) hw (by omega) (fun r hr => by have := qek hr; unfold wtK at this; omega) (fun i m s _ => ?_)
 exact Nat.le_trans (wts_le (List.take_sublist m (l.drop i))) (qfw ((List.drop_sublist i l).map wtK))

theorem q8e {p : Pst} {r : Nat} {n : Int} (h : inP p r n) : r < 16 := h.1
theorem has_norm (p : Pst) (d : Rn) : q2q (q16 p) d = q2q p d := qal (by
 rw [q1u, q1u]
 exact ⟨fun h => ⟨h.1, (qgh p (q8e h.2) _).1 h.2⟩, fun h => ⟨h.1, (qgh p (q8e h.2) _).2 h.2⟩⟩)
theorem q7s (p q : Pst) (d : Rn) : q2q (q1s [p, q]) d = (q2q p d || q2q q d) := qal (by
 rw [Bool.or_eq_true, q1u, q1u, q1u]
 constructor
 ·intro h
  have := (q7r [p, q] (q8e h.2) _).1 h.2
  simp only [List.mem_cons, List.not_mem_nil, or_false, exists_eq_or_imp, exists_eq_left] at this
  exact this.imp (fun x => ⟨h.1, x⟩) (fun x => ⟨h.1, x⟩)
 ·rintro (h | h)
  ·exact ⟨h.1, (q7r _ (q8e h.2) _).2 ⟨p, by simp, h.2⟩⟩
  ·exact ⟨h.1, (q7r _ (q8e h.2) _).2 ⟨q, by simp, h.2⟩⟩)
theorem z9j {p : Pst} {d : Rn} : (!q2q p d) = true ↔ ¬ (0 ≤ d.1 ∧ inP p d.1.toNat d.2) := by
 rw [← q1u]
 cases q2q p d <;> simp
theorem q7c (p q : Pst) (d : Rn) : q2q (q30 p q) d = (q2q p d && !q2q q d) := qal (by
 rw [Bool.and_eq_true, q1u, q1u, z9j]
 constructor
 ·intro h
  have := (q79 p q (q8e h.2) _).1 h.2
  exact ⟨⟨h.1, this.1⟩, fun h' => this.2 h'.2⟩
 ·rintro ⟨h, h'⟩
  exact ⟨h.1, (q79 p q (q8e h.2) _).2 ⟨h.2, fun x => h' ⟨h.1, x⟩⟩⟩)
theorem z9i {p q : Pst} {d : Rn} (hw : q14 p q = true) (h : q2q p d = true) : q2q q d = true := by
 have h' := (q1u p d).1 h
 exact (q1u q d).2 ⟨h'.1, q6h.1 hw _ (q8e h'.2) _ h'.2⟩
theorem z7h {p : Pst} {d : Rn} (h : q2q p d = true) : 1 ≤ q3e p := by
 have h' := (q1u p d).1 h
 rw [qes]
 have := qdy h'.2.2.1 h'.2.2.2.1 h'.2 (q8e h'.2)
 omega

def SrtK (l : List Rec) : Prop := ∀ (i : Nat) a b, l[i]? = some a → l[i + 1]? = some b → q31 a b < 0
theorem SrtK.tail {t l : List Rec} (h : SrtK (t ++ l)) : SrtK l := fun i a b ha hb =>
 h (t.length + i) a b (by rw [List.getElem?_append_right (by omega)]; simpa using ha) (by rw [List.getElem?_append_right (by omega)]; rw [show t.length + i + 1 - t.length = i + 1 by omega]; exact hb)
theorem zn4 (s : ByteArray) : (bs s).length = s.size := by simp [bs]
theorem sku_step {a b : Rec} (h : q31 a b < 0) (ha : a.sku.size ≠ 0) : b.sku.size ≠ 0 := by
 intro hb
 have h1 : bs b.sku = [] := by
  have := zn4 b.sku
  rw [hb] at this
  exact List.length_eq_zero_iff.1 this
 have h2 : q7k a.sku b.sku = 1 := by
  unfold q7k
  rw [h1]
  cases h3 : bs a.sku with
  | nil =>
   have := zn4 a.sku
   rw [h3] at this
   exact absurd this.symm ha
  | cons x l => rfl
 unfold q31 at h
 rw [h2] at h
 simp at h
theorem qpo : ∀ {l : List Rec} {r : Rec}, SrtK (r :: l) → r.sku.size ≠ 0 → ∀ x ∈ r :: l, x.sku.size ≠ 0
 | [], r, _, h, x, hx => by simp at hx; subst hx; exact h
 | q :: l, r, hs, h, x, hx => by
  rcases List.mem_cons.1 hx with rfl | hx
  ·exact h
  ·exact qpo (SrtK.tail (t := [r]) hs) (sku_step (hs 0 r q rfl rfl) h) x hx
theorem zld (ps : List Pst) (d : Rn) : q2q (q1s ps) d = true ↔ ∃ p ∈ ps, q2q p d = true := by
 rw [q1u]
 constructor
 ·rintro ⟨h0, h⟩
  obtain ⟨p, hp, hi⟩ := (q7r ps h.1 _).1 h
  exact ⟨p, hp, (q1u p d).2 ⟨h0, hi⟩⟩
 ·rintro ⟨p, hp, h⟩
  obtain ⟨h0, hi⟩ := (q1u p d).1 h
  exact ⟨h0, (q7r ps hi.1 _).2 ⟨p, hp, hi⟩⟩
theorem zlc (d : Rn) : q2q ⟨[], []⟩ d = false := by
 unfold q2q
 simp
 intro h h1
 simp [q3l] at h
 omega
def qbm (l : List Rec) (e : Ent) : Prop := ∃ r ∈ l, qb2 r e = true
theorem q84 (l : List Rec) (e : Ent) : q5g l e = 0 ↔ ¬ qbm l e := by
 unfold q5g qbm
 rw [List.length_eq_zero_iff, List.filter_eq_nil_iff]
 constructor
 ·rintro h ⟨r, hr, hc⟩; exact h r hr hc
 ·intro h r hr hc; exact h ⟨r, hr, hc⟩
theorem qhh (l m : List Rec) (e : Ent) : qbm (l ++ m) e ↔ qbm l e ∨ qbm m e := by
 unfold qbm
 constructor
 ·rintro ⟨r, hr, hc⟩
  rcases List.mem_append.1 hr with hr | hr
  ·exact .inl ⟨r, hr, hc⟩
  ·exact .inr ⟨r, hr, hc⟩
 ·rintro (⟨r, hr, hc⟩ | ⟨r, hr, hc⟩)
  ·exact ⟨r, by simp [hr], hc⟩
  ·exact ⟨r, by simp [hr], hc⟩
theorem q7x (r : Rec) (e : Ent) : qb2 r e = true ↔ (r.sku.size = 0 ∨ r.sku = e.sku) ∧ q2q r.past e.dot = true := by
 unfold qb2
 simp [Bool.and_eq_true, Bool.or_eq_true]
theorem z8g (s : ByteArray) (p : Pst) (e : Ent) : qbm (qhk s p) e ↔ (s.size = 0 ∨ s = e.sku) ∧ q2q p e.dot = true := by
 unfold qhk
 split
 ·rename_i h
  constructor
  ·rintro ⟨r, hr, _⟩; cases hr
  ·rintro ⟨_, h2⟩
   have := z7h h2
   omega
 ·constructor
  ·rintro ⟨r, hr, hc⟩
   simp at hr
   subst hr
   exact (q7x _ e).1 hc
  ·intro h
   exact ⟨⟨s, p⟩, by simp, (q7x _ e).2 h⟩
theorem qp8 {r : Rec} {l : List Rec} (e : Ent) : qbm ((r :: l).takeWhile (q0z r.sku)) e ↔ (r.sku.size = 0 ∨ r.sku = e.sku) ∧ q2q (q2j (r :: l)) e.dot = true := by
 have hall : ∀ x ∈ (r :: l).takeWhile (q0z r.sku), x.sku = r.sku := fun x hx => of_decide_eq_true (List.all_eq_true.1 (List.all_takeWhile (p := q0z r.sku)) x hx)
 unfold q2j z9h
 rw [zld]
 simp only [List.mem_map]
 constructor
 ·rintro ⟨x, hx, hc⟩
  have h := (q7x x e).1 hc
  rw [hall x hx] at h
  exact ⟨h.1, x.past, ⟨x, hx, rfl⟩, h.2⟩
 ·rintro ⟨h1, _, ⟨x, hx, rfl⟩, h2⟩
  exact ⟨x, hx, (q7x x e).2 ⟨by rw [hall x hx]; exact h1, h2⟩⟩
theorem qfq (r : Rec) (l : List Rec) (e : Ent) : qbm (r :: l) e ↔ qbm ((r :: l).takeWhile (q0z r.sku)) e ∨ qbm ((r :: l).dropWhile (q0z r.sku)) e := by
 rw [← qhh, List.takeWhile_append_dropWhile]
theorem qhc (r : Rec) (l : List Rec) : ((r :: l).dropWhile (q0z r.sku)).length ≤ l.length := by
 rw [List.dropWhile_cons_of_pos (by simp [q0z])]
 exact (List.dropWhile_suffix _).length_le
theorem qdh : ∀ (n : Nat) (L : List Rec) (all : Pst) (e : Ent), L.length ≤ n → (∀ x ∈ L, x.sku.size ≠ 0) → ((qbm (q54 n L all) e ∨ q2q all e.dot = true) ↔ (qbm L e ∨ q2q all e.dot = true))
 | 0, L, all, e, h, _ => by
  have : L = [] := List.length_eq_zero_iff.1 (by omega)
  subst this
  exact Iff.rfl
 | n + 1, [], all, e, _, _ => Iff.rfl
 | n + 1, r :: l, all, e, h, hne => by
  have hz := hne r (by simp)
  have hdl := qhc r l
  have ih := qdh n ((r :: l).dropWhile (q0z r.sku)) all e (by simp at h; omega) (fun x hx => hne x ((List.dropWhile_sublist _).subset hx))
  show (qbm (qhk r.sku (z75 all r.sku (q2j (r :: l))) ++ q54 n ((r :: l).dropWhile (q0z r.sku)) (zae all r.sku (q2j (r :: l)))) e ∨ _) ↔ _
  rw [show z75 all r.sku (q2j (r :: l)) = q30 (q2j (r :: l)) all from if_neg hz, show zae all r.sku (q2j (r :: l)) = all from if_neg hz]
  rw [qhh, z8g, qfq, qp8, q7c]
  by_cases ha : q2q all e.dot = true
  ·simp [ha]
  ·have ha' : q2q all e.dot = false := by simpa using ha
   rw [ha'] at ih
   simp only [Bool.false_eq_true, or_false] at ih
   rw [ha', ih]
   simp
theorem zli {l : List Rec} (hs : SrtK l) (e : Ent) : qbm (q8p l) e ↔ qbm l e := by
 have hh : ∀ m : List Rec, qbm (qgv m) e ↔ qbm m e := by
  intro m
  cases m with
  | nil => exact Iff.rfl
  | cons r m =>
   show qbm (if r.sku.size = 0 then ⟨r.sku, q16 r.past⟩ :: m else r :: m) e ↔ _
   split
   ·have hc : qb2 ⟨r.sku, q16 r.past⟩ e = qb2 r e := by unfold qb2; simp only [has_norm]
    unfold qbm
    simp [hc]
   ·exact Iff.rfl
 unfold q8p
 rw [hh]
 cases l with
 | nil => exact Iff.rfl
 | cons r l =>
  by_cases hz : r.sku.size = 0
  ·have hdl := qhc r l
   have hd : ∀ x ∈ (r :: l).dropWhile (q0z r.sku), x.sku.size ≠ 0 := by
    have h1 := SrtK.tail (t := (r :: l).takeWhile (q0z r.sku)) (l := (r :: l).dropWhile (q0z r.sku)) (by rw [List.takeWhile_append_dropWhile]; exact hs)
    have h2 := List.head?_dropWhile_not (q0z r.sku) (r :: l)
    generalize (r :: l).dropWhile (q0z r.sku) = D at h1 h2 ⊢
    cases D with
    | nil => intro x hx; cases hx
    | cons q D =>
     refine qpo h1 ?_
     intro hq
     simp [q0z] at h2
     exact h2 (by rw [q4v.2 hq, q4v.2 hz])
   have ih := qdh l.length ((r :: l).dropWhile (q0z r.sku)) (q2j (r :: l)) e hdl hd
   show qbm (qhk r.sku (z75 ⟨[], []⟩ r.sku (q2j (r :: l))) ++ q54 l.length ((r :: l).dropWhile (q0z r.sku)) (zae ⟨[], []⟩ r.sku (q2j (r :: l)))) e ↔ _
   rw [show z75 ⟨[], []⟩ r.sku (q2j (r :: l)) = q2j (r :: l) from if_pos hz, show zae ⟨[], []⟩ r.sku (q2j (r :: l)) = q2j (r :: l) from if_pos hz]
   rw [qhh, z8g, qfq, qp8]
   simp only [hz, true_or, true_and]
   rw [or_comm, ih, or_comm]
  ·have h := qdh (r :: l).length (r :: l) ⟨[], []⟩ e (Nat.le_refl _) (qpo hs hz)
   rw [zlc] at h
   simpa using h
theorem z7o : ∀ (n : Nat) (L : List Rec) (all : Pst) (W : Nat), q5d L ≤ W → wt all ≤ 16 + W → (q54 n L all).length ≤ L.length ∧ ∀ r ∈ q54 n L all, wt r.past ≤ 64 + 2 * W
 | 0, L, all, W, _, _ => ⟨Nat.zero_le _, fun r hr => absurd hr (by simp [q54])⟩
 | n + 1, [], all, W, _, _ => ⟨Nat.le_refl _, fun r hr => absurd hr (by simp [q54])⟩
 | n + 1, r :: l, all, W, h, ha => by
  have hdl := qhc r l
  have hj : wt (q2j (r :: l)) ≤ 16 + W := by
   have h1 := q6o ((z9h (r :: l)).map (·.past))
   have h2 := wts_le (l := z9h (r :: l)) (m := r :: l) (List.takeWhile_sublist _)
   unfold q2j
   omega
  have hmw := q9a (q2j (r :: l)) all
  have hD : q5d ((r :: l).dropWhile (q0z r.sku)) ≤ W := Nat.le_trans (qfw ((List.dropWhile_sublist _).map wtK)) h
  have ih := z7o n ((r :: l).dropWhile (q0z r.sku)) (zae all r.sku (q2j (r :: l))) W hD (by unfold zae; split <;> omega)
  have ho : ∀ p, (qhk r.sku p).length ≤ 1 := fun p => by unfold qhk; split <;> simp
  refine ⟨?_, fun x hx => ?_⟩
  ·show (qhk r.sku _ ++ q54 n _ _).length ≤ _
   rw [List.length_append]
   have := ho (z75 all r.sku (q2j (r :: l)))
   simp only [List.length_cons]
   omega
  ·rcases List.mem_append.1 (show x ∈ qhk r.sku _ ++ q54 n _ _ from hx) with hx | hx
   ·unfold qhk at hx
    split at hx
    ·cases hx
    ·simp at hx
     subst hx
     show wt (z75 all r.sku (q2j (r :: l))) ≤ _
     unfold z75
     split <;> omega
   ·exact ih.2 x hx
theorem foldK_wt (l : List Rec) : (q8p l).length ≤ l.length ∧ ∀ r ∈ q8p l, wt r.past ≤ 96 + 2 * q5d l := by
 have h := z7o l.length l ⟨[], []⟩ (q5d l) (Nat.le_refl _) (Nat.zero_le _)
 unfold q8p
 generalize q54 l.length l ⟨[], []⟩ = m at h ⊢
 cases m with
 | nil => exact ⟨h.1, fun x hx => absurd hx (by simp [qgv])⟩
 | cons r m =>
  have h1 : ∀ x ∈ r :: m, wt x.past ≤ 96 + 2 * q5d l := fun x hx => by have := h.2 x hx; omega
  by_cases hz : r.sku.size = 0
  ·rw [show qgv (r :: m) = ⟨r.sku, q16 r.past⟩ :: m from if_pos hz]
   refine ⟨h.1, fun x hx => ?_⟩
   rcases List.mem_cons.1 hx with rfl | hx
   ·have h2 := q5m r.past
    have h3 := h.2 r (by simp)
    show wt (q16 r.past) ≤ _
    omega
   ·exact h1 x (by simp [hx])
  ·rw [show qgv (r :: m) = r :: m from if_neg hz]
   exact ⟨h.1, h1⟩

def zfr : List SOp := [⟨some 4,.assign (.const (.slice none 0 0)),none⟩,⟨some 5,.assign (.const (.int .i64 0)),none⟩]
instance : Live zfr := ⟨[0,1]⟩
def zfq : List SOp := [⟨some 11,.move (.tmp 0),none⟩,⟨some 12,.call ⟨.value (.func 53),#[.tmp 11],#[22]⟩,none⟩,⟨some 13,.binOp .neq 32 (.tmp 12) (.const (.int .i64 0)) 32,none⟩,⟨some 14,.move (.tmp 13),none⟩,⟨some 15,.move (.tmp 1),some ((some 14),false)⟩,⟨some 16,.call ⟨.value (.func 55),#[.tmp 15],#[27]⟩,some ((some 14),false)⟩,⟨some 17,.binOp .neq 32 (.tmp 16) (.const (.int .i64 0)) 32,some ((some 14),false)⟩,⟨some 18,.pick (.tmp 14) (.const (.bool true)) (.tmp 17),none⟩]
instance : Live zfq := ⟨[0,1]⟩
def zfp : List SOp := [⟨some 4,.assign (.const (.slice none 0 0)),none⟩,⟨some 5,.assign (.const (.int .i64 1)),none⟩]
instance : Live zfp := ⟨[]⟩
def zfo : List SOp := [⟨some 20,.move (.tmp 1),none⟩,⟨some 21,.call ⟨.value (.func 109),#[.tmp 20],#[27]⟩,none⟩,⟨some 19,.move (.tmp 21),none⟩,⟨some 22,.extract (.tmp 19) 0,none⟩,⟨some 23,.extract (.tmp 19) 1,none⟩,⟨some 6,.assign (.tmp 22),none⟩,⟨some 7,.assign (.tmp 23),none⟩]
instance : Live zfo := ⟨[0,1]⟩
def zfn : List SOp := [⟨some 8,.assign (.const (.slice none 0 0)),none⟩]
instance : Live zfn := ⟨[0,6]⟩
def zfm : List SOp := [⟨some 24,.move (.tmp 0),none⟩,⟨some 25,.call ⟨.builtin .len,#[.tmp 24],#[22]⟩,none⟩,⟨some 26,.move (.const (.int .i64 0)),none⟩]
instance : Live zfm := ⟨[0,6,8]⟩
def zfl : List SOp := [⟨some 27,.binOp .lss 3 (.tmp 26) (.tmp 25) 3,none⟩]
instance : Live zfl := ⟨[6,8,24,25,26]⟩
def zfk : List SOp := [⟨some 28,.indexAddr 22 (.tmp 24) (.tmp 26),none⟩,⟨some 29,.load 62 (.tmp 28),none⟩,⟨some 10,.alloc 62,none⟩,⟨none,.store 62 (.tmp 10) (.tmp 29),none⟩]
instance : Live zfk := ⟨[6,8,24,25,26]⟩
def zfj : List SOp := [⟨some 30,.move (.tmp 6),none⟩,⟨some 31,.load 62 (.tmp 10),none⟩,⟨some 32,.call ⟨.value (.func 110),#[.tmp 30,.tmp 31],#[27,62]⟩,none⟩,⟨some 33,.binOp .eql 3 (.tmp 32) (.const (.int .i64 0)) 3,none⟩]
instance : Live zfj := ⟨[6,8,10,24,25,26]⟩
def qtm : List SOp := [⟨some 34,.move (.tmp 8),none⟩,⟨some 35,.load 62 (.tmp 10),none⟩,⟨some 36,.buildSlice 22 1 #[(0,.tmp 35)],none⟩,⟨some 37,.call ⟨.builtin .append,#[.tmp 34,.tmp 36],#[22,22]⟩,none⟩,⟨some 8,.assign (.tmp 37),none⟩]
instance : Live qtm := ⟨[6,8,10,24,25,26]⟩
def qtl : List SOp := [⟨some 38,.binOp .add 3 (.tmp 26) (.const (.int .i64 1)) 3,none⟩,⟨some 26,.move (.tmp 38),none⟩]
instance : Live qtl := ⟨[6,8,24,25,26]⟩
def qtk : List SOp := [⟨some 39,.move (.tmp 8),none⟩,⟨some 4,.assign (.tmp 39),none⟩,⟨some 5,.assign (.const (.int .i64 0)),none⟩]
instance : Live qtk := ⟨[8]⟩
def qrl : SC :=
 (.seq (.ops false zfl) (.seq (.cond (.tmp 27) .skip (.exit 0)) (.seq (.block 1 (.seq (.ops false zfk) (.seq (.ops false zfj) (.cond (.tmp 33) (.ops false qtm) .skip)))) (.ops false qtl))))
def t_k58 : SC :=
 (.seq (.ops false zfr) (.seq (.seq (.ops false zfq) (.cond (.tmp 18) (.seq (.ops false zfp) .ret) .skip)) (.seq (.ops false zfo) (.seq (.ops false zfn) (.seq (.seq (.ops false zfm) (.block 0 (.loop qrl))) (.seq (.ops false qtk) .ret))))))
theorem it_k58 : FnIs Tryz.prog 58 40 [.tmp 4, .tmp 5] t_k58 := ⟨Tryz.f58, _, Tryz.func58, rfl, rfl, rfl, rfl, by kernel_rfl⟩

def q36 (l : List Rec) (es : List Ent) : List Ent := es.filter fun e => decide (q5g l e = 0)
theorem z97 {es : List Ent} {i : Nat} {e : Ent} (h : es[i]? = some e) (l : List Rec) : q36 l (es.take (i + 1)) = q36 l (es.take i) ++ if q5g l e = 0 then [e] else [] := by
 unfold q36
 rw [List.take_add_one, h, List.filter_append]
 by_cases hc : q5g l e = 0 <;> simp [hc]
theorem zkw (l : List Rec) (es : List Ent) : (q36 l es).length ≤ es.length := List.length_filter_le _ _
theorem z98 {l : List Rec} (h : q3g l) (es : List Ent) : q36 (q8p l) es = q36 l es := by
 unfold q36
 congr 1
 funext e
 refine qal ?_
 rw [decide_eq_true_iff, decide_eq_true_iff, q84, q84, zli h.2]
theorem zlx (es : List Ent) (l : List Rec) (hl : es.length ≤ 100000000)
 (c2 : Ev (En Tryz.prog rfl).P 55 [.sl 3 (q09 l)] (.ret (.int .i64 (if q3f l = true then 0 else 1))))
 (c3 : Ev (En Tryz.prog rfl).P 109 [.sl 3 (q09 l)] (.ret (.tup [.sl 3 (q09 (if q3f l = true then q8p l else [])), .int .i64 (if q3f l = true then 0 else 1)])))
 (hfl : (q8p l).length ≤ 900000000) (hfw : ∀ r ∈ q8p l, wt r.past ≤ 900000000) : Ev (En Tryz.prog rfl).P 58 [.sl 4 (q0b es), .sl 3 (q09 l)] (.ret (.tup [.sl 4 (q0b (if q70 es = true ∧ q3f l = true then q36 l es else [])), .int .i64 (if q70 es = true ∧ q3f l = true then 0 else 1)])) := by
 refine Ev.of_body it_k58 (by simp) (Run.start ?_)
 unfold t_k58
 have e1 := q0n es
 have hS := qpa
 have c1 := qod es (by omega)
 (have hF := @e1; refine q01 (k:=?_); clear hF)
 refine q00 [.sl 4 (q0b es)] (he := c1) (k:=?_)
 by_cases h1 : q70 es = true
 ·rw [if_pos h1]
  by_cases h2 : q3f l = true
  ·simp only [h2, if_true, and_true, h1] at c2 c3 ⊢
   have hlf := z98 (q7d.1 h2) es
   (have hF := @e1; refine q01 (k:=?_); clear hF)
   refine q00 [.sl 3 (q09 l)] (he := c2) (k:=?_)
   (have hF := @e1; refine q01 (k:=?_); clear hF)
   refine q00 [.sl 3 (q09 l)] (he := c3) (k:=?_)
   rw [← hlf]
   generalize q8p l = F at *
   (have hF := @e1; refine q01 (k:=?_); clear hF)
   refine Run.wk (Wk.own_nil 8 37 4 rfl rfl) ?_
   refine Run.while (σ := Nat) (fun i => ⟨tms [(6, .sl 3 (q09 F)), (8, .os 37 (q36 F (es.take i)).length), (24, .sl 4 (q0b es)), (25, .int .i64 es.length), (26, .int .i64 (i : Int))], mms [(37, .arr (q36 F (es.take i)).length 4 (q0b (q36 F (es.take i))))]⟩)
    (fun i => i ≤ es.length) (fun i => es.length - i) 0 (have hW := (aI @q02 @q07); q0g) (Nat.zero_le _) ?_
   intro i hi
   unfold qrl
   by_cases hlt : i < es.length
   ·obtain ⟨e, he⟩ : ∃ e, es[i]? = some e := ⟨es[i], by simp [hlt]⟩
    have g1 := q0w he
    have c4 := ev_k110 F e (by omega) hfw
    have hst := z97 he F
    have hle := zkw F (es.take i)
    have hle2 : (es.take i).length ≤ es.length := by rw [List.length_take]; omega
    have hbl := z85 F e
    generalize q36 F (es.take i) = out at hst hle ⊢
    have e2 := q0n out
    (have hF := (aI @e1 (aI @e2 @g1)); refine q01 (k:=?_); clear hF)
    refine q00 [.sl 3 (q09 F), qb1 e] (he := c4) (k:=?_)
    by_cases hb : q5g F e = 0
    ·rw [if_pos hb] at hst
     rw [hb]
     (have hF := (aI @e1 @e2); refine q01 (k:=?_); clear hF)
     (refine Fin.nextW (i + 1) ?_ (have hW := (aI (aI @q02 @q07) (aI @hst @q12)); q0g); (try dsimp only))
     omega
    ·rw [if_neg hb, List.append_nil] at hst
     have hb' : ¬ ((q5g F e : Nat) : Int) = 0 := by omega
     (have hF := (aI @e1 (aI @e2 @hb')); refine q01 (k:=?_); clear hF)
     (refine Fin.nextW (i + 1) ?_ (have hW := (aI (aI @q02 @q07) (aI @hst @q12)); q0g); (try dsimp only))
     omega
   ·rw [List.take_of_length_le (show es.length ≤ i by omega)]
    (have hF := @e1; refine q01 (k:=?_); clear hF)
    exact Fin.two (x := .sl 4 (q0b (q36 F es))) (by simp [fz, fzc, q4i, upd, tms, mms]) (q07 _) rfl rfl (.inl rfl) (.inl rfl)
  ·simp only [h2, Bool.false_eq_true, if_false, and_false] at c2 ⊢
   (have hF := @e1; refine q01 (k:=?_); clear hF)
   refine q00 [.sl 3 (q09 l)] (he := c2) (k:=?_)
   (have hF := @e1; refine q01 (k:=?_); clear hF)
   exact Fin.two (x := .nil) (x' := .int .i64 1) rfl rfl rfl rfl (.inr ⟨rfl, 4, rfl⟩) (.inl rfl)
 ·simp only [h1, Bool.false_eq_true, if_false, false_and]
  (have hF := @e1; refine q01 (k:=?_); clear hF)
  exact Fin.two (x := .nil) (x' := .int .i64 1) rfl rfl rfl rfl (.inr ⟨rfl, 4, rfl⟩) (.inl rfl)
theorem ev_k58 (es : List Ent) (l : List Rec) (hl : es.length ≤ 100000000) (hw : q5d l ≤ 5000000) : Ev (En Tryz.prog rfl).P 58 [.sl 4 (q0b es), .sl 3 (q09 l)] (.ret (.tup [.sl 4 (q0b (if q70 es = true ∧ q3f l = true then q36 l es else [])), .int .i64 (if q70 es = true ∧ q3f l = true then 0 else 1)])) := by
 have hlw := q6f l
 have h := foldK_wt l
 exact zlx es l hl (ev_k55 l (by omega)) (ev_k109 l hw) (by omega) (fun r hr => by have := h.2 r hr; omega)

def qvd : List SOp := [⟨some 2,.assign (.const (.int .i64 0)),none⟩]
instance : Live qvd := ⟨[0]⟩
def qvc : List SOp := [⟨some 3,.move (.tmp 0),none⟩,⟨some 4,.binOp .geq 79 (.tmp 3) (.const (.int .u64 4294967296)) 79,none⟩]
instance : Live qvc := ⟨[0,2]⟩
def qvb : List SOp := [⟨some 5,.move (.tmp 0),none⟩,⟨some 6,.binOp .shr 79 (.tmp 5) (.const (.int .u64 32)) 204,none⟩,⟨some 0,.assign (.tmp 6),none⟩]
instance : Live qvb := ⟨[0]⟩
def qva : List SOp := [⟨some 2,.assign (.const (.int .i64 32)),none⟩]
instance : Live qva := ⟨[0]⟩
def qv9 : List SOp := [⟨some 7,.move (.tmp 0),none⟩,⟨some 8,.binOp .geq 79 (.tmp 7) (.const (.int .u64 65536)) 79,none⟩]
instance : Live qv9 := ⟨[0,2]⟩
def qv8 : List SOp := [⟨some 9,.move (.tmp 0),none⟩,⟨some 10,.binOp .shr 79 (.tmp 9) (.const (.int .u64 16)) 204,none⟩,⟨some 0,.assign (.tmp 10),none⟩]
instance : Live qv8 := ⟨[0,2]⟩
def qv7 : List SOp := [⟨some 11,.move (.tmp 2),none⟩,⟨some 12,.binOp .add 3 (.tmp 11) (.const (.int .i64 16)) 3,none⟩,⟨some 2,.assign (.tmp 12),none⟩]
instance : Live qv7 := ⟨[0,2]⟩
def qv6 : List SOp := [⟨some 13,.move (.tmp 0),none⟩,⟨some 14,.binOp .geq 79 (.tmp 13) (.const (.int .u64 256)) 79,none⟩]
instance : Live qv6 := ⟨[0,2]⟩
def qv5 : List SOp := [⟨some 15,.move (.tmp 0),none⟩,⟨some 16,.binOp .shr 79 (.tmp 15) (.const (.int .u64 8)) 204,none⟩,⟨some 0,.assign (.tmp 16),none⟩]
instance : Live qv5 := ⟨[0,2]⟩
def qja : List SOp := [⟨some 17,.move (.tmp 2),none⟩,⟨some 18,.binOp .add 3 (.tmp 17) (.const (.int .i64 8)) 3,none⟩,⟨some 2,.assign (.tmp 18),none⟩]
instance : Live qja := ⟨[0,2]⟩
def qj9 : List SOp := [⟨some 19,.move (.tmp 2),none⟩,⟨some 20,.move (.tmp 0),none⟩,⟨some 21,.convert 79 5 (.tmp 20),none⟩,⟨some 22,.index 9 (.const (.string ⟨List.toArray ([0,1,2,2,3,3,3,3,4,4,4,4,4,4,4,4,5,5,5,5,5,5,5,5,5,5,5,5,5,5,5,5,6,6,6,6,6,6,6,6,6,6,6,6,6,6,6,6,6,6,6,6,6,6,6,6,6,6,6,6,6,6,6,6,7,7,7,7,7,7,7,7,7,7,7,7,7,7,7,7,7,7,7,7,7,7,7,7,7,7,7,7,7,7,7,7,7,7,7,7,7,7,7,7,7,7,7,7,7,7,7,7,7,7,7,7,7,7,7,7,7,7,7,7,7,7,7,7] ++ [8,8,8,8,8,8,8,8,8,8,8,8,8,8,8,8,8,8,8,8,8,8,8,8,8,8,8,8,8,8,8,8,8,8,8,8,8,8,8,8,8,8,8,8,8,8,8,8,8,8,8,8,8,8,8,8,8,8,8,8,8,8,8,8,8,8,8,8,8,8,8,8,8,8,8,8,8,8,8,8,8,8,8,8,8,8,8,8,8,8,8,8,8,8,8,8,8,8,8,8,8,8,8,8,8,8,8,8,8,8,8,8,8,8,8,8,8,8,8,8,8,8,8,8,8,8,8,8])⟩)) (.tmp 21),none⟩,⟨some 23,.convert 5 3 (.tmp 22),none⟩,⟨some 24,.binOp .add 3 (.tmp 19) (.tmp 23) 3,none⟩,⟨some 2,.assign (.tmp 24),none⟩]
instance : Live qj9 := ⟨[0,2]⟩
def t_k183 : SC :=
 (.seq (.ops false qvd) (.seq (.seq (.ops false qvc) (.cond (.tmp 4) (.seq (.ops false qvb) (.ops false qva)) .skip)) (.seq (.seq (.ops false qv9) (.cond (.tmp 8) (.seq (.ops false qv8) (.ops false qv7)) .skip)) (.seq (.seq (.ops false qv6) (.cond (.tmp 14) (.seq (.ops false qv5) (.ops false qja)) .skip)) (.seq (.ops false qj9) .ret)))))
theorem it_k183 : FnIs Tryz.prog 183 25 [.tmp 2] t_k183 := ⟨Tryz.f183, _, Tryz.func183, rfl, rfl, rfl, rfl, by kernel_rfl⟩

def qwp : List SOp := [⟨some 2,.assign (.const (.int .i64 0)),none⟩]
instance : Live qwp := ⟨[0]⟩
def qwo : List SOp := [⟨some 3,.move (.tmp 0),none⟩,⟨some 4,.convert 204 220 (.tmp 3),none⟩,⟨some 5,.call ⟨.value (.func 182),#[.tmp 4],#[220]⟩,none⟩,⟨some 2,.assign (.tmp 5),none⟩]
instance : Live qwo := ⟨[0]⟩
def qwn : List SOp := [⟨some 6,.move (.tmp 0),none⟩,⟨some 7,.call ⟨.value (.func 183),#[.tmp 6],#[79]⟩,none⟩,⟨some 2,.assign (.tmp 7),none⟩]
instance : Live qwn := ⟨[0]⟩
def t_k164 : SC :=
 (.seq (.ops false qwp) (.seq (.cond (.const (.bool false)) (.seq (.ops false qwo) .ret) .skip) (.seq (.ops false qwn) .ret)))
theorem it_k164 : FnIs Tryz.prog 164 8 [.tmp 2] t_k164 := ⟨Tryz.f164, _, Tryz.func164, rfl, rfl, rfl, rfl, by kernel_rfl⟩

def qvj : List SOp := [⟨some 10,.move (.tmp 1),none⟩,⟨some 11,.binOp .add 3 (.tmp 10) (.const (.int .i64 1)) 3,none⟩,⟨some 8,.assign (.tmp 11),none⟩]
instance : Live qvj := ⟨[0,1,2,3]⟩
def qvi : List SOp := [⟨some 12,.move (.tmp 8),none⟩,⟨some 13,.move (.tmp 2),none⟩,⟨some 14,.binOp .lss 3 (.tmp 12) (.tmp 13) 3,none⟩]
instance : Live qvi := ⟨[0,1,2,3,8]⟩
def qvh : List SOp := [⟨some 17,.move (.tmp 8),none⟩,⟨some 9,.assign (.tmp 17),none⟩]
instance : Live qvh := ⟨[0,1,2,3,8]⟩
def qvg : List SOp := [⟨some 18,.move (.tmp 9),none⟩,⟨some 19,.move (.tmp 1),none⟩,⟨some 20,.binOp .gtr 3 (.tmp 18) (.tmp 19) 3,none⟩,⟨some 21,.move (.tmp 20),none⟩,⟨some 22,.move (.tmp 3),some ((some 21),true)⟩,⟨some 23,.move (.tmp 0),some ((some 21),true)⟩,⟨some 24,.move (.tmp 9),some ((some 21),true)⟩,⟨some 25,.indexAddr 27 (.tmp 23) (.tmp 24),some ((some 21),true)⟩,⟨some 26,.load 91 (.tmp 25),some ((some 21),true)⟩,⟨some 27,.move (.tmp 0),some ((some 21),true)⟩,⟨some 28,.move (.tmp 9),some ((some 21),true)⟩,⟨some 29,.binOp .sub 3 (.tmp 28) (.const (.int .i64 1)) 3,some ((some 21),true)⟩,⟨some 30,.indexAddr 27 (.tmp 27) (.tmp 29),some ((some 21),true)⟩,⟨some 31,.load 91 (.tmp 30),some ((some 21),true)⟩,⟨some 32,.call ⟨.value (.tmp 22),#[.tmp 26,.tmp 31],#[91,91]⟩,some ((some 21),true)⟩,⟨some 33,.binOp .lss 3 (.tmp 32) (.const (.int .i64 0)) 3,some ((some 21),true)⟩,⟨some 34,.pick (.tmp 21) (.tmp 33) (.const (.bool false)),none⟩]
instance : Live qvg := ⟨[0,1,2,3,8,9]⟩
def qg5 : List SOp := [⟨some 37,.move (.tmp 0),none⟩,⟨some 38,.move (.tmp 9),none⟩,⟨some 39,.move (.tmp 0),none⟩,⟨some 40,.move (.tmp 9),none⟩,⟨some 41,.binOp .sub 3 (.tmp 40) (.const (.int .i64 1)) 3,none⟩,⟨some 42,.move (.tmp 0),none⟩,⟨some 43,.move (.tmp 9),none⟩,⟨some 44,.binOp .sub 3 (.tmp 43) (.const (.int .i64 1)) 3,none⟩,⟨some 45,.indexAddr 27 (.tmp 42) (.tmp 44),none⟩,⟨some 46,.load 91 (.tmp 45),none⟩,⟨some 47,.move (.tmp 0),none⟩,⟨some 48,.move (.tmp 9),none⟩,⟨some 49,.indexAddr 27 (.tmp 47) (.tmp 48),none⟩,⟨some 50,.load 91 (.tmp 49),none⟩,⟨some 51,.indexAddr 27 (.tmp 37) (.tmp 38),none⟩,⟨none,.store 91 (.tmp 51) (.tmp 46),none⟩,⟨some 52,.indexAddr 27 (.tmp 39) (.tmp 41),none⟩,⟨none,.store 91 (.tmp 52) (.tmp 50),none⟩]
instance : Live qg5 := ⟨[0,1,2,3,8,9]⟩
instance : Rd qg5 := ⟨fun j => false⟩
def qvf : List SOp := [⟨some 35,.move (.tmp 9),none⟩,⟨some 36,.binOp .sub 3 (.tmp 35) (.const (.int .i64 1)) 3,none⟩,⟨some 9,.assign (.tmp 36),none⟩]
instance : Live qvf := ⟨[0,1,2,3,8,9]⟩
def qve : List SOp := [⟨some 15,.move (.tmp 8),none⟩,⟨some 16,.binOp .add 3 (.tmp 15) (.const (.int .i64 1)) 3,none⟩,⟨some 8,.assign (.tmp 16),none⟩]
instance : Live qve := ⟨[0,1,2,3,8]⟩
def zb1 : SC :=
 (.seq (.seq (.ops true qvg) (.cond (.tmp 34) .skip (.exit 2))) (.seq (.block 3 (.opsW [] qg5)) (.ops false qvf)))
def qhv : SC :=
 (.seq (.seq (.ops false qvi) (.cond (.tmp 14) .skip (.exit 0))) (.seq (.block 1 (.seq (.ops false qvh) (.block 2 (.loop zb1)))) (.ops false qve)))
def t_k174 : SC :=
 (.seq (.ops false qvj) (.block 0 (.loop qhv)))
theorem it_k174 : FnIs Tryz.prog 174 53 [] t_k174 := ⟨Tryz.f174, _, Tryz.func174, rfl, rfl, rfl, rfl, by kernel_rfl⟩

def qwy : List SOp := [⟨some 10,.assign (.const (.bool true)),none⟩]
instance : Live qwy := ⟨[0,1,2,3,4]⟩
def qwx : List SOp := [⟨some 11,.assign (.const (.bool true)),none⟩]
instance : Live qwx := ⟨[0,1,2,3,4,10]⟩
def qww : List SOp := [⟨some 21,.move (.tmp 2),none⟩,⟨some 22,.move (.tmp 1),none⟩,⟨some 23,.binOp .sub 3 (.tmp 21) (.tmp 22) 3,none⟩,⟨some 12,.assign (.tmp 23),none⟩]
instance : Live qww := ⟨[0,1,2,3,4,10,11]⟩
def qwv : List SOp := [⟨some 24,.move (.tmp 12),none⟩,⟨some 25,.binOp .leq 3 (.tmp 24) (.const (.int .i64 12)) 3,none⟩]
instance : Live qwv := ⟨[0,1,2,3,4,10,11,12]⟩
def qwu : List SOp := [⟨some 26,.move (.tmp 0),none⟩,⟨some 27,.move (.tmp 1),none⟩,⟨some 28,.move (.tmp 2),none⟩,⟨some 29,.move (.tmp 4),none⟩,⟨some 30,.call ⟨.value (.func 174),#[.tmp 26,.tmp 27,.tmp 28,.tmp 29],#[27,3,3,148]⟩,none⟩]
instance : Live qwu := ⟨[0,1,2,4]⟩
def qwt : List SOp := [⟨some 31,.move (.tmp 3),none⟩,⟨some 32,.binOp .eql 3 (.tmp 31) (.const (.int .i64 0)) 3,none⟩]
instance : Live qwt := ⟨[0,1,2,3,4,10,11,12]⟩
def qws : List SOp := [⟨some 33,.move (.tmp 0),none⟩,⟨some 34,.move (.tmp 1),none⟩,⟨some 35,.move (.tmp 2),none⟩,⟨some 36,.move (.tmp 4),none⟩,⟨some 37,.call ⟨.value (.func 175),#[.tmp 33,.tmp 34,.tmp 35,.tmp 36],#[27,3,3,148]⟩,none⟩]
instance : Live qws := ⟨[0,1,2,4]⟩
def qwr : List SOp := [⟨some 38,.move (.tmp 10),none⟩,⟨some 39,.unOp .not 4 (.tmp 38),none⟩]
instance : Live qwr := ⟨[0,1,2,3,4,10,11,12]⟩
def qwq : List SOp := [⟨some 40,.move (.tmp 0),none⟩,⟨some 41,.move (.tmp 1),none⟩,⟨some 42,.move (.tmp 2),none⟩,⟨some 43,.move (.tmp 4),none⟩,⟨some 44,.call ⟨.value (.func 176),#[.tmp 40,.tmp 41,.tmp 42,.tmp 43],#[27,3,3,148]⟩,none⟩]
instance : Live qwq := ⟨[0,1,2,3,4,10,11,12]⟩
def qkg : List SOp := [⟨some 45,.move (.tmp 3),none⟩,⟨some 46,.binOp .sub 3 (.tmp 45) (.const (.int .i64 1)) 3,none⟩,⟨some 3,.assign (.tmp 46),none⟩]
instance : Live qkg := ⟨[0,1,2,3,4,10,11,12]⟩
def qkf : List SOp := [⟨some 48,.move (.tmp 0),none⟩,⟨some 49,.move (.tmp 1),none⟩,⟨some 50,.move (.tmp 2),none⟩,⟨some 51,.move (.tmp 4),none⟩,⟨some 52,.call ⟨.value (.func 177),#[.tmp 48,.tmp 49,.tmp 50,.tmp 51],#[27,3,3,148]⟩,none⟩,⟨some 47,.move (.tmp 52),none⟩,⟨some 53,.extract (.tmp 47) 0,none⟩,⟨some 54,.extract (.tmp 47) 1,none⟩,⟨some 13,.assign (.tmp 53),none⟩,⟨some 14,.assign (.tmp 54),none⟩]
instance : Live qkf := ⟨[0,1,2,3,4,10,11,12]⟩
def qke : List SOp := [⟨some 55,.move (.tmp 14),none⟩,⟨some 56,.binOp .eql 212 (.tmp 55) (.const (.int .i64 2)) 212,none⟩]
instance : Live qke := ⟨[0,1,2,3,4,10,11,12,13,14]⟩
def qkd : List SOp := [⟨some 57,.move (.tmp 0),none⟩,⟨some 58,.move (.tmp 1),none⟩,⟨some 59,.move (.tmp 2),none⟩,⟨some 60,.move (.tmp 4),none⟩,⟨some 61,.call ⟨.value (.func 178),#[.tmp 57,.tmp 58,.tmp 59,.tmp 60],#[27,3,3,148]⟩,none⟩]
instance : Live qkd := ⟨[0,1,2,3,4,10,11,12,13]⟩
def qkc : List SOp := [⟨some 62,.move (.tmp 2),none⟩,⟨some 63,.binOp .sub 3 (.tmp 62) (.const (.int .i64 1)) 3,none⟩,⟨some 64,.move (.tmp 13),none⟩,⟨some 65,.move (.tmp 1),none⟩,⟨some 66,.binOp .sub 3 (.tmp 64) (.tmp 65) 3,none⟩,⟨some 67,.binOp .sub 3 (.tmp 63) (.tmp 66) 3,none⟩,⟨some 13,.assign (.tmp 67),none⟩]
instance : Live qkc := ⟨[0,1,2,3,4,10,11,12,13]⟩
def qkb : List SOp := [⟨some 14,.assign (.const (.int .i64 1)),none⟩]
instance : Live qkb := ⟨[0,1,2,3,4,10,11,12,13]⟩
def qka : List SOp := [⟨some 68,.move (.tmp 10),none⟩,⟨some 69,.move (.tmp 68),none⟩,⟨some 70,.move (.tmp 11),some ((some 69),true)⟩,⟨some 71,.pick (.tmp 69) (.tmp 70) (.const (.bool false)),none⟩,⟨some 72,.move (.tmp 71),none⟩,⟨some 73,.move (.tmp 14),some ((some 72),true)⟩,⟨some 74,.binOp .eql 212 (.tmp 73) (.const (.int .i64 1)) 212,some ((some 72),true)⟩,⟨some 75,.pick (.tmp 72) (.tmp 74) (.const (.bool false)),none⟩]
instance : Live qka := ⟨[0,1,2,3,4,10,11,12,13,14]⟩
def qk9 : List SOp := [⟨some 76,.move (.tmp 0),none⟩,⟨some 77,.move (.tmp 1),none⟩,⟨some 78,.move (.tmp 2),none⟩,⟨some 79,.move (.tmp 4),none⟩,⟨some 80,.call ⟨.value (.func 179),#[.tmp 76,.tmp 77,.tmp 78,.tmp 79],#[27,3,3,148]⟩,none⟩]
instance : Live qk9 := ⟨[0,1,2,3,4,10,11,12,13]⟩
def qk8 : List SOp := [⟨some 81,.move (.tmp 1),none⟩,⟨some 82,.binOp .gtr 3 (.tmp 81) (.const (.int .i64 0)) 3,none⟩,⟨some 83,.move (.tmp 82),none⟩,⟨some 84,.move (.tmp 4),some ((some 83),true)⟩,⟨some 85,.move (.tmp 0),some ((some 83),true)⟩,⟨some 86,.move (.tmp 1),some ((some 83),true)⟩,⟨some 87,.binOp .sub 3 (.tmp 86) (.const (.int .i64 1)) 3,some ((some 83),true)⟩,⟨some 88,.indexAddr 27 (.tmp 85) (.tmp 87),some ((some 83),true)⟩,⟨some 89,.load 91 (.tmp 88),some ((some 83),true)⟩,⟨some 90,.move (.tmp 0),some ((some 83),true)⟩,⟨some 91,.move (.tmp 13),some ((some 83),true)⟩,⟨some 92,.indexAddr 27 (.tmp 90) (.tmp 91),some ((some 83),true)⟩,⟨some 93,.load 91 (.tmp 92),some ((some 83),true)⟩,⟨some 94,.call ⟨.value (.tmp 84),#[.tmp 89,.tmp 93],#[91,91]⟩,some ((some 83),true)⟩,⟨some 95,.binOp .lss 3 (.tmp 94) (.const (.int .i64 0)) 3,some ((some 83),true)⟩,⟨some 96,.unOp .not 4 (.tmp 95),some ((some 83),true)⟩,⟨some 97,.pick (.tmp 83) (.tmp 96) (.const (.bool false)),none⟩]
instance : Live qk8 := ⟨[0,1,2,3,4,10,11,12,13]⟩
def qk7 : List SOp := [⟨some 98,.move (.tmp 0),none⟩,⟨some 99,.move (.tmp 1),none⟩,⟨some 100,.move (.tmp 2),none⟩,⟨some 101,.move (.tmp 13),none⟩,⟨some 102,.move (.tmp 4),none⟩,⟨some 103,.call ⟨.value (.func 180),#[.tmp 98,.tmp 99,.tmp 100,.tmp 101,.tmp 102],#[27,3,3,3,148]⟩,none⟩,⟨some 15,.assign (.tmp 103),none⟩]
instance : Live qk7 := ⟨[0,1,2,3,4,10,11,13]⟩
def qk6 : List SOp := [⟨some 104,.move (.tmp 15),none⟩,⟨some 1,.assign (.tmp 104),none⟩]
instance : Live qk6 := ⟨[0,2,3,4,10,11,15]⟩
def qk5 : List SOp := [⟨some 106,.move (.tmp 0),none⟩,⟨some 107,.move (.tmp 1),none⟩,⟨some 108,.move (.tmp 2),none⟩,⟨some 109,.move (.tmp 13),none⟩,⟨some 110,.move (.tmp 4),none⟩,⟨some 111,.call ⟨.value (.func 181),#[.tmp 106,.tmp 107,.tmp 108,.tmp 109,.tmp 110],#[27,3,3,3,148]⟩,none⟩,⟨some 105,.move (.tmp 111),none⟩,⟨some 112,.extract (.tmp 105) 0,none⟩,⟨some 113,.extract (.tmp 105) 1,none⟩,⟨some 16,.assign (.tmp 112),none⟩,⟨some 17,.assign (.tmp 113),none⟩]
instance : Live qk5 := ⟨[0,1,2,3,4,12,13]⟩
def qk4 : List SOp := [⟨some 114,.move (.tmp 17),none⟩,⟨some 11,.assign (.tmp 114),none⟩]
instance : Live qk4 := ⟨[0,1,2,3,4,12,16,17]⟩
def qk3 : List SOp := [⟨some 115,.move (.tmp 16),none⟩,⟨some 116,.move (.tmp 1),none⟩,⟨some 117,.binOp .sub 3 (.tmp 115) (.tmp 116) 3,none⟩,⟨some 118,.move (.tmp 2),none⟩,⟨some 119,.move (.tmp 16),none⟩,⟨some 120,.binOp .sub 3 (.tmp 118) (.tmp 119) 3,none⟩,⟨some 18,.assign (.tmp 117),none⟩,⟨some 19,.assign (.tmp 120),none⟩]
instance : Live qk3 := ⟨[0,1,2,3,4,11,12,16]⟩
def qk2 : List SOp := [⟨some 121,.move (.tmp 12),none⟩,⟨some 122,.binOp .quo 3 (.tmp 121) (.const (.int .i64 8)) 3,none⟩,⟨some 20,.assign (.tmp 122),none⟩]
instance : Live qk2 := ⟨[0,1,2,3,4,11,12,16,18,19]⟩
def qk1 : List SOp := [⟨some 123,.move (.tmp 18),none⟩,⟨some 124,.move (.tmp 19),none⟩,⟨some 125,.binOp .lss 3 (.tmp 123) (.tmp 124) 3,none⟩]
instance : Live qk1 := ⟨[0,1,2,3,4,11,16,18,19,20]⟩
def qk0 : List SOp := [⟨some 126,.move (.tmp 18),none⟩,⟨some 127,.move (.tmp 20),none⟩,⟨some 128,.binOp .geq 3 (.tmp 126) (.tmp 127) 3,none⟩,⟨some 10,.assign (.tmp 128),none⟩]
instance : Live qk0 := ⟨[0,1,2,3,4,11,16,18,20]⟩
def qjz : List SOp := [⟨some 129,.move (.tmp 0),none⟩,⟨some 130,.move (.tmp 1),none⟩,⟨some 131,.move (.tmp 16),none⟩,⟨some 132,.move (.tmp 3),none⟩,⟨some 133,.move (.tmp 4),none⟩,⟨some 134,.call ⟨.value (.func 163),#[.tmp 129,.tmp 130,.tmp 131,.tmp 132,.tmp 133],#[27,3,3,3,148]⟩,none⟩]
instance : Live qjz := ⟨[0,1,2,3,4,10,11,16]⟩
def qjy : List SOp := [⟨some 135,.move (.tmp 16),none⟩,⟨some 136,.binOp .add 3 (.tmp 135) (.const (.int .i64 1)) 3,none⟩,⟨some 1,.assign (.tmp 136),none⟩]
instance : Live qjy := ⟨[0,2,3,4,10,11,16]⟩
def qjx : List SOp := [⟨some 137,.move (.tmp 19),none⟩,⟨some 138,.move (.tmp 20),none⟩,⟨some 139,.binOp .geq 3 (.tmp 137) (.tmp 138) 3,none⟩,⟨some 10,.assign (.tmp 139),none⟩]
instance : Live qjx := ⟨[0,1,2,3,4,11,16,19,20]⟩
def qjw : List SOp := [⟨some 140,.move (.tmp 0),none⟩,⟨some 141,.move (.tmp 16),none⟩,⟨some 142,.binOp .add 3 (.tmp 141) (.const (.int .i64 1)) 3,none⟩,⟨some 143,.move (.tmp 2),none⟩,⟨some 144,.move (.tmp 3),none⟩,⟨some 145,.move (.tmp 4),none⟩,⟨some 146,.call ⟨.value (.func 163),#[.tmp 140,.tmp 142,.tmp 143,.tmp 144,.tmp 145],#[27,3,3,3,148]⟩,none⟩]
instance : Live qjw := ⟨[0,1,2,3,4,10,11,16]⟩
def qjv : List SOp := [⟨some 147,.move (.tmp 16),none⟩,⟨some 2,.assign (.tmp 147),none⟩]
instance : Live qjv := ⟨[0,1,3,4,10,11,16]⟩
def qi2 : SC :=
 (.block 1 (.seq (.ops false qww) (.seq (.seq (.ops false qwv) (.cond (.tmp 25) (.seq (.ops false qwu) .ret) .skip)) (.seq (.seq (.ops false qwt) (.cond (.tmp 32) (.seq (.ops false qws) .ret) .skip)) (.seq (.seq (.ops false qwr) (.cond (.tmp 39) (.seq (.ops false qwq) (.ops false qkg)) .skip)) (.seq (.ops false qkf) (.seq (.seq (.ops false qke) (.cond (.tmp 56) (.seq (.ops false qkd) (.seq (.ops false qkc) (.ops false qkb))) .skip)) (.seq (.seq (.ops false qka) (.cond (.tmp 75) (.seq (.ops false qk9) (.cond (.tmp 80) .ret .skip)) .skip)) (.seq (.seq (.ops true qk8) (.cond (.tmp 97) (.seq (.ops false qk7) (.seq (.ops false qk6) (.exit 1))) .skip)) (.seq (.ops false qk5) (.seq (.ops false qk4) (.seq (.ops false qk3) (.seq (.ops false qk2) (.seq (.ops false qk1) (.cond (.tmp 125) (.seq (.ops false qk0) (.seq (.ops false qjz) (.ops false qjy))) (.seq (.ops false qjx) (.seq (.ops false qjw) (.ops false qjv))))))))))))))))))
def t_k163 : SC :=
 (.seq (.ops false qwy) (.seq (.ops false qwx) (.block 0 (.loop qi2))))
theorem it_k163 : FnIs Tryz.prog 163 148 [] t_k163 := ⟨Tryz.f163, _, Tryz.func163, rfl, rfl, rfl, rfl, by kernel_rfl⟩

def z0m : List SOp := [⟨some 5,.move (.tmp 0),none⟩,⟨some 6,.call ⟨.builtin .len,#[.tmp 5],#[27]⟩,none⟩,⟨some 4,.assign (.tmp 6),none⟩]
instance : Live z0m := ⟨[0,1]⟩
def z0l : List SOp := [⟨some 7,.move (.tmp 0),none⟩,⟨some 8,.move (.tmp 4),none⟩,⟨some 9,.move (.tmp 4),none⟩,⟨some 10,.convert 3 204 (.tmp 9),none⟩,⟨some 11,.call ⟨.value (.func 164),#[.tmp 10],#[204]⟩,none⟩,⟨some 12,.move (.tmp 1),none⟩,⟨some 13,.call ⟨.value (.func 163),#[.tmp 7,.const (.int .i64 0),.tmp 8,.tmp 11,.tmp 12],#[27,3,3,3,148]⟩,none⟩]
instance : Live z0l := ⟨[0,1,4]⟩
def t_k142 : SC :=
 (.seq (.ops false z0m) (.ops false z0l))
theorem zl3 : FnIs Tryz.prog 142 14 [] t_k142 := ⟨Tryz.f142, _, Tryz.func142, rfl, rfl, rfl, rfl, by kernel_rfl⟩

def z0k : List SOp := [⟨some 4,.assign (.const (.slice none 0 0)),none⟩]
instance : Live z0k := ⟨[0,1]⟩
def z0j : List SOp := [⟨some 8,.move (.tmp 0),none⟩,⟨some 9,.call ⟨.builtin .len,#[.tmp 8],#[27]⟩,none⟩,⟨some 10,.binOp .lss 3 (.tmp 9) (.const (.int .i64 2)) 3,none⟩]
instance : Live z0j := ⟨[0,1]⟩
def z0i : List SOp := [⟨some 11,.move (.tmp 0),none⟩,⟨some 4,.assign (.tmp 11),none⟩]
instance : Live z0i := ⟨[0]⟩
def z0h : List SOp := [⟨some 5,.assign (.const (.int .i64 1)),none⟩]
instance : Live z0h := ⟨[0,1]⟩
def z0g : List SOp := [⟨some 12,.move (.tmp 5),none⟩,⟨some 13,.move (.tmp 0),none⟩,⟨some 14,.call ⟨.builtin .len,#[.tmp 13],#[27]⟩,none⟩,⟨some 15,.binOp .lss 3 (.tmp 12) (.tmp 14) 3,none⟩]
instance : Live z0g := ⟨[0,1,5]⟩
def z0f : List SOp := [⟨some 18,.move (.tmp 1),none⟩,⟨some 19,.move (.tmp 0),none⟩,⟨some 20,.move (.tmp 5),none⟩,⟨some 21,.indexAddr 27 (.tmp 19) (.tmp 20),none⟩,⟨some 22,.load 91 (.tmp 21),none⟩,⟨some 23,.move (.tmp 0),none⟩,⟨some 24,.move (.tmp 5),none⟩,⟨some 25,.binOp .sub 3 (.tmp 24) (.const (.int .i64 1)) 3,none⟩,⟨some 26,.indexAddr 27 (.tmp 23) (.tmp 25),none⟩,⟨some 27,.load 91 (.tmp 26),none⟩,⟨some 28,.call ⟨.value (.tmp 18),#[.tmp 22,.tmp 27],#[91,91]⟩,none⟩]
instance : Live z0f := ⟨[0,1,5]⟩
def z0e : List SOp := [⟨some 29,.move (.tmp 0),none⟩,⟨some 30,.move (.tmp 5),none⟩,⟨some 31,.slice 27 (.tmp 29) (some (.tmp 30)) none none,none⟩,⟨some 6,.assign (.tmp 31),none⟩]
instance : Live z0e := ⟨[0,1,5]⟩
def z0d : List SOp := [⟨some 7,.assign (.const (.int .i64 1)),none⟩]
instance : Live z0d := ⟨[0,1,5,6]⟩
def z0c : List SOp := [⟨some 32,.move (.tmp 7),none⟩,⟨some 33,.move (.tmp 6),none⟩,⟨some 34,.call ⟨.builtin .len,#[.tmp 33],#[27]⟩,none⟩,⟨some 35,.binOp .lss 3 (.tmp 32) (.tmp 34) 3,none⟩]
instance : Live z0c := ⟨[0,1,5,6,7]⟩
def qlq : List SOp := [⟨some 38,.move (.tmp 1),none⟩,⟨some 39,.move (.tmp 6),none⟩,⟨some 40,.move (.tmp 7),none⟩,⟨some 41,.indexAddr 27 (.tmp 39) (.tmp 40),none⟩,⟨some 42,.load 91 (.tmp 41),none⟩,⟨some 43,.move (.tmp 6),none⟩,⟨some 44,.move (.tmp 7),none⟩,⟨some 45,.binOp .sub 3 (.tmp 44) (.const (.int .i64 1)) 3,none⟩,⟨some 46,.indexAddr 27 (.tmp 43) (.tmp 45),none⟩,⟨some 47,.load 91 (.tmp 46),none⟩,⟨some 48,.call ⟨.value (.tmp 38),#[.tmp 42,.tmp 47],#[91,91]⟩,none⟩,⟨some 49,.unOp .not 4 (.tmp 48),none⟩]
instance : Live qlq := ⟨[0,1,5,6,7]⟩
def qlp : List SOp := [⟨some 50,.move (.tmp 0),none⟩,⟨some 51,.move (.tmp 5),none⟩,⟨some 52,.move (.tmp 6),none⟩,⟨some 53,.move (.tmp 7),none⟩,⟨some 54,.indexAddr 27 (.tmp 52) (.tmp 53),none⟩,⟨some 55,.load 91 (.tmp 54),none⟩,⟨some 56,.indexAddr 27 (.tmp 50) (.tmp 51),none⟩,⟨none,.store 91 (.tmp 56) (.tmp 55),none⟩]
instance : Live qlp := ⟨[0,1,5,6,7]⟩
def qlo : List SOp := [⟨some 57,.move (.tmp 5),none⟩,⟨some 58,.binOp .add 3 (.tmp 57) (.const (.int .i64 1)) 3,none⟩,⟨some 5,.assign (.tmp 58),none⟩]
instance : Live qlo := ⟨[0,1,5,6,7]⟩
def qln : List SOp := [⟨some 36,.move (.tmp 7),none⟩,⟨some 37,.binOp .add 3 (.tmp 36) (.const (.int .i64 1)) 3,none⟩,⟨some 7,.assign (.tmp 37),none⟩]
instance : Live qln := ⟨[0,1,5,6,7]⟩
def qlm : List SOp := [⟨some 59,.move (.tmp 0),none⟩,⟨some 60,.move (.tmp 5),none⟩,⟨some 61,.slice 27 (.tmp 59) (some (.tmp 60)) none none,none⟩,⟨none,.call ⟨.builtin .clear,#[.tmp 61],#[27]⟩,none⟩]
instance : Live qlm := ⟨[0,5]⟩
def qll : List SOp := [⟨some 62,.move (.tmp 0),none⟩,⟨some 63,.move (.tmp 5),none⟩,⟨some 64,.slice 27 (.tmp 62) none (some (.tmp 63)) none,none⟩,⟨some 4,.assign (.tmp 64),none⟩]
instance : Live qll := ⟨[0,5]⟩
def qlk : List SOp := [⟨some 16,.move (.tmp 5),none⟩,⟨some 17,.binOp .add 3 (.tmp 16) (.const (.int .i64 1)) 3,none⟩,⟨some 5,.assign (.tmp 17),none⟩]
instance : Live qlk := ⟨[0,1,5]⟩
def qlj : List SOp := [⟨some 65,.move (.tmp 0),none⟩,⟨some 4,.assign (.tmp 65),none⟩]
instance : Live qlj := ⟨[0]⟩
def qic : SC :=
 (.seq (.seq (.ops false z0c) (.cond (.tmp 35) .skip (.exit 2))) (.seq (.block 3 (.seq (.ops true qlq) (.cond (.tmp 49) (.seq (.ops false qlp) (.ops false qlo)) .skip))) (.ops false qln)))
def qid : SC :=
 (.seq (.seq (.ops false z0g) (.cond (.tmp 15) .skip (.exit 0))) (.seq (.block 1 (.seq (.ops true z0f) (.cond (.tmp 28) (.seq (.ops false z0e) (.seq (.seq (.ops false z0d) (.block 2 (.loop qic))) (.seq (.ops false qlm) (.seq (.ops false qll) .ret)))) .skip))) (.ops false qlk)))
def zb3 : SC :=
 (.seq (.ops false z0k) (.seq (.seq (.ops false z0j) (.cond (.tmp 10) (.seq (.ops false z0i) .ret) .skip)) (.seq (.seq (.ops false z0h) (.block 0 (.loop qid))) (.seq (.ops false qlj) .ret))))
theorem zl2 : FnIs Tryz.prog 143 66 [.tmp 4] zb3 := ⟨Tryz.f143, _, Tryz.func143, rfl, rfl, rfl, rfl, by kernel_rfl⟩

theorem qh6 (xs : List AVal) (h : Int) (hh : h ≤ 1) (g : FuncId) (hs : q0k xs = true) : Ev (En Tryz.prog rfl).P 174 [.sl 3 xs, .int .i64 0, .int .i64 h, .fn g []] (.ret (.tup [])) := by
 refine Ev.of_body it_k174 (by simp) (Run.start ?_)
 unfold t_k174
 have hS := hs
 (have hF := True.intro; refine q01 (k:=?_); clear hF)
 refine Run.while (σ := Nat) (fun i => ⟨tms [(0, .sl 3 xs), (1, .int .i64 0), (2, .int .i64 h), (3, .fn g []), (8, .int .i64 1)], mms []⟩) (fun i => True) (fun i => 0) 0 (have hW := @hs; q0g) trivial ?_
 intro i _
 unfold qhv
 (have hF := True.intro; refine q01 (k:=?_); clear hF)
 exact Fin.done ⟨[], rfl, rfl, [], trivial, rfl⟩
theorem ev_pdq1 (xs : List AVal) (h lim : Int) (h0 : 0 ≤ h) (hh : h ≤ 1) (g : FuncId) (hs : q0k xs = true) : Ev (En Tryz.prog rfl).P 163 [.sl 3 xs, .int .i64 0, .int .i64 h, .int .i64 lim, .fn g []] (.ret (.tup [])) := by
 refine Ev.of_body it_k163 (by simp) (Run.start ?_)
 unfold t_k163
 have hS := hs
 have c1 := qh6 xs h hh g hs
 (have hF := True.intro; refine q01 (k:=?_); clear hF)
 refine Run.while (σ := Nat) (fun i => ⟨tms [(0, .sl 3 xs), (1, .int .i64 0), (2, .int .i64 h), (3, .int .i64 lim), (4, .fn g [])], mms []⟩) (fun i => True) (fun i => 0) 0 (have hW := @hs; q0g) trivial ?_
 intro i _
 unfold qi2
 (have hF := True.intro; refine q01 (k:=?_); clear hF)
 refine q00 [.sl 3 xs, .int .i64 0, .int .i64 h, .fn g []] (he := c1) (k:=?_)
 (have hF := True.intro; refine q01 (k:=?_); clear hF)
 exact Fin.done ⟨[], rfl, rfl, [], trivial, rfl⟩
theorem ev_len64 (x : Int) (h0 : x = 0 ∨ x = 1) : Ev (En Tryz.prog rfl).P 183 [.int .u64 x] (.ret (.int .i64 x)) := by
 refine Ev.of_body it_k183 (by simp) (Run.start ?_)
 unfold t_k183
 rcases h0 with rfl | rfl
 ·(have hF := True.intro; refine q01 (k:=?_); clear hF)
  exact Fin.tmp' (by with_unfolding_all rfl) rfl
 ·(have hF := True.intro; refine q01 (k:=?_); clear hF)
  exact Fin.tmp' (by with_unfolding_all rfl) rfl
theorem ev_len (x : Int) (h0 : x = 0 ∨ x = 1) : Ev (En Tryz.prog rfl).P 164 [.int .u64 x] (.ret (.int .i64 x)) := by
 refine Ev.of_body it_k164 (by simp) (Run.start ?_)
 unfold t_k164
 (have hF := True.intro; refine q01 (k:=?_); clear hF)
 refine q00 [.int .u64 x] (he := ev_len64 x h0) (k:=?_)
 (have hF := True.intro; refine q01 (k:=?_); clear hF)
 exact Fin.tmp' rfl rfl
theorem ev_sort1 (xs : List AVal) (hl : xs.length ≤ 1) (g : FuncId) (hs : q0k xs = true) : Ev (En Tryz.prog rfl).P 142 [.sl 3 xs, .fn g []] (.ret (.tup [])) := by
 refine Ev.of_body zl3 (by simp) (Run.start ?_)
 unfold t_k142
 have hS := hs
 have c1 := ev_len xs.length (by omega)
 have c2 := ev_pdq1 xs xs.length xs.length (by omega) (by omega) g hs
 have hwr : IntKind.u64.wrap (xs.length : Int) = (xs.length : Int) := by
  rcases Nat.lt_or_ge xs.length 1 with h | h
  ·rw [show xs.length = 0 by omega]; rfl
  ·rw [show xs.length = 1 by omega]; rfl
 (have hF := @hwr; refine q01 (k:=?_); clear hF)
 refine q00 [.int .u64 xs.length] (he := c1) (k:=?_)
 (have hF := True.intro; refine q01 (k:=?_); clear hF)
 refine q00 [.sl 3 xs, .int .i64 0, .int .i64 xs.length, .int .i64 xs.length, .fn g []] (he := c2) (k:=?_)
 (have hF := True.intro; refine q01 (k:=?_); clear hF)
 exact Fin.done ⟨[], rfl, rfl, [], trivial, rfl⟩
theorem qqe (xs : List AVal) (hl : xs.length ≤ 1) (g : FuncId) (hs : q0k xs = true) : Ev (En Tryz.prog rfl).P 143 [.sl 3 xs, .fn g []] (.ret (.sl 3 xs)) := by
 refine Ev.of_body zl2 (by simp) (Run.start ?_)
 unfold zb3
 (have hF := True.intro; refine q01 (k:=?_); clear hF)
 exact Fin.tmp' rfl hs

def z4p : List SOp := [⟨some 2,.assign (.const (.slice none 0 0)),none⟩,⟨some 3,.assign (.const (.int .i64 0)),none⟩]
instance : Live z4p := ⟨[0]⟩
def z4o : List SOp := [⟨some 4,.assign (.const (.slice none 0 0)),none⟩]
instance : Live z4o := ⟨[0]⟩
def z4n : List SOp := [⟨some 7,.move (.tmp 0),none⟩,⟨some 8,.call ⟨.builtin .len,#[.tmp 7],#[27]⟩,none⟩,⟨some 9,.move (.const (.int .i64 0)),none⟩]
instance : Live z4n := ⟨[0,4]⟩
def z4m : List SOp := [⟨some 10,.binOp .lss 3 (.tmp 9) (.tmp 8) 3,none⟩]
instance : Live z4m := ⟨[4,7,8,9]⟩
def z4l : List SOp := [⟨some 11,.indexAddr 27 (.tmp 7) (.tmp 9),none⟩,⟨some 12,.load 91 (.tmp 11),none⟩,⟨some 6,.alloc 91,none⟩,⟨none,.store 91 (.tmp 6) (.tmp 12),none⟩]
instance : Live z4l := ⟨[4,7,8,9]⟩
def z4k : List SOp := [⟨some 13,.fieldAddr 91 (.tmp 6) 0,none⟩,⟨some 14,.load 9 (.tmp 13),none⟩,⟨some 15,.binOp .neq 9 (.tmp 14) (.const (.string ⟨#[]⟩)) 9,none⟩,⟨some 16,.move (.tmp 15),none⟩,⟨some 17,.fieldAddr 91 (.tmp 6) 0,some ((some 16),true)⟩,⟨some 18,.load 9 (.tmp 17),some ((some 16),true)⟩,⟨some 19,.call ⟨.value (.func 137),#[.tmp 18],#[9]⟩,some ((some 16),true)⟩,⟨some 20,.unOp .not 4 (.tmp 19),some ((some 16),true)⟩,⟨some 21,.pick (.tmp 16) (.tmp 20) (.const (.bool false)),none⟩]
instance : Live z4k := ⟨[4,6,7,8,9]⟩
def z4j : List SOp := [⟨some 2,.assign (.const (.slice none 0 0)),none⟩,⟨some 3,.assign (.const (.int .i64 5)),none⟩]
instance : Live z4j := ⟨[]⟩
def z4i : List SOp := [⟨some 22,.fieldAddr 91 (.tmp 6) 1,none⟩,⟨some 23,.load 26 (.tmp 22),none⟩,⟨some 24,.call ⟨.value (.func 92),#[.tmp 23],#[26]⟩,none⟩,⟨some 25,.unOp .not 4 (.tmp 24),none⟩]
instance : Live z4i := ⟨[4,6,7,8,9]⟩
def z4h : List SOp := [⟨some 26,.move (.tmp 4),none⟩,⟨some 27,.load 91 (.tmp 6),none⟩,⟨some 28,.call ⟨.value (.func 108),#[.tmp 27],#[91]⟩,none⟩,⟨some 29,.buildSlice 27 1 #[(0,.tmp 28)],none⟩,⟨some 30,.call ⟨.builtin .append,#[.tmp 26,.tmp 29],#[27,27]⟩,none⟩,⟨some 4,.assign (.tmp 30),none⟩]
instance : Live z4h := ⟨[4,6,7,8,9]⟩
def qn6 : List SOp := [⟨some 31,.binOp .add 3 (.tmp 9) (.const (.int .i64 1)) 3,none⟩,⟨some 9,.move (.tmp 31),none⟩]
instance : Live qn6 := ⟨[4,7,8,9]⟩
def qn5 : List SOp := [⟨some 32,.move (.tmp 4),none⟩,⟨some 33,.call ⟨.value (.func 142),#[.tmp 32,.func 106],#[27,148]⟩,none⟩]
instance : Live qn5 := ⟨[4]⟩
def qn4 : List SOp := [⟨some 34,.move (.tmp 4),none⟩,⟨some 35,.call ⟨.value (.func 143),#[.tmp 34,.func 144],#[27,164]⟩,none⟩,⟨some 2,.assign (.tmp 35),none⟩,⟨some 3,.assign (.const (.int .i64 0)),none⟩]
instance : Live qn4 := ⟨[4]⟩
def qiv : SC :=
 (.seq (.ops false z4m) (.seq (.cond (.tmp 10) .skip (.exit 0)) (.seq (.block 1 (.seq (.ops false z4l) (.seq (.seq (.ops false z4k) (.cond (.tmp 21) (.seq (.ops false z4j) .ret) .skip)) (.seq (.ops false z4i) (.cond (.tmp 25) (.ops false z4h) .skip))))) (.ops false qn6))))
def t_k113 : SC :=
 (.seq (.ops false z4p) (.seq (.ops false z4o) (.seq (.seq (.ops false z4n) (.block 0 (.loop qiv))) (.seq (.ops false qn5) (.seq (.ops false qn4) .ret)))))
theorem it_k113 : FnIs Tryz.prog 113 36 [.tmp 2, .tmp 3] t_k113 := ⟨Tryz.f113, _, Tryz.func113, rfl, rfl, rfl, rfl, by kernel_rfl⟩

def q52 (l : List Rec) : List Rec := (l.filter fun r => !decide (q3e r.past = 0)).map fun r => ⟨r.sku, q16 r.past⟩
theorem z9b {l : List Rec} {i : Nat} {r : Rec} (h : l[i]? = some r) : q52 (l.take (i + 1)) = q52 (l.take i) ++ if q3e r.past = 0 then [] else [⟨r.sku, q16 r.past⟩] := by
 unfold q52
 rw [List.take_add_one, h, List.filter_append, List.map_append]
 by_cases hc : q3e r.past = 0 <;> simp [hc]
theorem qnw (l : List Rec) : (q52 l).length ≤ l.length := by
 unfold q52
 rw [List.length_map]
 exact List.length_filter_le _ _

section
open Go.Shelf Go.RowKit Go.Lib Go.Sort
theorem SWO.pull {α β : Type} {lt : α → α → Bool} (h : SWO lt) (f : β → α) : SWO fun x y => lt (f x) (f y) :=
 ⟨fun x => h.irrefl _, fun x y z => h.trans _ _ _, fun x y z => h.ntrans _ _ _⟩
section
variable {P : Program} {ρ : Ren} {τ : Type}
theorem sortOwnR (L : SlLaysF0.n6 P ρ) (hc6 : Callable P (ρ.f 6)) (k : Nat) (h0k : 0 < k) (aE : ∀ w, (isAgg (ρ.t 24)).run P w = .ok true w) (zE : ∀ w, (Go.sizeOf (ρ.t 24)).run P w = .ok k w)
 (c : τ → List AVal) (hk : ∀ x, (c x).length = k) (hst : ∀ x, q0k (c x) = true) (h1c : ∀ x, ∀ y ∈ c x, y.one = true) (cf : τ → τ → Int) (hO : SWO (ltOf cf)) (g : FuncId) (l : List τ) (hl0 : 0 < l.length) (hl : l.length < 4611686018427387904)
 (hcmp : ∀ x ∈ l, ∀ y ∈ l, Ev P g [.agg (c x), .agg (c y)] (.ret (.int .i64 (cf x y)))) :
 ∃ s : List τ, s.Perm l ∧ s.Pairwise (fun x y => ltOf cf y x = false) ∧ EvOwn P (ρ.f 6) [.undef, .fn g []] 0 k (l.map fun x => .agg (c x)) false (.tup []) (s.map fun x => .agg (c x)) := by
 let τ' := _root_.Fin l.length
 let lx : τ' → τ := fun i => l[i]
 letI : Inhabited τ' := ⟨⟨0, hl0⟩⟩
 let cf' : τ' → τ' → Int := fun i j => cf (lx i) (lx j)
 let c' : τ' → List AVal := fun i => c (lx i)
 have hO' : SWO (ltOf cf') := SWO.pull hO lx
 have hmem : ∀ i : τ', lx i ∈ l := fun i => List.getElem_mem _
 have hdl : (List.finRange l.length).map lx = l := by
  apply List.ext_getElem
  ·rw [List.length_map, List.length_finRange]
  ·intro i h1 h2
   rw [List.getElem_map, List.getElem_finRange]
   rfl
 let d : Array τ' := (List.finRange l.length).toArray
 let d' := pdq (ltOf cf') d 0 d.size (Lib.bitLen d.size) true true
 have hds : d.size = l.length := by
  show (List.finRange l.length).toArray.size = _
  rw [List.size_toArray, List.length_finRange]
 obtain ⟨hp, hsrt⟩ := pdq_sorts (ltOf cf') hO' d 0 d.size (Lib.bitLen d.size) true true (Nat.zero_le _) (Nat.le_refl _) (Or.inl rfl)
 have hsz' : d'.size = d.size := hp.1
 have hperm : d'.toList.Perm (List.finRange l.length) := by
  have := hp.2.2
  have e : ∀ (x : Array τ') (n : Nat), x.size = n → x.extract 0 n = x := by rintro x n rfl; exact Array.extract_size
  rw [e d _ rfl, e _ _ hsz'] at this
  simpa [d] using this
 have hpw : d'.toList.Pairwise (fun x y => ltOf cf' y x = false) := by
  rw [List.pairwise_iff_getElem]
  intro i j hi hj hij
  have h1 : i < d'.size := by simpa using hi
  have h2 : j < d'.size := by simpa using hj
  have := hsrt i j (Nat.zero_le _) hij (by rw [← hsz']; exact h2)
  rw [show (pdq (ltOf cf') d 0 d.size (Lib.bitLen d.size) true true) = d' from rfl, getElem!_pos d' i h1, getElem!_pos d' j h2] at this
  simpa using this
 refine ⟨d'.toList.map lx, ?_, ?_, hc6, fun B w vs G hkey hvs hv hown hB hol => ?_⟩
 ·have := hperm.map lx
  rwa [hdl] at this
 ·rw [List.pairwise_map]
  exact hpw
 obtain ⟨v0, hv0, hown⟩ := hown
 obtain ⟨v1, hv1⟩ : ∃ v, vs[1]? = some v := ⟨vs[1]'(by rw [hvs]; simp), by simp [hvs]⟩
 have hfn := hv 1 (.fn g []) v1 (by decide) rfl hv1
 have hf1 : v1 = .func (.func g) #[] #[] := by
  cases hfn with
  | fn _ _ ws hl0 _ =>
   have : ws = #[] := Array.eq_empty_of_size_eq_zero (by simpa using hl0)
   rw [this]
 have hvs' : vs = #[v0, v1] := by
  have h2 : vs.size = 2 := hvs
  apply Array.ext_getElem?
  intro i
  match i with
  | 0 => simpa using hv0
  | 1 => simpa using hv1
  | i + 2 => rw [Array.getElem?_eq_none (by omega)]; simp
 rw [hvs', hf1]
 rcases hown with ⟨rfl, hnil⟩ | ⟨b, off, cap, cc, el, hb1, hb2, hb3, hb4, hb5, hb6, hb7, hb8, hb9⟩
 ·have : l = [] := by simpa using hnil
  rw [this] at hl0
  simp at hl0
 ·rw [q3u] at hb8 hb9
  have hblk : b < w.heap.size := by
   rcases Nat.lt_or_ge b w.heap.size with h | h
   ·exact h
   ·rw [Array.getElem?_eq_none h] at hb5; cases hb5
  have hlen : (l.map fun x => AVal.agg (c x)).length = l.length := by simp
  rw [hlen] at hb1 hb2
  have hroom : off + l.length * k ≤ cc.size := by
   have := Nat.mul_le_mul_right k hb2
   omega
  let enc : τ' → List Value := fun i => (List.range k).map fun j => cc.getD (off + (i.val * k + j)) undef
  have hek : ∀ x, (enc x).length = k := fun x => by simp [enc]
  have cellE : ∀ (i : τ') (j : Nat) (y : AVal), (c' i)[j]? = some y → ∃ u, (enc i)[j]? = some u ∧ cc[off + (i.val * k + j)]? = some u ∧ VR (Dm NoM) G B w y u := by
   intro i j y hy
   have hj : j < k := by
    rw [← hk (lx i)]
    rcases Nat.lt_or_ge j (c' i).length with h | h
    ·exact h
    ·rw [List.getElem?_eq_none h] at hy; cases hy
   obtain ⟨u, hu, hr⟩ := hb9 (i.val * k + j) y (by rw [qac hk (x := lx i) (List.getElem?_eq_getElem i.isLt) hj]; exact hy)
   exact ⟨u, by simp [enc, hj, hu], hu, hr⟩
  have encOf : ∀ (i : τ') (u : Value), u ∈ enc i → ∃ (j : Nat) (y : AVal), (c' i)[j]? = some y ∧ (enc i)[j]? = some u := by
   intro i u hu
   obtain ⟨j, hj, hu'⟩ := List.getElem_of_mem hu
   have hj' : j < (c' i).length := by rw [hk]; rwa [hek] at hj
   exact ⟨j, _, List.getElem?_eq_getElem hj', by rw [← hu']; exact List.getElem?_eq_getElem hj⟩
  have he1 : ∀ x, ∀ v ∈ enc x, v.oneCell' = true := fun x v hv => by
   obtain ⟨j, y, hy, hu⟩ := encOf x v hv
   obtain ⟨u, hu2, _, hr⟩ := cellE x j y hy
   rw [hu] at hu2
   cases hu2
   exact hr.oneCell (h1c (lx x) y (List.mem_of_getElem? hy))
  have cellv : ∀ (m : Array τ') (t : Nat), t < m.size * k → ∃ (x : τ') (y : AVal) (u : Value), m.toList[t / k]? = some x ∧ (c' x)[t % k]? = some y ∧ ((m.toList.map lx).flatMap c)[t]? = some y ∧ (flatK enc k m)[t]! = u ∧ cc[off + (x.val * k + t % k)]? = some u ∧ VR (Dm NoM) G B w y u := by
   intro m t ht
   have h1 : t / k < m.size := Nat.div_lt_of_lt_mul (by rw [Nat.mul_comm]; exact ht)
   have h2 : t % k < k := Nat.mod_lt _ h0k
   have hx : m.toList[t / k]? = some m[t / k] := by simp [h1]
   have hy : (c' m[t / k])[t % k]? = some ((c' m[t / k])[t % k]'(by rw [hk]; exact h2)) := by simp [hk, h2]
   obtain ⟨u, hu1, hu2, hr⟩ := cellE m[t / k] (t % k) _ hy
   refine ⟨m[t / k], _, u, hx, hy, ?_, ?_, hu2, hr⟩
   ·have hx' : (m.toList.map lx)[t / k]? = some (lx m[t / k]) := by rw [List.getElem?_map, hx]; rfl
    rw [← hy, ← qac hk hx' h2, Nat.mul_comm, Nat.div_add_mod]
   ·rw [get_flatK _ _ _ _ ht, getElem!_pos m _ h1, getElem!_pos (enc m[t / k]) _ (by rw [hek]; exact h2)]
    rw [List.getElem?_eq_getElem (by rw [hek]; exact h2)] at hu1
    exact Option.some.inj hu1
  have hdget : ∀ (t : Nat) (x : τ'), d.toList[t]? = some x → x.val = t := by
   intro t x hx
   have hx : (List.finRange l.length)[t]? = some x := hx
   rw [List.getElem?_eq_some_iff] at hx
   obtain ⟨h1, h2⟩ := hx
   rw [List.getElem_finRange] at h2
   rw [← h2]
   rfl
  have hH : HoldsK enc k w b off d := by
   intro t ht
   rw [size_flatK, hds] at ht
   obtain ⟨x, y, u, e1, e2, e3, e4, e5, e6⟩ := cellv d t (by rw [hds]; exact ht)
   have hx := hdget _ _ e1
   have hidx : x.val * k + t % k = t := by rw [hx, Nat.mul_comm]; exact Nat.div_add_mod t k
   rw [hidx] at e5
   refine ⟨?_, ?_⟩
   ·rw [q35 hb5, e5, e4]; rfl
   ·simp [World.frozen?, hb5]
  have hbg : G.ow b ≠ none := by rw [hb3]; simp
  have hwk : ∀ (m : Nat) (os : Array Obj) (dk : Array τ') (b' : Nat), b' < w.heap.size → (sortWorldK enc k w b off m dk os).heap[b']? = if b' = b then some (.cells (putCells id off (flatK enc k dk) cc) el (0, 0)) else w.heap[b']? := by
   intro m os dk b' hb'
   simp only [sortWorldK, grow, putRowK, putRow, mapBlock, Sort.ahead]
   rw [Array.getElem?_append_left (by simpa using hb'), Array.getElem?_modify]
   by_cases hbb : b = b'
   ·subst hbb
    rw [if_pos rfl, if_pos rfl, hb5]
    rfl
   ·rw [if_neg hbb, if_neg (Ne.symm hbb)]
  have hstw : ∀ (m : Nat) (os : Array Obj) (dk : Array τ') (G' : Gh) (B' : Nat → Prop), (∀ b', G.ow b' = none → G'.ow b' = none) → (∀ b', B' b' → B b') → ∀ (y : AVal) (u : Value), y.stb = true → VR (Dm NoM) G B w y u → VR (Dm NoM) G' B' (sortWorldK enc k w b off m dk os) y u := by
   intro m os dk G' B' hG hBB y u hy hr
   refine hr.stable (fun b' hb' hn ho => ⟨?_, fun hc => hn (hBB _ hc), hG _ ho⟩) hy
   rw [hwk m os dk b' hb', if_neg]
   rintro rfl
   exact hbg ho
  have hlays : CmpLays P g #[] enc k cf' b off d.size w := by
   intro m os dk hdk x y
   have hone : ∀ x : τ', VR (Dm NoM) { G with ow := fun _ => none } (fun _ => False) (sortWorldK enc k w b off m dk os) (.agg (c' x)) (.agg (enc x).toArray) := fun x => by
    refine .agg _ _ (by simp [hek, c', hk]) fun n z v hz hv => ?_
    obtain ⟨u, hu, _, hr⟩ := cellE x n z hz
    rw [List.getElem?_toArray, hu] at hv
    rw [← Option.some.inj hv]
    exact hstw m os dk _ _ (fun _ _ => rfl) (fun _ h => False.elim h) z u (q3s (hst (lx x)) hz) hr
   have hE := (hcmp _ (hmem x) _ (hmem y)).2 (fun _ => False) (sortWorldK enc k w b off m dk os) #[.agg (enc x).toArray, .agg (enc y).toArray] { G with ow := fun _ => none } (fun _ => rfl) rfl (fun i z v hz hv => ?_) (fun _ h => h.elim)
   ·refine hE.mono ?_
    rintro e w' ⟨G', v', hG', hA, he, hr⟩
    cases hr
    exact ⟨he, hA.grown (fun _ => rfl)⟩
   ·match i with
    | 0 => simp at hz hv; subst hz; subst hv; exact hone x
    | 1 => simp at hz hv; subst hz; subst hv; exact hone y
    | i + 2 => simp at hz
  have eg : ∀ args w, (callFunc g args).run P w = .ok (.enter g args) w := fun args w => by
   obtain ⟨fn, hfn, hnm, hbd⟩ := (hcmp _ (hmem default) _ (hmem default)).1.ok
   have e1 : (fn.name = "runtime.NumGoroutine") = False := by simpa using hnm
   have e2 : (fn.body = none) = False := by simp only [eq_iff_iff, iff_false]; intro hn; rw [hn] at hbd; simp at hbd
   simp [callFunc, hfn, e1, e2]
  have hmain := AnyQ.slices_SortFunc_eq L k aE zE enc hek he1 cf' hO' g #[] b off cap d w eg hlays hH hblk (by rw [hds]; exact hl)
  rw [hb1, show l.length = d.size by rw [hds]]
  refine hmain.mono ?_
  rintro e w' ⟨rfl, n, os, hw'⟩
  have hw0 : ∀ b', b' < w.heap.size → w'.heap[b']? = if b' = b then some (.cells (putCells id off (flatK enc k d') cc) el (0, 0)) else w.heap[b']? := by
   intro b' hb'
   rw [hw']
   exact hwk _ _ _ _ hb'
  have hsize : w.heap.size ≤ w'.heap.size := by
   rw [hw']
   simp [sortWorldK, grow, putRowK, putRow, mapBlock, Sort.ahead]
  have hkeep : ∀ b', b' < w.heap.size → G.ow b' = none → w'.heap[b']? = w.heap[b']? ∧ G.ow b' = none := fun b' hb' ho => by
   refine ⟨?_, ho⟩
   rw [hw0 b' hb', if_neg]
   rintro rfl
   rw [hb3] at ho; cases ho
  have hA : Adv G w G w' := ⟨by rw [hw']; exact ⟨rfl, Nat.le_add_right _ _⟩, by rw [hw']; rfl, by rw [hw']; rfl, hsize, hkeep⟩
  refine ⟨G, .tuple #[], v0, rfl, hkey, fun b' hb' => Nat.lt_of_lt_of_le (hol b' hb') hsize, hA, .inr ⟨b, off, cap, putCells id off (flatK enc k d') cc, el, ?_, ?_, hb3, hb4, ?_, ?_, ?_, ?_, ?_⟩, fun h => (by cases h), fun _ => ⟨by simp [hb1, hds], .tup [] #[] rfl fun n x v hx => by simp at hx⟩⟩
  ·rw [hb1]; simp [hsz', hds]
  ·simp only [List.length_map, Array.length_toList, hsz', hds]; exact hb2
  ·rw [hw0 b hblk, if_pos rfl]
  ·simp only [putCells, Array.size_mapIdx]; exact hb6
  ·intro x hx
   obtain ⟨z, _, rfl⟩ := List.mem_map.1 hx
   exact hk z
  ·intro x hx
   rw [q3u] at hx
   obtain ⟨z, _, hz⟩ := List.mem_flatMap.1 hx
   exact h1c z x hz
  ·intro t x hx
   rw [q3u] at hx
   have htl : t < d'.size * k := by
    have h1 : t < ((d'.toList.map lx).flatMap c).length := by
     rcases Nat.lt_or_ge t ((d'.toList.map lx).flatMap c).length with h | h
     ·exact h
     ·rw [List.getElem?_eq_none h] at hx; cases hx
    rwa [← q3u, q0q (sz := k) (fun y hy => by obtain ⟨z, _, rfl⟩ := List.mem_map.1 hy; exact hk z), List.length_map, List.length_map, Array.length_toList] at h1
   obtain ⟨z, y, u, e1, e2, e3, e4, e5, e6⟩ := cellv d' t htl
   rw [hx] at e3
   cases e3
   have hlt : off + t < cc.size := by rw [hsz', hds] at htl; omega
   refine ⟨u, ?_, ?_⟩
   ·simp only [putCells, Array.getElem?_mapIdx, Array.getElem?_eq_getElem hlt, Option.map_some]
    rw [if_pos ⟨by omega, by rw [size_flatK]; omega⟩, show off + t - off = t by omega, e4]
    rfl
   ·rw [hw']
    exact hstw _ _ _ G B (fun _ h => h) (fun _ h => h) x u (q3s (hst (lx z)) e2) e6
end
end
section
open Go.Proofs Go.Shelf Go.RowKit Go.Lib Go.Sort
def qd4 : Go.Shelf.Ren := ⟨fun | 6 => 142 | 15 => 164 | 14 => 163 | 28 => 182 | 29 => 183 | 20 => 174 | 21 => 175 | 22 => 176 | 23 => 177 | 24 => 178 | 25 => 179 | 26 => 180 | 27 => 181 | 46 => 188 | 47 => 189 | 48 => 190 | 49 => 191 | 50 => 192 | 57 => 197 | n => n, fun | 22 => 27 | 24 => 91 | 25 => 148 | 3 => 3 | 39 => 204 | 0 => 0 | 53 => 220 | 55 => 79 | 4 => 4 | 46 => 213 | 45 => 212 | 50 => 217 | 5 => 5 | 9 => 9 | 66 => 227 | 70 => 231 | 76 => 234 | 77 => 205 | n => n, fun | n => n⟩
theorem qq0 : Go.Proofs.SlLaysF0.n6 Tryz.prog qd4 where
 mixed := by kernel_rfl
 f6 := ⟨Tryz.f142.name, by decide, Tryz.func142.trans (congrArg some (by kernel_rfl))⟩
 f14 := ⟨Tryz.f163.name, by decide, Tryz.func163.trans (congrArg some (by kernel_rfl))⟩
 f15 := Tryz.func164.trans (congrArg some (by kernel_rfl))
 f20 := ⟨Tryz.f174.name, by decide, Tryz.func174.trans (congrArg some (by kernel_rfl))⟩
 f21 := ⟨Tryz.f175.name, by decide, Tryz.func175.trans (congrArg some (by kernel_rfl))⟩
 f22 := ⟨Tryz.f176.name, by decide, Tryz.func176.trans (congrArg some (by kernel_rfl))⟩
 f23 := ⟨Tryz.f177.name, by decide, Tryz.func177.trans (congrArg some (by kernel_rfl))⟩
 f24 := ⟨Tryz.f178.name, by decide, Tryz.func178.trans (congrArg some (by kernel_rfl))⟩
 f25 := ⟨Tryz.f179.name, by decide, Tryz.func179.trans (congrArg some (by kernel_rfl))⟩
 f26 := ⟨Tryz.f180.name, by decide, Tryz.func180.trans (congrArg some (by kernel_rfl))⟩
 f27 := ⟨Tryz.f181.name, by decide, Tryz.func181.trans (congrArg some (by kernel_rfl))⟩
 f28 := Tryz.func182.trans (congrArg some (by kernel_rfl))
 f29 := Tryz.func183.trans (congrArg some (by kernel_rfl))
 f46 := ⟨Tryz.f188.name, by decide, Tryz.func188.trans (congrArg some (by kernel_rfl))⟩
 f47 := Tryz.func189.trans (congrArg some (by kernel_rfl))
 f48 := Tryz.func190.trans (congrArg some (by kernel_rfl))
 f49 := ⟨Tryz.f191.name, by decide, Tryz.func191.trans (congrArg some (by kernel_rfl))⟩
 f50 := ⟨Tryz.f192.name, by decide, Tryz.func192.trans (congrArg some (by kernel_rfl))⟩
 f57 := ⟨Tryz.f197.name, by decide, Tryz.func197.trans (congrArg some (by kernel_rfl))⟩
 t0 := Tryz.underlying0
 a0 := Tryz.isAgg0
 z0 := Tryz.sizeOf0
 v0 := Tryz.zeroValue0
 t3 := Tryz.underlying3
 a3 := Tryz.isAgg3
 z3 := Tryz.sizeOf3
 v3 := Tryz.zeroValue3
 t4 := Tryz.underlying4
 a4 := Tryz.isAgg4
 z4 := Tryz.sizeOf4
 v4 := Tryz.zeroValue4
 t5 := Tryz.underlying5
 a5 := Tryz.isAgg5
 z5 := Tryz.sizeOf5
 v5 := Tryz.zeroValue5
 t9 := Tryz.underlying9
 a9 := Tryz.isAgg9
 z9 := Tryz.sizeOf9
 v9 := Tryz.zeroValue9
 t22 := Tryz.underlying27
 a22 := Tryz.isAgg27
 z22 := Tryz.sizeOf27
 v22 := Tryz.zeroValue27
 t25 := Tryz.underlying148
 a25 := Tryz.isAgg148
 z25 := Tryz.sizeOf148
 v25 := Tryz.zeroValue148
 t39 := Tryz.underlying204
 a39 := Tryz.isAgg204
 z39 := Tryz.sizeOf204
 v39 := Tryz.zeroValue204
 t45 := Tryz.underlying212
 a45 := Tryz.isAgg212
 z45 := Tryz.sizeOf212
 v45 := Tryz.zeroValue212
 t46 := Tryz.underlying213
 a46 := Tryz.isAgg213
 z46 := Tryz.sizeOf213
 v46 := Tryz.zeroValue213
 t50 := Tryz.underlying217
 a50 := Tryz.isAgg217
 z50 := Tryz.sizeOf217
 v50 := Tryz.zeroValue217
 t53 := Tryz.underlying220
 a53 := Tryz.isAgg220
 z53 := Tryz.sizeOf220
 v53 := Tryz.zeroValue220
 t55 := Tryz.underlying79
 a55 := Tryz.isAgg79
 z55 := Tryz.sizeOf79
 v55 := Tryz.zeroValue79
 t66 := Tryz.underlying227
 a66 := Tryz.isAgg227
 z66 := Tryz.sizeOf227
 v66 := Tryz.zeroValue227
 t70 := Tryz.underlying231
 a70 := Tryz.isAgg231
 z70 := Tryz.sizeOf231
 v70 := Tryz.zeroValue231
 t76 := Tryz.underlying234
 a76 := Tryz.isAgg234
 z76 := Tryz.sizeOf234
 v76 := Tryz.zeroValue234
 t77 := Tryz.underlying205
 a77 := Tryz.isAgg205
 z77 := Tryz.sizeOf205
 v77 := Tryz.zeroValue205
end
def z0b : List SOp := [⟨some 2,.box 91 (.tmp 0),none⟩,⟨some 3,.box 91 (.tmp 1),none⟩,⟨some 4,.assign (.const (.bool false)),none⟩]
instance : Live z0b := ⟨[0,1]⟩
def z0a : List SOp := [⟨some 5,.load 91 (.tmp 2),none⟩,⟨some 6,.load 91 (.tmp 3),none⟩,⟨some 7,.call ⟨.value (.func 106),#[.tmp 5,.tmp 6],#[91,91]⟩,none⟩,⟨some 8,.binOp .eql 3 (.tmp 7) (.const (.int .i64 0)) 3,none⟩,⟨some 4,.assign (.tmp 8),none⟩]
instance : Live z0a := ⟨[2,3]⟩
def t_k144 : SC :=
 (.seq (.ops false z0b) (.seq (.ops false z0a) .ret))
theorem it_k144 : FnIs Tryz.prog 144 9 [.tmp 4] t_k144 := ⟨Tryz.f144, _, Tryz.func144, rfl, rfl, rfl, rfl, by kernel_rfl⟩

section
open Go.Proofs Go.Shelf Go.RowKit Go.Lib Go.Sort
def WkQ (n : Nat) (Q : Ex → AS → Prop) : Ex → AS → Prop
 | .pan x, s => Q (.pan x) s
 | e, s => ∃ s2, Wk n s s2 ∧ Q e s2
theorem AW.wkEnd {E : Env} {n : Nat} {Q : Ex → AS → Prop} {s : AS} {x : SC} (h : AW E n x (WkQ n Q) s) : AW E n x Q s := fun c hc B G a w hR Q' hP =>
 h c hc B G a w hR Q' fun e s1 a' w' G' hA hR' hq => by
  cases e with
  | pan x => exact hP (.pan x) s1 a' w' G' hA hR' hq
  | normal => obtain ⟨s2, hw, hq2⟩ := hq; obtain ⟨G2, h2, a2⟩ := hw B G' a' w' hR'; exact hP .normal s2 a' w' G2 (hA.trans a2) h2 hq2
  | ret => obtain ⟨s2, hw, hq2⟩ := hq; obtain ⟨G2, h2, a2⟩ := hw B G' a' w' hR'; exact hP .ret s2 a' w' G2 (hA.trans a2) h2 hq2
  | exit id => obtain ⟨s2, hw, hq2⟩ := hq; obtain ⟨G2, h2, a2⟩ := hw B G' a' w' hR'; exact hP (.exit id) s2 a' w' G2 (hA.trans a2) h2 hq2
theorem qq9 (l : List Rec) (hw : ∀ r ∈ l, wt r.past ≤ 50000000) (h0 : 0 < l.length) (hl : l.length ≤ 1000000000) :
 ∃ s : List Rec, s.Perm l ∧ s.Pairwise (fun a b => q31 a b ≤ 0) ∧ EvOwn (En Tryz.prog rfl).P 142 [.undef, .fn 106 []] 0 3 (q09 l) false (.tup []) (q09 s) := by
 obtain ⟨s, h1, h2, h3⟩ := sortOwnR (τ := Rec) qq0 (FnIs.callable zl3) 3 (by decide) Tryz.isAgg91 Tryz.sizeOf91 (fun r => [.str r.sku, .sl 1 (q05 r.past.vec), .sl 3 (q0d r.past.cloud)]) (fun _ => rfl)
  (fun x => by simp [AVal.stb, q0k, q03, q04]) (fun x y hy => by simp at hy; rcases hy with rfl | rfl | rfl <;> rfl) q31 cmpR_SWO 106 l h0 (by omega) (fun x hx y hy => qh5 x y (hw x hx) (hw y hy))
 refine ⟨s, h1, h2.imp fun {a b} h => ?_, h3⟩
 unfold ltOf at h
 simp only [decide_eq_false_iff_not] at h
 have := q4l a b
 omega
theorem q8f (a b : Rec) (ha : wt a.past ≤ 50000000) (hb : wt b.past ≤ 50000000) : Ev (En Tryz.prog rfl).P 144 [q3p a, q3p b] (.ret (.bool (decide (q31 a b = 0)))) := by
 refine Ev.of_body it_k144 (by simp) (Run.start ?_)
 unfold t_k144
 have c1 := qh5 a b ha hb
 unfold q3p at c1 ⊢
 have hS := qpa
 (have hF := True.intro; refine q01 (k:=?_); clear hF)
 refine q00 [q3p a, q3p b] (he := c1) (k:=?_)
 (have hF := True.intro; refine q01 (k:=?_); clear hF)
 exact Fin.tmp' rfl rfl
theorem zmv {TE : TyE} {M : Mem} {t el : TypeId} {k e sz i n s1 b1 : Nat} {z1 : Value} {ei : TyI} {xs : List AVal} (ht : TE t = some ⟨.slice el, s1, b1, z1⟩) (he : TE el = some ei) (hM : M k = some (.arr e sz xs)) (hok : ei.okElem = true)
 (hs : sz = ei.size) (h1 : i + n ≤ xs.length) (h0 : 0 < n) : qfj TE M t (.vw k e sz i n) = some (.tup [], [(k, .arr e sz (xs.take i ++ List.replicate n ei.zeroElem ++ xs.drop (i + n)))]) := by
 simp [qfj, ht, he, hM, hok, hs, h1, h0]
theorem zn7 {E : Env} {Q : Ex → AS → Prop} {r : List SOp} {T : q1y} {M : Mem} {a : Tmp} {t el : TypeId} {k e sz i n s1 b1 : Nat} {z1 : Value} {ei : TyI} {xs : List AVal} (hx : T a = .vw k e sz i n) (hM : M k = some (.arr e sz xs)) (ht : E.TE t = some ⟨.slice el, s1, b1, z1⟩) (he : E.TE el = some ei)
 (hok : ei.okElem = true) (hs : sz = ei.size) (h1 : i + n ≤ xs.length) (h0 : 0 < n) (kk : q0c E false none Q r ⟨T, upd M k (some (.arr e sz (xs.take i ++ List.replicate n ei.zeroElem ++ xs.drop (i + n))))⟩) :
 q0c E false none Q (⟨none, .call ⟨.builtin .clear, #[.tmp a], #[t]⟩, none⟩ :: r) ⟨T, M⟩ := by
 have h := zmv ht he hM hok hs h1 h0
 exact dv (v := .tup []) (ups := [(k, .arr e sz (xs.take i ++ List.replicate n ei.zeroElem ++ xs.drop (i + n)))]) rfl (show qfj E.TE M t (T a) = _ by rw [hx]; exact h) (by simp [z9z, qhj]) rfl kk
theorem zmh (l : List Rec) (k : Nat) (s : ByteArray) (v : List Int) (c : List Sn) : (q09 l).set k (.agg [.str s, .sl 1 (q05 v), .sl 3 (q0d c)]) = q09 (l.set k ⟨s, ⟨v, c⟩⟩) := by
 unfold q09
 rw [List.map_set]
 rfl
theorem z9v (l : List Rec) (hw : ∀ r ∈ l, wt r.past ≤ 50000000) (hl : l.length ≤ 1000000000) :
 EvOwn (En Tryz.prog rfl).P 143 [.undef, .fn 144 []] 0 3 (q09 l) true .undef (q09 (cpt l l.length)) := by
 refine EvOwn.of_body zl2 (by simp) (AW.wkEnd (Run.start ?_))
 unfold zb3 qd9
 have e1 := q0h l
 have hS := qpa
 by_cases h2 : l.length < 2
 ·rw [qbi (Nat.le_refl _) (fun j x y hj => absurd hj (by omega)), List.take_length]
  (have hF := @e1; refine q01 (k:=?_); clear hF)
  exact Fin.done ⟨_, Wk.refl _ _, _, rfl, rfl, q02 _⟩
 ·(have hF := @e1; refine q01 (k:=?_); clear hF)
  refine Run.wk (Wk.view 0 0 0 3 rfl rfl (by rw [e1]; omega)) ?_
  rw [e1]
  have h01 : ((0 + 1 : Nat) : Int) = 1 := rfl
  refine Run.while (σ := Nat) (fun j => ⟨tms [(0, .vw 0 0 3 0 l.length), (1, .fn 144 []), (5, .int .i64 ((j + 1 : Nat) : Int))], mms [(0, .arr 0 3 (q09 l))]⟩)
   (fun j => j + 1 ≤ l.length ∧ ∀ (m : Nat) x y, m + 1 < j + 1 → l[m]? = some y → l[m + 1]? = some x → q31 x y ≠ 0) (fun j => l.length - j) 0 (have hW := (aI @q02 @h01); q0g) ⟨by omega, fun m x y hm => absurd hm (by omega)⟩ ?_
  rintro j ⟨hj, hd⟩
  unfold qid
  by_cases hlt : j + 1 < l.length
  ·obtain ⟨x, hx⟩ : ∃ x, l[j + 1]? = some x := ⟨l[j + 1], by simp [hlt]⟩
   obtain ⟨y, hy⟩ : ∃ y, l[j]? = some y := ⟨l[j], by simp [show j < l.length by omega]⟩
   have g1 := q0o hx
   have g2 := q0o hy
   have w1 : IntKind.i64.wrap (((j + 1 : Nat) : Int) - 1) = (j : Int) := by rw [q2i (by omega)]; omega
   have n1 : ((j + 1 : Nat) : Int).toNat = j + 1 := Int.toNat_natCast _
   have n2 : (j : Int).toNat = j := Int.toNat_natCast _
   have c1 := q8f x y (hw x (List.mem_of_getElem? hx)) (hw y (List.mem_of_getElem? hy))
   (have hF := (aI (aI @e1 (aI @g1 @g2)) (aI (aI @w1 @n1) (aI @n2 @Nat.zero_add))); refine q01 (k:=?_); clear hF)
   refine q00 [q3p x, q3p y] (he := c1) (k:=?_)
   by_cases hz : q31 x y = 0
   ·rw [decide_eq_true hz]
    (have hF := (aI @e1 (aI @n1 @Nat.zero_add)); refine q01 (k:=?_); clear hF)
    have h01 : ((0 + 1 : Nat) : Int) = 1 := rfl
    have hcp := qbi (l := l) (n := j + 1) (by omega) hd
    have hcp2 := qbh (l := l) (n := j + 1) (by omega) hx (by simpa using hy)
    rw [if_pos hz, List.append_nil, hcp] at hcp2
    refine Run.while (σ := Nat × Nat × List Rec) (fun z => ⟨tms [(0, .vw 0 0 3 0 l.length), (1, .fn 144 []), (5, .int .i64 (z.2.1 : Int)), (6, .vw 0 0 3 (j + 1) (l.length - (j + 1))), (7, .int .i64 ((z.1 + 1 : Nat) : Int))], mms [(0, .arr 0 3 (q09 z.2.2))]⟩)
     (fun z => z.1 + 1 ≤ l.length - (j + 1) ∧ z.2.2.length = l.length ∧ 1 ≤ z.2.1 ∧ z.2.1 ≤ j + 1 + z.1 ∧ z.2.2.take z.2.1 = cpt l (j + 1 + (z.1 + 1)) ∧ ∀ m, j + 1 + z.1 ≤ m → z.2.2[m]? = l[m]?) (fun z => l.length - z.1) (0, j + 1, l) (have hW := (aI @q02 @h01); q0g)
     ⟨show 0 + 1 ≤ l.length - (j + 1) by omega, rfl, show 1 ≤ j + 1 by omega, show j + 1 ≤ j + 1 + 0 by omega, by simpa using hcp2.symm, fun _ _ => rfl⟩ ?_
    rintro ⟨q, k, cur⟩ ⟨q1, q2, q3, q4, q5, q6⟩
    simp only at q1 q2 q3 q4 q5 q6
    have e2 := q0h cur
    rw [q2] at e2
    unfold qic
    by_cases hq : q + 1 < l.length - (j + 1)
    ·obtain ⟨u, hu⟩ : ∃ u, l[j + 1 + (q + 1)]? = some u := ⟨l[j + 1 + (q + 1)], by simp [show j + 1 + (q + 1) < l.length by omega]⟩
     obtain ⟨v, hv⟩ : ∃ v, l[j + 1 + q]? = some v := ⟨l[j + 1 + q], by simp [show j + 1 + q < l.length by omega]⟩
     obtain ⟨o, ho⟩ : ∃ o, cur[k]? = some o := ⟨cur[k]'(by omega), by simp [show k < cur.length by omega]⟩
     have g3 := q0o (show cur[j + 1 + (q + 1)]? = some u by rw [q6 _ (by omega)]; exact hu)
     have g4 := q0o (show cur[j + 1 + q]? = some v by rw [q6 _ (by omega)]; exact hv)
     have g5 := q0o ho
     have w2 : IntKind.i64.wrap (((q + 1 : Nat) : Int) - 1) = (q : Int) := by rw [q2i (by omega)]; omega
     have n3 : ((q + 1 : Nat) : Int).toNat = q + 1 := Int.toNat_natCast _
     have n4 : (q : Int).toNat = q := Int.toNat_natCast _
     have n5 : (k : Int).toNat = k := Int.toNat_natCast _
     have c2 := q8f u v (hw u (List.mem_of_getElem? hu)) (hw v (List.mem_of_getElem? hv))
     have hst := qbh (l := l) (n := j + 1 + (q + 1)) (by omega) hu (by rw [show j + 1 + (q + 1) - 1 = j + 1 + q by omega]; exact hv)
     (have hF := (aI (aI @e2 (aI @g3 @g4)) (aI (aI @w2 @n3) (aI @n4 @Nat.zero_add))); refine q01 (k:=?_); clear hF)
     refine q00 [q3p u, q3p v] (he := c2) (k:=?_)
     by_cases hz2 : q31 u v = 0
     ·rw [if_pos hz2, List.append_nil] at hst
      rw [decide_eq_true hz2]
      (have hF := @e2; refine q01 (k:=?_); clear hF)
      have hs2 : ((q + 1 : Nat) : Int) + 1 = ((q + 1 + 1 : Nat) : Int) := rfl
      (refine Fin.nextW ((q + 1, k, cur)) ?_ (have hW := (aI @q02 @hs2); q0g); (try dsimp only))
      exact ⟨⟨show q + 1 + 1 ≤ _ by omega, q2, q3, show k ≤ j + 1 + (q + 1) by omega, by rw [q5]; exact hst.symm, fun m hm => q6 m (by omega)⟩, show l.length - (q + 1) < l.length - q by omega⟩
     ·rw [if_neg hz2] at hst
      rw [decide_eq_false hz2]
      (have hF := (aI (aI @e2 (aI @g3 @g4)) (aI (aI @g5 @n3) (aI @n5 @Nat.zero_add))); refine q01 (k:=?_); clear hF)
      have hs2 : ((q + 1 : Nat) : Int) + 1 = ((q + 1 + 1 : Nat) : Int) := rfl
      have hs3 : (k : Int) + 1 = ((k + 1 : Nat) : Int) := rfl
      (refine Fin.nextW ((q + 1, k + 1, cur.set k u)) ?_ (have hW := (aI (aI @q02 @hs2) (aI @hs3 @zmh)); q0g); (try dsimp only))
      have hk : (cur.set k u).take (k + 1) = cur.take k ++ [u] := by
       rw [List.take_add_one, List.take_set_of_le (Nat.le_refl k)]
       simp [show k < cur.length by omega]
      exact ⟨⟨show q + 1 + 1 ≤ _ by omega, by simpa using q2, show 1 ≤ k + 1 by omega, show k + 1 ≤ j + 1 + (q + 1) by omega, by rw [hk, q5]; exact hst.symm, fun m hm => by
       rw [List.getElem?_set_ne (show k ≠ m by omega)]; exact q6 m (by omega)⟩, show l.length - (q + 1) < l.length - q by omega⟩
    ·have hql : j + 1 + (q + 1) = l.length := by omega
     rw [hql] at q5
     have n5 : (k : Int).toNat = k := Int.toNat_natCast _
     (have hF := (aI @e2 (aI @n5 @Nat.zero_add)); refine q01 (k:=?_); clear hF)
     refine zn7 rfl rfl (el := 91) (by with_unfolding_all rfl) (by with_unfolding_all rfl) (by with_unfolding_all rfl) (by with_unfolding_all rfl) (by rw [e2]; omega) (by omega) ?_
     (have hF := (aI @e2 (aI @n5 @Nat.zero_add)); refine q01 (k:=?_); clear hF)
     refine Fin.done ⟨_, Wk.unview 4 0 0 3 k rfl rfl (by simp only [List.length_append, List.length_take, List.length_replicate, List.length_drop, e2]; omega), _, rfl, ?_, q02 _⟩
     rw [← q5]
     have e3 : ((q09 cur).take k).length = k := by rw [List.length_take, e2]; omega
     rw [List.append_assoc, List.take_append_of_le_length (show k ≤ ((q09 cur).take k).length by omega), List.take_of_length_le (show ((q09 cur).take k).length ≤ k by omega)]
     simp only [q09, List.map_take]
     rfl
   ·rw [decide_eq_false hz]
    (have hF := @e1; refine q01 (k:=?_); clear hF)
    have hs2 : ((j + 1 : Nat) : Int) + 1 = ((j + 1 + 1 : Nat) : Int) := rfl
    (refine Fin.nextW (j + 1) ?_ (have hW := (aI @q02 @hs2); q0g); (try dsimp only))
    exact ⟨⟨by omega, fun m a b hm hb ha => by
     by_cases e : m = j
     ·subst e
      rw [hx] at ha; rw [hy] at hb; cases ha; cases hb
      exact hz
     ·exact hd m a b (by omega) hb ha⟩, by omega⟩
  ·rw [qbi (Nat.le_refl _) (fun m x y hm => hd m x y (by omega)), List.take_length]
   (have hF := @e1; refine q01 (k:=?_); clear hF)
   exact Fin.done ⟨_, Wk.unview 4 0 0 3 l.length rfl rfl (by rw [e1]; omega), _, rfl, by rw [show (q09 l).take l.length = q09 l by rw [← e1, List.take_length]]; rfl, q02 _⟩
end
def q6x (r : Rec) : Bool := decide (r.sku.size = 0) || q6z r.sku
def srtE (l : List Rec) : List Rec := if l.all q6x = true then q8b (q52 l) else []
theorem zky (l : List Rec) : ∀ y ∈ q52 l, q72 y := by
 intro y hy
 unfold q52 at hy
 obtain ⟨r, _, rfl⟩ := List.mem_map.1 hy
 exact q9q r.past
theorem keptK_wt {l : List Rec} {W : Nat} (hw : ∀ r ∈ l, wt r.past ≤ W) : ∀ y ∈ q52 l, wt y.past ≤ W + 16 := by
 intro y hy
 unfold q52 at hy
 obtain ⟨r, hr, rfl⟩ := List.mem_map.1 hy
 have := hw r (List.mem_filter.1 hr).1
 have := q5m r.past
 simp only
 omega
theorem zn9 {l : List Rec} {i : Nat} {r : Rec} (h : l[i]? = some r) (h1 : (l.take i).all q6x = true) (h2 : q6x r = true) : (l.take (i + 1)).all q6x = true := by
 rw [List.take_add_one, h, List.all_append, h1]
 simp [h2]
theorem z8v {l : List Rec} (h : l.length ≤ 1) : q8b l = l := by
 match l, h with
 | [], _ => rfl
 | [x], _ => rfl
theorem ev_k113 (l : List Rec) (hl : l.length ≤ 1000000000) (hw : ∀ r ∈ l, wt r.past ≤ 40000000) : Ev (En Tryz.prog rfl).P 113 [.sl 3 (q09 l)] (.ret (.tup [.sl 3 (q09 (srtE l)), .int .i64 (if l.all q6x = true then 0 else 5)])) := by
 refine Ev.of_body it_k113 (by simp) (Run.start ?_)
 unfold t_k113
 have e1 := q0h l
 have hS := qpa
 (have hF := @e1; refine q01 (k:=?_); clear hF)
 refine Run.wk (Wk.own_nil 4 30 3 rfl rfl) ?_
 refine Run.while (σ := Nat) (fun i => ⟨tms [(4, .os 30 (q52 (l.take i)).length), (7, .sl 3 (q09 l)), (8, .int .i64 l.length), (9, .int .i64 (i : Int))], mms [(30, .arr (q52 (l.take i)).length 3 (q09 (q52 (l.take i))))]⟩)
  (fun i => i ≤ l.length ∧ (l.take i).all q6x = true) (fun i => l.length - i) 0 (have hW := @q02; q0g) ⟨Nat.zero_le _, rfl⟩ ?_
 rintro i ⟨hi, hall⟩
 unfold qiv
 by_cases hlt : i < l.length
 ·obtain ⟨r, hr⟩ : ∃ r, l[i]? = some r := ⟨l[i], by simp [hlt]⟩
  have g1 := q0o hr
  have hst := z9b hr
  have hle := qnw (l.take i)
  have hle2 : (l.take i).length ≤ l.length := by rw [List.length_take]; omega
  generalize q52 (l.take i) = out at hst hle ⊢
  have e2 := q0h out
  have hwr := hw r (List.mem_of_getElem? hr)
  have c1 := qqa r.sku
  have c2 := z7r r.past (by omega)
  have c3 := qqd r (by omega)
  have es := q8j r.sku
  by_cases hz : r.sku.size = 0
  case' pos =>
   have hok : q6x r = true := by simp [q6x, hz]
   rw [eq_true hz] at es
   (have hF := (aI (aI @e1 @e2) (aI @g1 @es)); refine q01 (k:=?_); clear hF)
  case' neg =>
   rw [eq_false hz] at es
   by_cases hg : q6z r.sku = true
   case' neg =>
    have hbad : l.all q6x = false := by
     rw [Bool.eq_false_iff]
     intro h
     have := List.all_eq_true.1 h r (List.mem_of_getElem? hr)
     simp [q6x, hz, hg] at this
    have hg : q6z r.sku = false := by simpa using hg
    rw [hg] at c1
    unfold srtE
    rw [hbad]
    (have hF := (aI (aI @e1 @e2) (aI @g1 @es)); refine q01 (k:=?_); clear hF)
    refine q00 [.str r.sku] (he := c1) (k:=?_)
    (have hF := (aI (aI @e1 @e2) (aI @g1 @es)); refine q01 (k:=?_); clear hF)
    exact Fin.two rfl rfl rfl rfl (.inr ⟨rfl, 3, rfl⟩) (.inl rfl)
   case' pos =>
    have hok : q6x r = true := by simp [q6x, hg]
    rw [hg] at c1
    (have hF := (aI (aI @e1 @e2) (aI @g1 @es)); refine q01 (k:=?_); clear hF)
    refine q00 [.str r.sku] (he := c1) (k:=?_)
    (have hF := (aI (aI @e1 @e2) (aI @g1 @es)); refine q01 (k:=?_); clear hF)
  all_goals
   have hall2 := zn9 hr hall hok
   refine q00 [q0f r.past] (he := c2) (k:=?_)
   by_cases hs : q3e r.past = 0
   ·rw [if_pos hs, List.append_nil] at hst
    rw [decide_eq_true hs]
    (have hF := (aI @e1 (aI @e2 @g1)); refine q01 (k:=?_); clear hF)
    (refine Fin.nextW (i + 1) ?_ (have hW := (aI @q02 @hst); q0g); (try dsimp only))
    exact ⟨⟨hlt, hall2⟩, by omega⟩
   ·rw [if_neg hs] at hst
    rw [decide_eq_false hs]
    (have hF := (aI @e1 (aI @e2 @g1)); refine q01 (k:=?_); clear hF)
    refine q00 [q3p r] (he := c3) (k:=?_)
    unfold q3p
    (have hF := (aI @e1 (aI @e2 @g1)); refine q01 (k:=?_); clear hF)
    (refine Fin.nextW (i + 1) ?_ (have hW := (aI @q02 (aI @hst @q2h)); q0g); (try dsimp only))
    exact ⟨⟨hlt, hall2⟩, by omega⟩
 ·rw [List.take_of_length_le (show l.length ≤ i by omega)] at hall ⊢
  unfold srtE
  rw [hall, if_pos rfl, if_pos rfl]
  have hk := q0h (q52 l)
  have hkl := qnw l
  have hcan := zky l
  have hkw := keptK_wt hw
  by_cases h1 : (q52 l).length ≤ 1
  ·rw [z8v h1]
   refine Run.wk (Wk.give ⟨q20 (q02 l), rfl, rfl, trivial⟩ trivial rfl (q02 _)) ?_
   have c1 := ev_sort1 (q09 (q52 l)) (by omega) 106 (q02 _)
   have c2 := qqe (q09 (q52 l)) (by omega) 144 (q02 _)
   generalize q52 l = out at *
   (have hF := (aI @e1 @hk); refine q01 (k:=?_); clear hF)
   refine q00 [.sl 3 (q09 out), .fn 106 []] (he := c1) (k:=?_)
   (have hF := (aI @e1 @hk); refine q01 (k:=?_); clear hF)
   refine q00 [.sl 3 (q09 out), .fn 144 []] (he := c2) (k:=?_)
   (have hF := (aI @e1 @hk); refine q01 (k:=?_); clear hF)
   exact Fin.two rfl (q02 _) rfl rfl (.inl rfl) (.inl rfl)
  ·obtain ⟨s, hp, hs, hsort⟩ := qq9 (q52 l) (fun r hr => by have := hkw r hr; omega) (by omega) (by omega)
   have hsl := hp.length_eq
   have hord := cpt_ord hp hs hcan
   have hcomp := z9v s (fun r hr => by have := hkw r (hp.mem_iff.1 hr); omega) (by omega)
   rw [hord] at hcomp
   generalize q52 l = out at *
   (have hF := (aI @e1 @hk); refine q01 (k:=?_); clear hF)
   refine z86 (args' := [.undef, .fn 106 []]) 0 30 rfl rfl rfl rfl rfl (q02 _) (q02 s) rfl hsort ?_
   (have hF := @e1; refine q01 (k:=?_); clear hF)
   refine z88 (args' := [.undef, .fn 144 []]) 0 30 rfl rfl rfl rfl rfl (q02 _) (q02 _) hcomp ?_
   (have hF := @e1; refine q01 (k:=?_); clear hF)
   exact Fin.two (x := .sl 3 (q09 (q8b out))) (by simp [fz, fzc, q4i, upd, tms, mms]) (q02 _) rfl rfl (.inl rfl) (.inl rfl)

structure MrS where
 i : Nat
 j : Nat
 out : List Rec

def z09 : List SOp := [⟨some 4,.assign (.const (.slice none 0 0)),none⟩]
instance : Live z09 := ⟨[0,1]⟩
def z08 : List SOp := [⟨some 5,.move (.tmp 1),none⟩,⟨some 6,.binOp .lss 3 (.tmp 5) (.const (.int .i64 0)) 3,none⟩]
instance : Live z08 := ⟨[0,1]⟩
def z07 : List SOp := [⟨some 7,.makeInterface 9 (.const (.string ⟨#[99,97,110,110,111,116,32,98,101,32,110,101,103,97,116,105,118,101]⟩)),none⟩,⟨none,.panic (.tmp 7),none⟩]
instance : Live z07 := ⟨[0,1]⟩
def z06 : List SOp := [⟨some 8,.move (.tmp 1),none⟩,⟨some 9,.move (.tmp 0),none⟩,⟨some 10,.call ⟨.builtin .cap,#[.tmp 9],#[27]⟩,none⟩,⟨some 11,.move (.tmp 0),none⟩,⟨some 12,.call ⟨.builtin .len,#[.tmp 11],#[27]⟩,none⟩,⟨some 13,.binOp .sub 3 (.tmp 10) (.tmp 12) 3,none⟩,⟨some 14,.binOp .sub 3 (.tmp 8) (.tmp 13) 3,none⟩,⟨some 1,.assign (.tmp 14),none⟩]
instance : Live z06 := ⟨[0,1]⟩
def z05 : List SOp := [⟨some 15,.move (.tmp 1),none⟩,⟨some 16,.binOp .gtr 3 (.tmp 15) (.const (.int .i64 0)) 3,none⟩]
instance : Live z05 := ⟨[0,1]⟩
def z04 : List SOp := [⟨some 17,.move (.tmp 0),none⟩,⟨some 18,.move (.tmp 0),none⟩,⟨some 19,.call ⟨.builtin .cap,#[.tmp 18],#[27]⟩,none⟩,⟨some 20,.slice 27 (.tmp 17) none (some (.tmp 19)) none,none⟩,⟨some 21,.move (.tmp 1),none⟩,⟨some 22,.call ⟨.builtin .append,#[.tmp 20,.tmp 21],#[27,3]⟩,none⟩,⟨some 23,.move (.tmp 0),none⟩,⟨some 24,.call ⟨.builtin .len,#[.tmp 23],#[27]⟩,none⟩,⟨some 25,.slice 27 (.tmp 22) none (some (.tmp 24)) none,none⟩,⟨some 0,.assign (.tmp 25),none⟩]
instance : Live z04 := ⟨[0,1]⟩
def z03 : List SOp := [⟨some 26,.move (.tmp 0),none⟩,⟨some 4,.assign (.tmp 26),none⟩]
instance : Live z03 := ⟨[0]⟩
def t_k145 : SC :=
 (.seq (.ops false z09) (.seq (.seq (.ops false z08) (.cond (.tmp 6) (.ops false z07) .skip)) (.seq (.seq (.ops false z06) (.seq (.ops false z05) (.cond (.tmp 16) (.ops false z04) .skip))) (.seq (.ops false z03) .ret))))
theorem it_k145 : FnIs Tryz.prog 145 27 [.tmp 4] t_k145 := ⟨Tryz.f145, _, Tryz.func145, rfl, rfl, rfl, rfl, by kernel_rfl⟩

def z4g : List SOp := [⟨some 2,.assign (.const (.slice none 0 0)),none⟩]
instance : Live z4g := ⟨[0]⟩
def z4f : List SOp := [⟨some 3,.assign (.const (.int .i64 0)),none⟩]
instance : Live z4f := ⟨[0]⟩
def z4e : List SOp := [⟨some 9,.move (.tmp 0),none⟩,⟨some 10,.call ⟨.builtin .len,#[.tmp 9],#[175]⟩,none⟩,⟨some 11,.move (.const (.int .i64 0)),none⟩]
instance : Live z4e := ⟨[0,3]⟩
def z4d : List SOp := [⟨some 12,.binOp .lss 3 (.tmp 11) (.tmp 10) 3,none⟩]
instance : Live z4d := ⟨[0,3,9,10,11]⟩
def z4c : List SOp := [⟨some 13,.indexAddr 175 (.tmp 9) (.tmp 11),none⟩,⟨some 14,.load 27 (.tmp 13),none⟩,⟨some 5,.assign (.tmp 14),none⟩]
instance : Live z4c := ⟨[0,3,9,10,11]⟩
def z4b : List SOp := [⟨some 15,.move (.tmp 3),none⟩,⟨some 16,.move (.tmp 5),none⟩,⟨some 17,.call ⟨.builtin .len,#[.tmp 16],#[27]⟩,none⟩,⟨some 18,.binOp .add 3 (.tmp 15) (.tmp 17) 3,none⟩,⟨some 3,.assign (.tmp 18),none⟩]
instance : Live z4b := ⟨[0,3,5,9,10,11]⟩
def z4a : List SOp := [⟨some 19,.move (.tmp 3),none⟩,⟨some 20,.binOp .lss 3 (.tmp 19) (.const (.int .i64 0)) 3,none⟩]
instance : Live z4a := ⟨[0,3,9,10,11]⟩
def z49 : List SOp := [⟨some 21,.makeInterface 9 (.const (.string ⟨#[108,101,110,32,111,117,116,32,111,102,32,114,97,110,103,101]⟩)),none⟩,⟨none,.panic (.tmp 21),none⟩]
instance : Live z49 := ⟨[0,3,9,10,11]⟩
def z48 : List SOp := [⟨some 22,.binOp .add 3 (.tmp 11) (.const (.int .i64 1)) 3,none⟩,⟨some 11,.move (.tmp 22),none⟩]
instance : Live z48 := ⟨[0,3,9,10,11]⟩
def qn3 : List SOp := [⟨some 23,.move (.tmp 3),none⟩,⟨some 24,.call ⟨.value (.func 145),#[.const (.slice none 0 0),.tmp 23],#[27,3]⟩,none⟩,⟨some 6,.assign (.tmp 24),none⟩]
instance : Live qn3 := ⟨[0,3]⟩
def qn2 : List SOp := [⟨some 25,.move (.tmp 0),none⟩,⟨some 26,.call ⟨.builtin .len,#[.tmp 25],#[175]⟩,none⟩,⟨some 27,.move (.const (.int .i64 0)),none⟩]
instance : Live qn2 := ⟨[0,6]⟩
def qn1 : List SOp := [⟨some 28,.binOp .lss 3 (.tmp 27) (.tmp 26) 3,none⟩]
instance : Live qn1 := ⟨[6,25,26,27]⟩
def qn0 : List SOp := [⟨some 29,.indexAddr 175 (.tmp 25) (.tmp 27),none⟩,⟨some 30,.load 27 (.tmp 29),none⟩,⟨some 8,.assign (.tmp 30),none⟩]
instance : Live qn0 := ⟨[6,25,26,27]⟩
def qmz : List SOp := [⟨some 31,.move (.tmp 6),none⟩,⟨some 32,.move (.tmp 8),none⟩,⟨some 33,.call ⟨.builtin .append,#[.tmp 31,.tmp 32],#[27,27]⟩,none⟩,⟨some 6,.assign (.tmp 33),none⟩]
instance : Live qmz := ⟨[6,8,25,26,27]⟩
def qmy : List SOp := [⟨some 34,.binOp .add 3 (.tmp 27) (.const (.int .i64 1)) 3,none⟩,⟨some 27,.move (.tmp 34),none⟩]
instance : Live qmy := ⟨[6,25,26,27]⟩
def qmx : List SOp := [⟨some 35,.move (.tmp 6),none⟩,⟨some 2,.assign (.tmp 35),none⟩]
instance : Live qmx := ⟨[6]⟩
def qiu : SC :=
 (.seq (.ops false z4d) (.seq (.cond (.tmp 12) .skip (.exit 0)) (.seq (.block 1 (.seq (.ops false z4c) (.seq (.ops false z4b) (.seq (.ops false z4a) (.cond (.tmp 20) (.ops false z49) .skip))))) (.ops false z48))))
def qit : SC :=
 (.seq (.ops false qn1) (.seq (.cond (.tmp 28) .skip (.exit 2)) (.seq (.block 3 (.seq (.ops false qn0) (.ops false qmz))) (.ops false qmy))))
def t_k114 : SC :=
 (.seq (.ops false z4g) (.seq (.ops false z4f) (.seq (.seq (.ops false z4e) (.block 0 (.loop qiu))) (.seq (.ops false qn3) (.seq (.seq (.ops false qn2) (.block 2 (.loop qit))) (.seq (.ops false qmx) .ret))))))
theorem it_k114 : FnIs Tryz.prog 114 36 [.tmp 2] t_k114 := ⟨Tryz.f114, _, Tryz.func114, rfl, rfl, rfl, rfl, by kernel_rfl⟩

def zeu : List SOp := [⟨some 4,.assign (.const (.slice none 0 0)),none⟩,⟨some 5,.assign (.const (.int .i64 0)),none⟩]
instance : Live zeu := ⟨[0,1]⟩
def zet : List SOp := [⟨some 6,.move (.tmp 0),none⟩,⟨some 7,.call ⟨.value (.func 55),#[.tmp 6],#[27]⟩,none⟩,⟨some 8,.binOp .neq 32 (.tmp 7) (.const (.int .i64 0)) 32,none⟩,⟨some 9,.move (.tmp 8),none⟩,⟨some 10,.move (.tmp 1),some ((some 9),false)⟩,⟨some 11,.call ⟨.value (.func 55),#[.tmp 10],#[27]⟩,some ((some 9),false)⟩,⟨some 12,.binOp .neq 32 (.tmp 11) (.const (.int .i64 0)) 32,some ((some 9),false)⟩,⟨some 13,.pick (.tmp 9) (.const (.bool true)) (.tmp 12),none⟩]
instance : Live zet := ⟨[0,1]⟩
def zes : List SOp := [⟨some 4,.assign (.const (.slice none 0 0)),none⟩,⟨some 5,.assign (.const (.int .i64 1)),none⟩]
instance : Live zes := ⟨[]⟩
def zer : List SOp := [⟨some 14,.move (.tmp 0),none⟩,⟨some 15,.move (.tmp 1),none⟩,⟨some 16,.buildSlice 175 2 #[(0,.tmp 14),(1,.tmp 15)],none⟩,⟨some 17,.call ⟨.value (.func 114),#[.tmp 16],#[175]⟩,none⟩,⟨some 18,.call ⟨.value (.func 113),#[.tmp 17],#[27]⟩,none⟩,⟨some 19,.extract (.tmp 18) 0,none⟩,⟨some 20,.extract (.tmp 18) 1,none⟩,⟨some 4,.assign (.tmp 19),none⟩,⟨some 5,.assign (.tmp 20),none⟩]
instance : Live zer := ⟨[0,1]⟩
def t_k66 : SC :=
 (.seq (.ops false zeu) (.seq (.seq (.ops false zet) (.cond (.tmp 13) (.seq (.ops false zes) .ret) .skip)) (.seq (.ops false zer) .ret)))
theorem it_k66 : FnIs Tryz.prog 66 21 [.tmp 4, .tmp 5] t_k66 := ⟨Tryz.f66, _, Tryz.func66, rfl, rfl, rfl, rfl, by kernel_rfl⟩

theorem z9u (m : Nat) (hm : m ≤ 100000000) : EvFresh (En Tryz.prog rfl).P 145 [.nil, .int .i64 (m : Int)] 3 [] := by
 refine EvFresh.of_body it_k145 (by simp) (AW.wkEnd (Run.start ?_))
 unfold t_k145
 (have hF := True.intro; refine q01 (k:=?_); clear hF)
 refine q49 (qda (En Tryz.prog rfl).hT rfl (by with_unfolding_all rfl) (el := 91) (by with_unfolding_all rfl)) ?_
 rintro v M' ⟨rfl, rfl⟩
 dsimp only [AS.put]
 (focus (have hF := True.intro; (repeat' (first | refine go1 (k:=?_) | with_reducible refine Ny.of ?_ ?_ | (refine Hyp.of ?_; intro hc; (try simp only [hc]); (try simp only [Bh] at hc)))); all_goals clear hF))
 ·refine q49 (qda (En Tryz.prog rfl).hT rfl (by with_unfolding_all rfl) (el := 91) (by with_unfolding_all rfl)) ?_
  rintro v M' ⟨rfl, rfl⟩
  dsimp only [AS.put]
  (have hF := True.intro; refine q01 (k:=?_); clear hF)
  refine q49 (z9e (En Tryz.prog rfl).hT (m := m) 22 rfl rfl (by omega) (by omega) (by with_unfolding_all rfl) (el := 91) (by with_unfolding_all rfl) (by with_unfolding_all rfl) (ik := .i64) (by with_unfolding_all rfl) (by with_unfolding_all rfl) (by with_unfolding_all rfl) (show m * 64 ≤ 281474976710656 by omega) rfl) ?_
  rintro v M' ⟨rfl, rfl⟩
  dsimp only [AS.put]
  refine dv (v := .nil) (ups := []) rfl (by with_unfolding_all rfl) (by with_unfolding_all rfl) rfl ?_
  refine dv (v := .int .i64 0) (ups := []) rfl (by with_unfolding_all rfl) (by with_unfolding_all rfl) rfl ?_
  dsimp only [AS.put, ap]
  refine q49 (zl8 (En Tryz.prog rfl).hT (m := 0) (k := 22) (e := 0) (sz := 3) rfl rfl rfl (Nat.zero_le _) (by with_unfolding_all rfl) (el := 91) (by with_unfolding_all rfl) (by with_unfolding_all rfl) rfl) ?_
  rintro v M' ⟨rfl, rfl⟩
  dsimp only [AS.put]
  (have hF := True.intro; refine q01 (k:=?_); clear hF)
  exact Fin.done ⟨_, Wk.refl _ _, 22, 1, rfl, rfl, rfl⟩
 ·exact Fin.done ⟨_, Wk.own_nil 4 22 3 rfl rfl, 22, 0, rfl, rfl, rfl⟩
theorem zmj (a b : List Rec) : q09 a ++ q09 b = q09 (a ++ b) := by simp [q09]
theorem qof (a b : List Rec) (ha : a.length ≤ 10000000) (hb : b.length ≤ 10000000) : Ev (En Tryz.prog rfl).P 114 [.sl 1 [.sl 3 (q09 a), .sl 3 (q09 b)]] (.ret (.sl 3 (q09 (a ++ b)))) := by
 refine Ev.of_body it_k114 (by simp) (Run.start ?_)
 unfold t_k114
 obtain ⟨Ls, hLs⟩ : ∃ Ls, [AVal.sl 3 (q09 a), AVal.sl 3 (q09 b)] = Ls := ⟨_, rfl⟩
 rw [hLs]
 have hLl : Ls.length = 2 := by rw [← hLs]; rfl
 have hLst : q0k Ls = true := by rw [← hLs]; simp [q0k, AVal.stb, q02]
 have hL0 : Ls[0]? = some (.sl 3 (q09 a)) := by rw [← hLs]; rfl
 have hL1 : Ls[1]? = some (.sl 3 (q09 b)) := by rw [← hLs]; rfl
 clear hLs
 have e1 := q0h a
 have e2 := q0h b
 have hLg : ∀ i, i < 2 → ∃ l, Ls[i]? = some (.sl 3 (q09 l)) ∧ l.length ≤ 10000000 ∧ (if i = 0 then [] else a) ++ l = if i + 1 = 1 then a else a ++ b := by
  intro i hi
  match i, hi with
  | 0, _ => exact ⟨a, hL0, ha, by simp⟩
  | 1, _ => exact ⟨b, hL1, hb, by simp⟩
 have hA : ∃ A : Nat → List Rec, A 0 = [] ∧ A 2 = a ++ b ∧ ∀ i, i < 2 → ∃ l, Ls[i]? = some (.sl 3 (q09 l)) ∧ l.length ≤ 10000000 ∧ A i ++ l = A (i + 1) :=
  ⟨fun i => if i = 0 then [] else if i = 1 then a else a ++ b, rfl, rfl, fun i hi => by
   match i, hi with
   | 0, _ => exact ⟨a, hL0, ha, by simp⟩
   | 1, _ => exact ⟨b, hL1, hb, by simp⟩⟩
 obtain ⟨A, hA0, hA2, hA⟩ := hA
 have hAl : ∀ i, i ≤ 2 → (A i).length ≤ 10000000 * i := by
  intro i
  induction i with
  | zero => intro _; rw [hA0]; simp
  | succ i ih =>
   intro hi
   obtain ⟨l, _, h2, h3⟩ := hA i (by omega)
   have := ih (by omega)
   rw [← h3, List.length_append]
   omega
 clear hLg hL0 hL1
 have hA0l : (A 0).length = 0 := by rw [hA0]; rfl
 have hA2l : (A 2).length ≤ 20000000 := hAl 2 (by omega)
 (have hF := @hLl; refine q01 (k:=?_); clear hF)
 refine Run.while (σ := Nat) (fun i => ⟨tms [(0, .sl 1 Ls), (3, .int .i64 ((A i).length : Int)), (9, .sl 1 Ls), (10, .int .i64 2), (11, .int .i64 (i : Int))], mms []⟩)
  (fun i => i ≤ 2) (fun i => 2 - i) 0 (have hW := (aI @hLst @hA0l); q0g) (Nat.zero_le _) ?_
 intro i hi
 unfold qiu
 by_cases hlt : i < 2
 ·obtain ⟨l, gl, hll, hal⟩ := hA i hlt
  have hb1 := hAl i (by omega)
  have hs : ((A i).length : Int) + (l.length : Int) = ((A (i + 1)).length : Int) := by rw [← hal, List.length_append]; omega
  have el := q0h l
  have hn : ¬ ((A (i + 1)).length : Int) < 0 := by omega
  have hb2 := hAl (i + 1) (by omega)
  have hwr : IntKind.i64.wrap ((A (i + 1)).length : Int) = ((A (i + 1)).length : Int) := q2i (by omega)
  (have hF := (aI (aI @hLl (aI @gl @el)) (aI @hs (aI @hn @hwr))); refine q01 (k:=?_); clear hF)
  (refine Fin.nextW (i + 1) ?_ (have hW := @hLst; q0g); (try dsimp only))
  omega
 ·have hi2 : i = 2 := by omega
  subst hi2
  (have hF := @hLl; refine q01 (k:=?_); clear hF)
  refine q49 (z9f (f := 145) (caps := []) 24 rfl rfl rfl (z9u (A 2).length (by omega)) rfl) ?_
  rintro v M' ⟨rfl, rfl⟩
  dsimp only [AS.put]
  (have hF := @hLl; refine q01 (k:=?_); clear hF)
  have hA0e : q09 (A 0) = [] := by rw [hA0]; rfl
  refine Run.while (σ := Nat) (fun i => ⟨tms [(6, .os 24 i), (25, .sl 1 Ls), (26, .int .i64 2), (27, .int .i64 (i : Int))], mms [(24, .arr i 3 (q09 (A i)))]⟩)
   (fun i => i ≤ 2) (fun i => 2 - i) 0 (have hW := (aI @hLst (aI @hA0e @q02)); q0g) (Nat.zero_le _) ?_
  intro i hi
  unfold qit
  by_cases hlt : i < 2
  ·obtain ⟨l, gl, hll, hal⟩ := hA i hlt
   have hb1 := hAl i (by omega)
   have el := q0h l
   have e3 := q0h (A i)
   have hap : q09 (A i) ++ q09 l = q09 (A (i + 1)) := by rw [zmj, hal]
   (have hF := (aI (aI @hLl @gl) (aI @el @e3)); refine q01 (k:=?_); clear hF)
   (refine Fin.nextW (i + 1) ?_ (have hW := (aI @hLst (aI @q02 @hap)); q0g); (try dsimp only))
   omega
  ·have hi2 : i = 2 := by omega
   subst hi2
   rw [← hA2]
   (have hF := @hLl; refine q01 (k:=?_); clear hF)
   exact Fin.tmp' (by simp [fz, fzc, q4i, upd, tms, mms]) (q02 _)
theorem skuOk_of {r : Rec} (h : q2z r = 0) : q6x r = true := by
 unfold q2z at h
 unfold q6x
 split at h
 ·omega
 ·rename_i h1
  by_cases h2 : r.sku.size = 0
  ·simp [h2]
  ·by_cases h3 : q6z r.sku = true
   ·simp [h3]
   ·exact absurd ⟨h2, by simpa using h3⟩ h1
theorem zn2 {r : Rec} (h : q2z r = 0) : q72 r ∧ q3e r.past ≠ 0 := by
 unfold q2z at h
 split at h
 ·omega
 ·split at h
  ·omega
  ·rename_i h1
   simp only [not_or] at h1
   exact ⟨q42.1 (by simpa using h1.1), h1.2⟩
theorem q4f {l : List Rec} (h : q3g l) : ∀ r ∈ l, q72 r ∧ q3e r.past ≠ 0 ∧ q6x r = true := by
 intro r hr
 obtain ⟨i, hi⟩ := List.mem_iff_getElem?.1 hr
 have := h.1 i r hi
 exact ⟨(zn2 this).1, (zn2 this).2, skuOk_of this⟩
theorem z9c {l : List Rec} (h : ∀ r ∈ l, q72 r ∧ q3e r.past ≠ 0) : q52 l = l := by
 unfold q52
 rw [List.filter_eq_self.2 fun r hr => by simp [(h r hr).2]]
 have : l.map (fun r => (⟨r.sku, q16 r.past⟩ : Rec)) = l.map id := List.map_congr_left fun r hr => by
  have := (h r hr).1
  unfold q72 at this
  rw [this]
  rfl
 rw [this, List.map_id]
noncomputable def zav (a b : List Rec) : List Rec := if q3f a = true ∧ q3f b = true then q8b (a ++ b) else []
theorem zb8 {a b : List Rec} (ha : q3g a) (hb : q3g b) : (a ++ b).all q6x = true ∧ srtE (a ++ b) = q8b (a ++ b) := by
 have hab : ∀ r ∈ a ++ b, q72 r ∧ q3e r.past ≠ 0 ∧ q6x r = true := fun r hr => (List.mem_append.1 hr).elim (q4f ha r) (q4f hb r)
 have h1 : (a ++ b).all q6x = true := List.all_eq_true.2 fun r hr => (hab r hr).2.2
 refine ⟨h1, ?_⟩
 unfold srtE
 rw [if_pos h1, z9c fun r hr => ⟨(hab r hr).1, (hab r hr).2.1⟩]
theorem ev_k66 (a b : List Rec) (ha : a.length ≤ 10000000) (hb : b.length ≤ 10000000) (hwa : ∀ r ∈ a, wt r.past ≤ 40000000) (hwb : ∀ r ∈ b, wt r.past ≤ 40000000) :
 Ev (En Tryz.prog rfl).P 66 [.sl 3 (q09 a), .sl 3 (q09 b)] (.ret (.tup [.sl 3 (q09 (zav a b)), .int .i64 (if q3f a = true ∧ q3f b = true then 0 else 1)])) := by
 refine Ev.of_body it_k66 (by simp) (Run.start ?_)
 unfold t_k66 zav
 have hS := qpa
 have c1 := q2x a (by omega) hwa
 have c2 := q2x b (by omega) hwb
 by_cases hfa : q3f a = true
 case' neg =>
  rw [if_neg hfa] at c1
  rw [if_neg (fun h => hfa h.1), if_neg (fun h => hfa h.1)]
  (have hF := True.intro; refine q01 (k:=?_); clear hF)
  refine q00 [.sl 3 (q09 a)] (he := c1) (k:=?_)
  (have hF := True.intro; refine q01 (k:=?_); clear hF)
  exact Fin.two rfl rfl rfl rfl (.inr ⟨rfl, 3, rfl⟩) (.inl rfl)
 case' pos =>
  rw [if_pos hfa] at c1
  by_cases hfb : q3f b = true
  case' neg =>
   rw [if_neg hfb] at c2
   rw [if_neg (fun h => hfb h.2), if_neg (fun h => hfb h.2)]
   (have hF := True.intro; refine q01 (k:=?_); clear hF)
   refine q00 [.sl 3 (q09 a)] (he := c1) (k:=?_)
   (have hF := True.intro; refine q01 (k:=?_); clear hF)
   refine q00 [.sl 3 (q09 b)] (he := c2) (k:=?_)
   (have hF := True.intro; refine q01 (k:=?_); clear hF)
   exact Fin.two rfl rfl rfl rfl (.inr ⟨rfl, 3, rfl⟩) (.inl rfl)
  case' pos =>
   rw [if_pos hfb] at c2
   rw [if_pos ⟨hfa, hfb⟩, if_pos ⟨hfa, hfb⟩]
   obtain ⟨s1, s2⟩ := zb8 (q7d.1 hfa) (q7d.1 hfb)
   have c3 := qof a b ha hb
   have c4 := ev_k113 (a ++ b) (by simp; omega) (fun r hr => (List.mem_append.1 hr).elim (hwa r) (hwb r))
   rw [s2, s1, if_pos rfl] at c4
   generalize a ++ b = l at *
   generalize q8b l = o at *
   (have hF := True.intro; refine q01 (k:=?_); clear hF)
   refine q00 [.sl 3 (q09 a)] (he := c1) (k:=?_)
   (have hF := True.intro; refine q01 (k:=?_); clear hF)
   refine q00 [.sl 3 (q09 b)] (he := c2) (k:=?_)
   (have hF := True.intro; refine q01 (k:=?_); clear hF)
   refine q00 [.sl 1 [.sl 3 (q09 a), .sl 3 (q09 b)]] (he := c3) (k:=?_)
   (have hF := True.intro; refine q01 (k:=?_); clear hF)
   refine q00 [.sl 3 (q09 l)] (he := c4) (k:=?_)
   (have hF := True.intro; refine q01 (k:=?_); clear hF)
   exact Fin.two rfl (q02 _) rfl rfl (.inl rfl) (.inl rfl)

def zg0 : List SOp := [⟨some 3,.box 26 (.tmp 1),none⟩,⟨some 4,.assign (.const (.slice none 0 0)),none⟩,⟨some 5,.assign (.const (.int .i64 0)),none⟩]
instance : Live zg0 := ⟨[0,1]⟩
def zfz : List SOp := [⟨some 9,.move (.tmp 0),none⟩,⟨some 10,.call ⟨.value (.func 55),#[.tmp 9],#[27]⟩,none⟩,⟨some 11,.binOp .neq 32 (.tmp 10) (.const (.int .i64 0)) 32,none⟩,⟨some 12,.move (.tmp 11),none⟩,⟨some 13,.load 26 (.tmp 3),some ((some 12),false)⟩,⟨some 14,.call ⟨.value (.func 54),#[.tmp 13],#[26]⟩,some ((some 12),false)⟩,⟨some 15,.unOp .not 4 (.tmp 14),some ((some 12),false)⟩,⟨some 16,.pick (.tmp 12) (.const (.bool true)) (.tmp 15),none⟩]
instance : Live zfz := ⟨[0,3]⟩
def zfy : List SOp := [⟨some 4,.assign (.const (.slice none 0 0)),none⟩,⟨some 5,.assign (.const (.int .i64 1)),none⟩]
instance : Live zfy := ⟨[]⟩
def zfx : List SOp := [⟨some 6,.assign (.const (.slice none 0 0)),none⟩]
instance : Live zfx := ⟨[0,3]⟩
def zfw : List SOp := [⟨some 17,.move (.tmp 0),none⟩,⟨some 18,.call ⟨.builtin .len,#[.tmp 17],#[27]⟩,none⟩,⟨some 19,.move (.const (.int .i64 0)),none⟩]
instance : Live zfw := ⟨[0,3,6]⟩
def zfv : List SOp := [⟨some 20,.binOp .lss 3 (.tmp 19) (.tmp 18) 3,none⟩]
instance : Live zfv := ⟨[3,6,17,18,19]⟩
def zfu : List SOp := [⟨some 21,.indexAddr 27 (.tmp 17) (.tmp 19),none⟩,⟨some 22,.load 91 (.tmp 21),none⟩,⟨some 8,.alloc 91,none⟩,⟨none,.store 91 (.tmp 8) (.tmp 22),none⟩]
instance : Live zfu := ⟨[3,6,17,18,19]⟩
def zft : List SOp := [⟨some 23,.fieldAddr 91 (.tmp 8) 1,none⟩,⟨some 24,.load 26 (.tmp 23),none⟩,⟨some 25,.load 26 (.tmp 3),none⟩,⟨some 26,.call ⟨.value (.func 56),#[.tmp 24,.tmp 25],#[26,26]⟩,none⟩,⟨some 27,.unOp .not 4 (.tmp 26),none⟩]
instance : Live zft := ⟨[3,6,8,17,18,19]⟩
def zfs : List SOp := [⟨some 28,.move (.tmp 6),none⟩,⟨some 29,.load 91 (.tmp 8),none⟩,⟨some 30,.call ⟨.value (.func 108),#[.tmp 29],#[91]⟩,none⟩,⟨some 31,.buildSlice 27 1 #[(0,.tmp 30)],none⟩,⟨some 32,.call ⟨.builtin .append,#[.tmp 28,.tmp 31],#[27,27]⟩,none⟩,⟨some 6,.assign (.tmp 32),none⟩]
instance : Live zfs := ⟨[3,6,8,17,18,19]⟩
def qto : List SOp := [⟨some 33,.binOp .add 3 (.tmp 19) (.const (.int .i64 1)) 3,none⟩,⟨some 19,.move (.tmp 33),none⟩]
instance : Live qto := ⟨[3,6,17,18,19]⟩
def qtn : List SOp := [⟨some 34,.move (.tmp 6),none⟩,⟨some 4,.assign (.tmp 34),none⟩,⟨some 5,.assign (.const (.int .i64 0)),none⟩]
instance : Live qtn := ⟨[6]⟩
def qrm : SC :=
 (.seq (.ops false zfv) (.seq (.cond (.tmp 20) .skip (.exit 0)) (.seq (.block 1 (.seq (.ops false zfu) (.seq (.ops false zft) (.cond (.tmp 27) (.ops false zfs) .skip)))) (.ops false qto))))
def t_k57 : SC :=
 (.seq (.ops false zg0) (.seq (.seq (.ops false zfz) (.cond (.tmp 16) (.seq (.ops false zfy) .ret) .skip)) (.seq (.ops false zfx) (.seq (.seq (.ops false zfw) (.block 0 (.loop qrm))) (.seq (.ops false qtn) .ret)))))
theorem it_k57 : FnIs Tryz.prog 57 35 [.tmp 4, .tmp 5] t_k57 := ⟨Tryz.f57, _, Tryz.func57, rfl, rfl, rfl, rfl, by kernel_rfl⟩

noncomputable def q18 (l : List Rec) (p : Pst) : List Rec := l.filter fun r => !q14 r.past p
theorem qbq {l : List Rec} {p : Pst} {i : Nat} {r : Rec} (h : l[i]? = some r) : q18 (l.take (i + 1)) p = q18 (l.take i) p ++ if q14 r.past p = true then [] else [r] := by
 unfold q18
 rw [List.take_add_one, h, List.filter_append]
 by_cases hw : q14 r.past p = true
 ·simp [hw]
 ·simp [hw]
theorem qem (l : List Rec) (p : Pst) : (q18 l p).length ≤ l.length := List.length_filter_le _ _
noncomputable def qr1 (l : List Rec) (p : Pst) : List Rec := if q3f l = true ∧ q1j p = true then q18 l p else []
theorem ev_k57 (l : List Rec) (p : Pst) (hl : l.length ≤ 1000000000) (hw : ∀ r ∈ l, wt r.past ≤ 40000000) (hp : wt p ≤ 40000000) :
 Ev (En Tryz.prog rfl).P 57 [.sl 3 (q09 l), q0f p] (.ret (.tup [.sl 3 (q09 (qr1 l p)), .int .i64 (if q3f l = true ∧ q1j p = true then 0 else 1)])) := by
 refine Ev.of_body it_k57 (by simp) (Run.start ?_)
 unfold t_k57 q0f qr1
 have hS := qpa
 have e1 := q0h l
 have c1 := q2x l (by omega) hw
 have c2 := qoc p (by omega)
 by_cases hf : q3f l = true
 case' neg =>
  rw [if_neg hf] at c1
  rw [if_neg (fun h => hf h.1), if_neg (fun h => hf h.1)]
  (have hF := @e1; refine q01 (k:=?_); clear hF)
  refine q00 [.sl 3 (q09 l)] (he := c1) (k:=?_)
  (have hF := @e1; refine q01 (k:=?_); clear hF)
  exact Fin.two rfl rfl rfl rfl (.inr ⟨rfl, 3, rfl⟩) (.inl rfl)
 case' pos =>
  rw [if_pos hf] at c1
  by_cases hn : q1j p = true
  case' neg =>
   rw [if_neg (fun h => hn h.2), if_neg (fun h => hn h.2)]
   rw [show q1j p = false by simpa using hn] at c2
   (have hF := @e1; refine q01 (k:=?_); clear hF)
   refine q00 [.sl 3 (q09 l)] (he := c1) (k:=?_)
   (have hF := @e1; refine q01 (k:=?_); clear hF)
   refine q00 [q0f p] (he := c2) (k:=?_)
   (have hF := @e1; refine q01 (k:=?_); clear hF)
   exact Fin.two rfl rfl rfl rfl (.inr ⟨rfl, 3, rfl⟩) (.inl rfl)
  case' pos =>
   rw [if_pos ⟨hf, hn⟩, if_pos ⟨hf, hn⟩]
   rw [hn] at c2
   have hfm := q4f (q7d.1 hf)
   (have hF := @e1; refine q01 (k:=?_); clear hF)
   refine q00 [.sl 3 (q09 l)] (he := c1) (k:=?_)
   (have hF := @e1; refine q01 (k:=?_); clear hF)
   refine q00 [q0f p] (he := c2) (k:=?_)
   (have hF := @e1; refine q01 (k:=?_); clear hF)
   refine Run.wk (Wk.own_nil 6 32 3 rfl rfl) ?_
   refine Run.while (σ := Nat) (fun i => ⟨tms [(3, .ptr 3 0), (6, .os 32 (q18 (l.take i) p).length), (17, .sl 3 (q09 l)), (18, .int .i64 l.length), (19, .int .i64 (i : Int))], mms [(3, .cells [.sl 1 (q05 p.vec), .sl 3 (q0d p.cloud)]), (32, .arr (q18 (l.take i) p).length 3 (q09 (q18 (l.take i) p)))]⟩)
    (fun i => i ≤ l.length) (fun i => l.length - i) 0 (have hW := @q02; q0g) (Nat.zero_le _) ?_
   intro i hi
   unfold qrm
   by_cases hlt : i < l.length
   ·obtain ⟨r, hr⟩ : ∃ r, l[i]? = some r := ⟨l[i], by simp [hlt]⟩
    have g1 := q0o hr
    have hst := qbq (p := p) hr
    have hle := qem (l.take i) p
    have hle2 : (l.take i).length ≤ l.length := by rw [List.length_take]; omega
    generalize q18 (l.take i) p = out at hst hle ⊢
    have e2 := q0h out
    have hrl := List.mem_of_getElem? hr
    have hwr := hw r hrl
    have c3 := ev_k56 r.past p (by omega) (by omega)
    have c4 := qqd r (by omega)
    have hcan : q16 r.past = r.past := (hfm r hrl).1
    rw [hcan] at c4
    (have hF := (aI @e1 (aI @e2 @g1)); refine q01 (k:=?_); clear hF)
    refine q00 [q0f r.past, q0f p] (he := c3) (k:=?_)
    by_cases hwi : q14 r.past p = true
    ·rw [if_pos hwi, List.append_nil] at hst
     rw [hwi]
     (have hF := (aI @e1 (aI @e2 @g1)); refine q01 (k:=?_); clear hF)
     (refine Fin.nextW (i + 1) ?_ (have hW := (aI @q02 @hst); q0g); (try dsimp only))
     omega
    ·rw [if_neg hwi] at hst
     rw [show q14 r.past p = false by simpa using hwi]
     (have hF := (aI @e1 (aI @e2 @g1)); refine q01 (k:=?_); clear hF)
     refine q00 [q3p r] (he := c4) (k:=?_)
     unfold q3p
     (have hF := (aI @e1 (aI @e2 @g1)); refine q01 (k:=?_); clear hF)
     (refine Fin.nextW (i + 1) ?_ (have hW := (aI @q02 (aI @hst @q2h)); q0g); (try dsimp only))
     omega
   ·rw [List.take_of_length_le (show l.length ≤ i by omega)]
    (have hF := @e1; refine q01 (k:=?_); clear hF)
    exact Fin.two (x := .sl 3 (q09 (q18 l p))) (by simp [fz, fzc, q4i, upd, tms, mms]) (q02 _) rfl rfl (.inl rfl) (.inl rfl)

def ltS (a b : Rec) : Prop := q7k a.sku b.sku < 0
theorem zlb {m : List Rec} (h : ∀ r ∈ m, CanP r.past) : qgv m = m := by
 cases m with
 | nil => rfl
 | cons r m =>
  show (if r.sku.size = 0 then (⟨r.sku, q16 r.past⟩ : Rec) :: m else r :: m) = r :: m
  split
  ·have : q16 r.past = r.past := h r (by simp)
   rw [this]
  ·rfl
structure Folded (L K : List Rec) : Prop where
 from_ : ∀ r ∈ K, ∃ q ∈ L, q.sku = r.sku
 can : ∀ r ∈ K, CanP r.past
 size : ∀ r ∈ K, q3e r.past ≠ 0
 lt : K.Pairwise ltS
 apart : ∀ a ∈ K, ∀ b ∈ K, a.sku.size = 0 → b.sku.size ≠ 0 → ∀ d, q2q b.past d = true → q2q a.past d = false
theorem Folded.one {L K : List Rec} (h : Folded L K) (e : Ent) : q5g K e ≤ 1 := by
 unfold q5g
 have hp : (K.filter fun r => qb2 r e).Pairwise ltS := h.lt.filter _
 have hm : ∀ r ∈ K.filter (fun r => qb2 r e), r ∈ K ∧ qb2 r e = true := fun r hr => List.mem_filter.1 hr
 generalize K.filter (fun r => qb2 r e) = F at hp hm
 match F, hp, hm with
 | [], _, _ => exact Nat.zero_le _
 | [a], _, _ => exact Nat.le_refl _
 | a :: b :: F, hp, hm =>
  exfalso
  obtain ⟨ha, hac⟩ := hm a (by simp)
  obtain ⟨hb, hbc⟩ := hm b (by simp)
  have hab : ltS a b := (List.pairwise_cons.1 hp).1 b (by simp)
  have hne : a.sku ≠ b.sku := fun he => by
   unfold ltS at hab
   rw [he, q4g.2 rfl] at hab
   omega
  obtain ⟨h1, h2⟩ := (q7x a e).1 hac
  obtain ⟨h3, h4⟩ := (q7x b e).1 hbc
  by_cases ha0 : a.sku.size = 0
  ·by_cases hb0 : b.sku.size = 0
   ·exact hne (by rw [q4v.2 ha0, q4v.2 hb0])
   ·have := h.apart a ha b hb ha0 hb0 e.dot h4
    rw [h2] at this; cases this
  ·by_cases hb0 : b.sku.size = 0
   ·have := h.apart b hb a ha hb0 ha0 e.dot h2
    rw [h4] at this; cases this
   ·exact hne ((h1.resolve_left ha0).trans (h3.resolve_left hb0).symm)

theorem lt_ne {a b : ByteArray} (h : q7k a b < 0) : b.size ≠ 0 := by
 intro hb
 have h1 : bs b = [] := by
  have := zn4 b
  rw [hb] at this
  exact List.length_eq_zero_iff.1 this
 unfold q7k at h
 rw [h1] at h
 cases h3 : bs a with
 | nil => rw [h3] at h; simp [q5e] at h
 | cons x l => rw [h3] at h; simp [q5e] at h
theorem qny {r : Rec} {K : List Rec} (hp : (r :: K).Pairwise ltS) (hc : CanP r.past) : q2j (r :: K) = r.past ∧ (r :: K).dropWhile (q0z r.sku) = K := by
 have h := q5s (p := q0z r.sku) (l := r :: K) (m := 1) (fun x hx => by simp at hx; subst hx; simp [q0z]) (fun x hx => by
  have hm : x ∈ K := List.mem_of_getElem? (by simpa using hx)
  have := (List.pairwise_cons.1 hp).1 x hm
  refine decide_eq_false fun he => ?_
  unfold ltS at this
  rw [he, q4g.2 rfl] at this
  omega)
 refine ⟨?_, by rw [h.2]; rfl⟩
 unfold q2j z9h
 simp only
 rw [h.1]
 exact hc
theorem qpu {p all : Pst} (hc : CanP p) (h : ∀ d, q2q p d = true → q2q all d = false) : q30 p all = p := by
 refine (za6 _ _).ext hc fun r hr n => ?_
 rw [q79 _ _ hr]
 constructor
 ·exact fun h => h.1
 ·intro hi
  refine ⟨hi, fun ha => ?_⟩
  have h1 : q2q p ((r : Int), n) = true := (q1u p _).2 ⟨by show (0 : Int) ≤ (r : Int); omega, by simpa using hi⟩
  have h2 : q2q all ((r : Int), n) = true := (q1u all _).2 ⟨by show (0 : Int) ≤ (r : Int); omega, by simpa using ha⟩
  rw [h _ h1] at h2
  cases h2
theorem qaa : ∀ (n : Nat) (K : List Rec) (all : Pst), K.length ≤ n → K.Pairwise ltS → (∀ r ∈ K, r.sku.size ≠ 0 ∧ CanP r.past ∧ q3e r.past ≠ 0 ∧ ∀ d, q2q r.past d = true → q2q all d = false) → q54 n K all = K
 | 0, K, all, h, _, _ => by
  have : K = [] := List.length_eq_zero_iff.1 (by omega)
  subst this
  rfl
 | n + 1, [], all, _, _, _ => rfl
 | n + 1, r :: K, all, h, hp, hk => by
  obtain ⟨h1, h2, h3, h4⟩ := hk r (by simp)
  obtain ⟨g1, g2⟩ := qny hp h2
  have ih := qaa n K all (by simp at h; omega) (List.pairwise_cons.1 hp).2 (fun x hx => hk x (by simp [hx]))
  show qhk r.sku (z75 all r.sku (q2j (r :: K))) ++ q54 n ((r :: K).dropWhile (q0z r.sku)) (zae all r.sku (q2j (r :: K))) = _
  rw [show z75 all r.sku (q2j (r :: K)) = q30 (q2j (r :: K)) all from if_neg h1, show zae all r.sku (q2j (r :: K)) = all from if_neg h1, g1, g2, ih, qpu h2 h4]
  rw [show qhk r.sku r.past = [⟨r.sku, r.past⟩] from if_neg h3]
  rfl
theorem Folded.rest {L K : List Rec} (h : Folded L K) : q8p K = K := by
 have hhd : q54 K.length K ⟨[], []⟩ = K := by
  cases K with
  | nil => rfl
  | cons r K =>
   have hlt := (List.pairwise_cons.1 h.lt).1
   have hne : ∀ x ∈ K, x.sku.size ≠ 0 := fun x hx => lt_ne (hlt x hx)
   by_cases hz : r.sku.size = 0
   ·obtain ⟨g1, g2⟩ := qny h.lt (h.can r (by simp))
    show qhk r.sku (z75 ⟨[], []⟩ r.sku (q2j (r :: K))) ++ q54 K.length ((r :: K).dropWhile (q0z r.sku)) (zae ⟨[], []⟩ r.sku (q2j (r :: K))) = _
    rw [show z75 ⟨[], []⟩ r.sku (q2j (r :: K)) = q2j (r :: K) from if_pos hz, show zae ⟨[], []⟩ r.sku (q2j (r :: K)) = q2j (r :: K) from if_pos hz, g1, g2]
    rw [qaa K.length K r.past (Nat.le_refl _) (List.pairwise_cons.1 h.lt).2 (fun x hx => ⟨hne x hx, h.can x (by simp [hx]), h.size x (by simp [hx]), fun d hd => h.apart r (by simp) x (by simp [hx]) hz (hne x hx) d hd⟩)]
    rw [show qhk r.sku r.past = [⟨r.sku, r.past⟩] from if_neg (h.size r (by simp))]
    rfl
   ·refine qaa (r :: K).length (r :: K) ⟨[], []⟩ (Nat.le_refl _) h.lt fun x hx => ⟨?_, h.can x hx, h.size x hx, fun d _ => zlc d⟩
    rcases List.mem_cons.1 hx with rfl | hx
    ·exact hz
    ·exact hne x hx
 unfold q8p
 rw [hhd]
 exact zlb h.can


theorem qo3 {l : List Rec} (h : q3g l) : SrtR l := by
 have adj := h.2
 clear h
 unfold SrtR
 induction l with
 | nil => exact List.Pairwise.nil
 | cons a l ih =>
  have ih' := ih fun i x y hx hy => adj (i + 1) x y (by simpa using hx) (by simpa using hy)
  rw [List.pairwise_cons]
  refine ⟨fun z hz => ?_, ih'⟩
  cases l with
  | nil => cases hz
  | cons b l =>
   have h0 := adj 0 a b rfl rfl
   rcases List.mem_cons.1 hz with e | e
   ·rw [e]; exact h0
   ·exact q8q h0 ((List.pairwise_cons.1 ih').1 z e)
theorem z7l {l : List Rec} (hs : SrtR l) (h : ∀ r ∈ l, q2z r = 0) : q3g l := by
 refine ⟨fun i r hr => h r (List.mem_of_getElem? hr), fun i a b ha hb => ?_⟩
 unfold SrtR at hs
 rw [List.getElem?_eq_some_iff] at ha hb
 obtain ⟨h1, rfl⟩ := ha
 obtain ⟨h2, rfl⟩ := hb
 exact List.pairwise_iff_getElem.1 hs i (i + 1) h1 h2 (by omega)
theorem qdf {l : List Rec} (h : q3g l) : ∀ r ∈ l, q2z r = 0 := fun r hr => by
 obtain ⟨i, hi⟩ := List.mem_iff_getElem?.1 hr
 exact h.1 i r hi
theorem qo4 {l : List Rec} (p : Rec → Bool) (h : q3g l) : q3g (l.filter p) :=
 z7l ((qo3 h).filter _) fun r hr => qdf h r (List.mem_filter.1 hr).1
theorem qq7 {a b : List Rec} (ha : q3g a) (hb : q3g b) : q3g (q8b (a ++ b)) :=
 z7l (q97 _) fun r hr => (List.mem_append.1 (q7o hr)).elim (qdf ha r) (qdf hb r)
theorem can_app {a b : List Rec} (ha : q3g a) (hb : q3g b) : ∀ y ∈ a ++ b, q72 y := fun r hr => (List.mem_append.1 hr).elim (fun h => (q4f ha r h).1) (fun h => (q4f hb r h).1)
theorem qpg (p : Pst) : q14 p p = true := q6h.2 fun r hr n h => h
theorem qr0 (x : Rec) : ∀ l : List Rec, q5d (z7f x l) ≤ wtK x + q5d l
 | [] => by simp [z7f, q5d]
 | y :: l => by
  have ih := qr0 x l
  unfold z7f
  split
  ·simp [q5d]
  ·split
   ·simp [q5d]
   ·unfold q5d at *
    simp only [List.map_cons, List.sum_cons] at *
    omega
theorem qb6 : ∀ l : List Rec, q5d (q8b l) ≤ q5d l
 | [] => Nat.le_refl _
 | x :: l => by
  have ih := qb6 l
  have := qr0 x (q8b l)
  unfold q8b
  unfold q5d at *
  simp only [List.map_cons, List.sum_cons] at *
  omega
theorem qfr (a b : List Rec) : q5d (a ++ b) = q5d a + q5d b := by simp [q5d]

def lt2 (a b : Ent) : Prop := q34 a.dot b.dot = true
theorem q3x (x y : Rn) : q34 x y = true ↔ x.1 < y.1 ∨ (x.1 = y.1 ∧ x.2 < y.2) := by
 unfold q34
 simp [Bool.or_eq_true, Bool.and_eq_true]
theorem q9c {a b c : Ent} (h : lt2 a b) (h' : lt2 b c) : lt2 a c := by
 unfold lt2 at *
 rw [q3x] at *
 omega
theorem q7a {a b : Ent} (h : lt2 a b) : a.dot ≠ b.dot := by
 unfold lt2 at h
 rw [q3x] at h
 intro e
 rw [e] at h
 omega
theorem qql (x y : Rn) (h1 : q34 x y = false) (h2 : q34 y x = false) : x = y := by
 have a : ¬ q34 x y = true := by rw [h1]; decide
 have b : ¬ q34 y x = true := by rw [h2]; decide
 rw [q3x] at a b
 cases x; cases y
 simp at a b
 congr 1 <;> omega
abbrev znf (l : List Ent) : Prop := l.Pairwise lt2
theorem qc0 : ∀ {l : List Ent}, (∀ (i : Nat) a b, l[i]? = some a → l[i + 1]? = some b → q34 a.dot b.dot = true) → znf l
 | [], _ => List.Pairwise.nil
 | [a], _ => by simp [znf]
 | a :: b :: l, h => by
  have ih := qc0 (l := b :: l) fun i x y hx hy => h (i + 1) x y hx hy
  refine List.Pairwise.cons (fun x hx => ?_) ih
  have hab : lt2 a b := h 0 a b rfl rfl
  rcases List.mem_cons.1 hx with rfl | hx
  ·exact hab
  ·exact q9c hab ((List.pairwise_cons.1 ih).1 x hx)
theorem qrz : ∀ {l m : List Ent}, znf l → znf m → (∀ e, e ∈ l ↔ e ∈ m) → l = m
 | [], [], _, _, _ => rfl
 | [], b :: m, _, _, h => absurd ((h b).2 (by simp)) (by simp)
 | a :: l, [], _, _, h => absurd ((h a).1 (by simp)) (by simp)
 | a :: l, b :: m, h1, h2, h => by
  obtain ⟨ha, hl⟩ := List.pairwise_cons.1 h1
  obtain ⟨hb, hm⟩ := List.pairwise_cons.1 h2
  have hab : a = b := by
   rcases List.mem_cons.1 ((h a).1 (by simp)) with e | h3
   ·exact e
   ·rcases List.mem_cons.1 ((h b).2 (by simp)) with e | h4
    ·exact e.symm
    ·exact absurd rfl (q7a (q9c (hb a h3) (ha b h4)))
  subst hab
  congr 1
  refine qrz hl hm fun e => ?_
  constructor
  ·intro he
   rcases List.mem_cons.1 ((h e).1 (by simp [he])) with rfl | h3
   ·exact absurd rfl (q7a (ha e he))
   ·exact h3
  ·intro he
   rcases List.mem_cons.1 ((h e).2 (by simp [he])) with rfl | h3
   ·exact absurd rfl (q7a (hb e he))
   ·exact h3
def eqE (a b : Ent) : Bool := (((decide (a.rep = b.rep) && decide (a.num = b.num)) && decide (a.sku = b.sku)) && decide (a.qty = b.qty))
theorem qag (a b : Ent) : eqE a b = true ↔ a = b := by
 cases a; cases b
 simp [eqE, Bool.and_eq_true, and_assoc]
def qey (k : Bool) (a : Ent) : List Ent := if k = true then [a] else []
theorem mem_opt1 {k : Bool} {a e : Ent} : e ∈ qey k a ↔ k = true ∧ e = a := by
 unfold qey
 split <;> simp_all
def q62 (ka kb : Ent → Bool) : Nat → List Ent → List Ent → Option (List Ent)
 | 0, _, _ => some []
 | n + 1, [], [] => some []
 | n + 1, a :: A, [] => (q62 ka kb n A []).map (qey (ka a) a ++ ·)
 | n + 1, [], b :: B => (q62 ka kb n [] B).map (qey (kb b) b ++ ·)
 | n + 1, a :: A, b :: B =>
  if q34 a.dot b.dot = true then (q62 ka kb n A (b :: B)).map (qey (ka a) a ++ ·)
  else if q34 b.dot a.dot = true then (q62 ka kb n (a :: A) B).map (qey (kb b) b ++ ·)
  else if eqE a b = true then (q62 ka kb n A B).map (a :: ·) else none
def q4h (l : List Ent) (d : Rn) : Prop := ∃ e ∈ l, e.dot = d
def Clash (A B : List Ent) : Prop := ∃ a ∈ A, ∃ b ∈ B, a.dot = b.dot ∧ a ≠ b
def InM (ka kb : Ent → Bool) (A B : List Ent) (e : Ent) : Prop := (e ∈ A ∧ (q4h B e.dot ∨ ka e = true)) ∨ (e ∈ B ∧ (q4h A e.dot ∨ kb e = true))
def MSpec (ka kb : Ent → Bool) (A B : List Ent) : Option (List Ent) → Prop
 | none => Clash A B
 | some L => ¬ Clash A B ∧ znf L ∧ ∀ e, e ∈ L ↔ InM ka kb A B e
theorem MSpec.stepA {ka kb : Ent → Bool} {a : Ent} {A B : List Ent} (hA : ∀ x ∈ A, lt2 a x) (hB : ∀ x ∈ B, lt2 a x) {r : Option (List Ent)} (h : MSpec ka kb A B r) : MSpec ka kb (a :: A) B (r.map (qey (ka a) a ++ ·)) := by
 have hd : ¬ q4h B a.dot := fun ⟨x, hx, e⟩ => q7a (hB x hx) e.symm
 have hc : Clash (a :: A) B ↔ Clash A B := by
  constructor
  ·rintro ⟨x, hx, y, hy, e, hne⟩
   rcases List.mem_cons.1 hx with rfl | hx
   ·exact absurd ⟨y, hy, e.symm⟩ hd
   ·exact ⟨x, hx, y, hy, e, hne⟩
  ·rintro ⟨x, hx, y, hy, e, hne⟩
   exact ⟨x, by simp [hx], y, hy, e, hne⟩
 have hdc : ∀ y ∈ B, (q4h (a :: A) y.dot ↔ q4h A y.dot) := fun y hy => by
  constructor
  ·rintro ⟨x, hx, e⟩
   rcases List.mem_cons.1 hx with rfl | hx
   ·exact absurd e (q7a (hB y hy))
   ·exact ⟨x, hx, e⟩
  ·rintro ⟨x, hx, e⟩
   exact ⟨x, by simp [hx], e⟩
 cases r with
 | none => exact hc.2 h
 | some L =>
  obtain ⟨h1, h2, h3⟩ := h
  refine ⟨fun h => h1 (hc.1 h), ?_, fun e => ?_⟩
  ·show znf (qey (ka a) a ++ L)
   unfold qey
   split
   ·refine List.Pairwise.cons (fun x hx => ?_) h2
    rcases (h3 x).1 hx with h | h
    ·exact hA x h.1
    ·exact hB x h.1
   ·exact h2
  ·rw [List.mem_append, mem_opt1, h3]
   unfold InM
   constructor
   ·rintro (⟨hk, rfl⟩ | ⟨hx, hk⟩ | ⟨hx, hk⟩)
    ·exact .inl ⟨by simp, .inr hk⟩
    ·exact .inl ⟨by simp [hx], hk⟩
    ·exact .inr ⟨hx, by rw [hdc e hx]; exact hk⟩
   ·rintro (⟨hx, hk⟩ | ⟨hx, hk⟩)
    ·rcases List.mem_cons.1 hx with rfl | hx
     ·exact .inl ⟨hk.resolve_left hd, rfl⟩
     ·exact .inr (.inl ⟨hx, hk⟩)
    ·exact .inr (.inr ⟨hx, by rw [hdc e hx] at hk; exact hk⟩)
theorem Clash.symm {A B : List Ent} (h : Clash A B) : Clash B A := by
 obtain ⟨a, ha, b, hb, e, hne⟩ := h
 exact ⟨b, hb, a, ha, e.symm, fun h => hne h.symm⟩
theorem MSpec.symm {ka kb : Ent → Bool} {A B : List Ent} {r : Option (List Ent)} (h : MSpec ka kb A B r) : MSpec kb ka B A r := by
 cases r with
 | none => exact Clash.symm h
 | some L => exact ⟨fun hc => h.1 hc.symm, h.2.1, fun e => by rw [h.2.2 e]; unfold InM; exact or_comm⟩
theorem MSpec.stepBoth {ka kb : Ent → Bool} {a : Ent} {A B : List Ent} (hA : ∀ x ∈ A, lt2 a x) (hB : ∀ x ∈ B, lt2 a x) {r : Option (List Ent)} (h : MSpec ka kb A B r) : MSpec ka kb (a :: A) (a :: B) (r.map (a :: ·)) := by
 have hc : Clash (a :: A) (a :: B) ↔ Clash A B := by
  constructor
  ·rintro ⟨x, hx, y, hy, e, hne⟩
   rcases List.mem_cons.1 hx with rfl | hx
   ·rcases List.mem_cons.1 hy with rfl | hy
    ·exact absurd rfl hne
    ·exact absurd e (q7a (hB y hy))
   ·rcases List.mem_cons.1 hy with h0 | hy
    ·rw [h0] at e
     exact absurd e.symm (q7a (hA x hx))
    ·exact ⟨x, hx, y, hy, e, hne⟩
  ·rintro ⟨x, hx, y, hy, e, hne⟩
   exact ⟨x, by simp [hx], y, by simp [hy], e, hne⟩
 have hd : ∀ {C : List Ent} (y : Ent), lt2 a y → (q4h (a :: C) y.dot ↔ q4h C y.dot) := fun {C} y hy => by
  constructor
  ·rintro ⟨x, hx, e⟩
   rcases List.mem_cons.1 hx with rfl | hx
   ·exact absurd e (q7a hy)
   ·exact ⟨x, hx, e⟩
  ·rintro ⟨x, hx, e⟩
   exact ⟨x, by simp [hx], e⟩
 cases r with
 | none => exact hc.2 h
 | some L =>
  obtain ⟨h1, h2, h3⟩ := h
  refine ⟨fun h => h1 (hc.1 h), ?_, fun e => ?_⟩
  ·refine List.Pairwise.cons (fun x hx => ?_) h2
   rcases (h3 x).1 hx with h | h
   ·exact hA x h.1
   ·exact hB x h.1
  ·show e ∈ a :: L ↔ _
   rw [List.mem_cons, h3]
   unfold InM
   constructor
   ·rintro (rfl | ⟨hx, hk⟩ | ⟨hx, hk⟩)
    ·exact .inl ⟨by simp, .inl ⟨e, by simp, rfl⟩⟩
    ·exact .inl ⟨by simp [hx], by rw [hd e (hA e hx)]; exact hk⟩
    ·exact .inr ⟨by simp [hx], by rw [hd e (hB e hx)]; exact hk⟩
   ·rintro (⟨hx, hk⟩ | ⟨hx, hk⟩)
    ·rcases List.mem_cons.1 hx with rfl | hx
     ·exact .inl rfl
     ·exact .inr (.inl ⟨hx, by rw [hd e (hA e hx)] at hk; exact hk⟩)
    ·rcases List.mem_cons.1 hx with rfl | hx
     ·exact .inl rfl
     ·exact .inr (.inr ⟨hx, by rw [hd e (hB e hx)] at hk; exact hk⟩)
theorem qnt (ka kb : Ent → Bool) : MSpec ka kb [] [] (some []) :=
 ⟨fun ⟨a, ha, _⟩ => absurd ha (by simp), List.Pairwise.nil, fun e => by simp [InM]⟩
theorem q50 (ka kb : Ent → Bool) : ∀ (n : Nat) (A B : List Ent), A.length + B.length ≤ n → znf A → znf B → MSpec ka kb A B (q62 ka kb n A B)
 | 0, A, B, h, _, _ => by
  have h1 : A = [] := List.length_eq_zero_iff.1 (by omega)
  have h2 : B = [] := List.length_eq_zero_iff.1 (by omega)
  subst h1; subst h2
  exact qnt ka kb
 | n + 1, [], [], _, _, _ => qnt ka kb
 | n + 1, a :: A, [], h, hA, hB => MSpec.stepA (List.pairwise_cons.1 hA).1 (fun x hx => by cases hx) (q50 ka kb n A [] (by simp at h ⊢; omega) (List.pairwise_cons.1 hA).2 hB)
 | n + 1, [], b :: B, h, hA, hB => (MSpec.stepA (List.pairwise_cons.1 hB).1 (fun x hx => by cases hx) (q50 ka kb n [] B (by simp at h ⊢; omega) hA (List.pairwise_cons.1 hB).2).symm).symm
 | n + 1, a :: A, b :: B, h, hA, hB => by
  obtain ⟨a1, a2⟩ := List.pairwise_cons.1 hA
  obtain ⟨b1, b2⟩ := List.pairwise_cons.1 hB
  simp only [List.length_cons] at h
  unfold q62
  split
  ·rename_i hab
   refine MSpec.stepA a1 (fun x hx => ?_) (q50 ka kb n A (b :: B) (by simp; omega) a2 hB)
   rcases List.mem_cons.1 hx with rfl | hx
   ·exact hab
   ·exact q9c hab (b1 x hx)
  ·rename_i hab
   split
   ·rename_i hba
    refine (MSpec.stepA b1 (fun x hx => ?_) (q50 ka kb n (a :: A) B (by simp; omega) hA b2).symm).symm
    rcases List.mem_cons.1 hx with rfl | hx
    ·exact hba
    ·exact q9c hba (a1 x hx)
   ·rename_i hba
    have hd := qql a.dot b.dot (by simpa using hab) (by simpa using hba)
    split
    ·rename_i he
     have he := (qag a b).1 he
     subst he
     exact MSpec.stepBoth a1 b1 (q50 ka kb n A B (by omega) a2 b2)
    ·rename_i he
     exact ⟨a, by simp, b, by simp, hd, fun e => he ((qag a b).2 e)⟩

def z4y : List SOp := [⟨some 8,.assign (.const (.int .i64 0)),none⟩]
instance : Live z4y := ⟨[0,1,2,3]⟩
def z4x : List SOp := [⟨some 10,.move (.tmp 1),none⟩,⟨some 11,.move (.tmp 0),none⟩,⟨some 12,.call ⟨.builtin .len,#[.tmp 11],#[22]⟩,none⟩,⟨some 13,.binOp .eql 3 (.tmp 10) (.tmp 12) 3,none⟩,⟨some 9,.assign (.tmp 13),none⟩]
instance : Live z4x := ⟨[0,1,2,3]⟩
def z4w : List SOp := [⟨some 8,.assign (.const (.int .i64 1)),none⟩]
instance : Live z4w := ⟨[]⟩
def z4v : List SOp := [⟨some 15,.move (.tmp 3),none⟩,⟨some 16,.move (.tmp 2),none⟩,⟨some 17,.call ⟨.builtin .len,#[.tmp 16],#[22]⟩,none⟩,⟨some 18,.binOp .eql 3 (.tmp 15) (.tmp 17) 3,none⟩,⟨some 14,.assign (.tmp 18),none⟩]
instance : Live z4v := ⟨[0,1,2,3]⟩
def z4u : List SOp := [⟨some 8,.assign (.const (.int .i64 (-1))),none⟩]
instance : Live z4u := ⟨[]⟩
def z4t : List SOp := [⟨some 20,.move (.tmp 0),none⟩,⟨some 21,.move (.tmp 1),none⟩,⟨some 22,.indexAddr 22 (.tmp 20) (.tmp 21),none⟩,⟨some 23,.fieldAddr 62 (.tmp 22) 0,none⟩,⟨some 24,.load 41 (.tmp 23),none⟩,⟨some 25,.move (.tmp 2),none⟩,⟨some 26,.move (.tmp 3),none⟩,⟨some 27,.indexAddr 22 (.tmp 25) (.tmp 26),none⟩,⟨some 28,.fieldAddr 62 (.tmp 27) 0,none⟩,⟨some 29,.load 41 (.tmp 28),none⟩,⟨some 30,.binOp .eql 41 (.tmp 24) (.tmp 29) 41,none⟩,⟨some 19,.assign (.tmp 30),none⟩]
instance : Live z4t := ⟨[0,1,2,3]⟩
def z4s : List SOp := [⟨some 8,.assign (.const (.int .i64 0)),none⟩]
instance : Live z4s := ⟨[]⟩
def z4r : List SOp := [⟨some 32,.move (.tmp 0),none⟩,⟨some 33,.move (.tmp 1),none⟩,⟨some 34,.indexAddr 22 (.tmp 32) (.tmp 33),none⟩,⟨some 35,.fieldAddr 62 (.tmp 34) 0,none⟩,⟨some 36,.fieldAddr 41 (.tmp 35) 0,none⟩,⟨some 37,.load 3 (.tmp 36),none⟩,⟨some 38,.move (.tmp 2),none⟩,⟨some 39,.move (.tmp 3),none⟩,⟨some 40,.indexAddr 22 (.tmp 38) (.tmp 39),none⟩,⟨some 41,.fieldAddr 62 (.tmp 40) 0,none⟩,⟨some 42,.fieldAddr 41 (.tmp 41) 0,none⟩,⟨some 43,.load 3 (.tmp 42),none⟩,⟨some 44,.binOp .neq 3 (.tmp 37) (.tmp 43) 3,none⟩,⟨some 31,.assign (.tmp 44),none⟩]
instance : Live z4r := ⟨[0,1,2,3]⟩
def z4q : List SOp := [⟨some 45,.move (.tmp 0),none⟩,⟨some 46,.move (.tmp 1),none⟩,⟨some 47,.indexAddr 22 (.tmp 45) (.tmp 46),none⟩,⟨some 48,.fieldAddr 62 (.tmp 47) 0,none⟩,⟨some 49,.fieldAddr 41 (.tmp 48) 0,none⟩,⟨some 50,.load 3 (.tmp 49),none⟩,⟨some 51,.move (.tmp 2),none⟩,⟨some 52,.move (.tmp 3),none⟩,⟨some 53,.indexAddr 22 (.tmp 51) (.tmp 52),none⟩,⟨some 54,.fieldAddr 62 (.tmp 53) 0,none⟩,⟨some 55,.fieldAddr 41 (.tmp 54) 0,none⟩,⟨some 56,.load 3 (.tmp 55),none⟩,⟨some 57,.binOp .sub 3 (.tmp 50) (.tmp 56) 3,none⟩,⟨some 8,.assign (.tmp 57),none⟩]
instance : Live z4q := ⟨[0,1,2,3]⟩
def qn7 : List SOp := [⟨some 58,.move (.tmp 0),none⟩,⟨some 59,.move (.tmp 1),none⟩,⟨some 60,.indexAddr 22 (.tmp 58) (.tmp 59),none⟩,⟨some 61,.fieldAddr 62 (.tmp 60) 0,none⟩,⟨some 62,.fieldAddr 41 (.tmp 61) 1,none⟩,⟨some 63,.load 3 (.tmp 62),none⟩,⟨some 64,.move (.tmp 2),none⟩,⟨some 65,.move (.tmp 3),none⟩,⟨some 66,.indexAddr 22 (.tmp 64) (.tmp 65),none⟩,⟨some 67,.fieldAddr 62 (.tmp 66) 0,none⟩,⟨some 68,.fieldAddr 41 (.tmp 67) 1,none⟩,⟨some 69,.load 3 (.tmp 68),none⟩,⟨some 70,.binOp .sub 3 (.tmp 63) (.tmp 69) 3,none⟩,⟨some 8,.assign (.tmp 70),none⟩]
instance : Live qn7 := ⟨[0,1,2,3]⟩
def qeo : SC :=
 (.seq (.ops false z4y) (.seq (.block 0 (.seq (.ops false z4x) (.cond (.tmp 9) (.seq (.ops false z4w) .ret) (.seq (.ops false z4v) (.cond (.tmp 14) (.seq (.ops false z4u) .ret) (.seq (.ops true z4t) (.cond (.tmp 19) (.seq (.ops false z4s) .ret) (.seq (.ops true z4r) (.cond (.tmp 31) (.seq (.ops true z4q) .ret) .skip))))))))) (.seq (.ops true qn7) .ret)))
theorem qd8 : FnIs Tryz.prog 112 71 [.tmp 8] qeo := ⟨Tryz.f112, _, Tryz.func112, rfl, rfl, rfl, rfl, by kernel_rfl⟩

def zf3 : List SOp := [⟨some 5,.box 26 (.tmp 1),none⟩,⟨some 7,.box 26 (.tmp 3),none⟩,⟨some 8,.assign (.const (.slice none 0 0)),none⟩,⟨some 9,.assign (.const (.int .i64 0)),none⟩]
instance : Live zf3 := ⟨[0,1,2,3]⟩
def zf2 : List SOp := [⟨some 14,.move (.tmp 0),none⟩,⟨some 15,.call ⟨.value (.func 53),#[.tmp 14],#[22]⟩,none⟩,⟨some 16,.binOp .neq 32 (.tmp 15) (.const (.int .i64 0)) 32,none⟩,⟨some 17,.move (.tmp 16),none⟩,⟨some 18,.load 26 (.tmp 5),some ((some 17),false)⟩,⟨some 19,.call ⟨.value (.func 54),#[.tmp 18],#[26]⟩,some ((some 17),false)⟩,⟨some 20,.unOp .not 4 (.tmp 19),some ((some 17),false)⟩,⟨some 21,.pick (.tmp 17) (.const (.bool true)) (.tmp 20),none⟩,⟨some 22,.move (.tmp 21),none⟩,⟨some 23,.move (.tmp 2),some ((some 22),false)⟩,⟨some 24,.call ⟨.value (.func 53),#[.tmp 23],#[22]⟩,some ((some 22),false)⟩,⟨some 25,.binOp .neq 32 (.tmp 24) (.const (.int .i64 0)) 32,some ((some 22),false)⟩,⟨some 26,.pick (.tmp 22) (.const (.bool true)) (.tmp 25),none⟩,⟨some 27,.move (.tmp 26),none⟩,⟨some 28,.load 26 (.tmp 7),some ((some 27),false)⟩,⟨some 29,.call ⟨.value (.func 54),#[.tmp 28],#[26]⟩,some ((some 27),false)⟩,⟨some 30,.unOp .not 4 (.tmp 29),some ((some 27),false)⟩,⟨some 31,.pick (.tmp 27) (.const (.bool true)) (.tmp 30),none⟩]
instance : Live zf2 := ⟨[0,2,5,7]⟩
def zf1 : List SOp := [⟨some 8,.assign (.const (.slice none 0 0)),none⟩,⟨some 9,.assign (.const (.int .i64 1)),none⟩]
instance : Live zf1 := ⟨[]⟩
def zf0 : List SOp := [⟨some 10,.assign (.const (.slice none 0 0)),none⟩]
instance : Live zf0 := ⟨[0,2,5,7]⟩
def zez : List SOp := [⟨some 11,.assign (.const (.int .i64 0)),none⟩,⟨some 12,.assign (.const (.int .i64 0)),none⟩]
instance : Live zez := ⟨[0,2,5,7,10]⟩
def zey : List SOp := [⟨some 32,.move (.tmp 11),none⟩,⟨some 33,.move (.tmp 0),none⟩,⟨some 34,.call ⟨.builtin .len,#[.tmp 33],#[22]⟩,none⟩,⟨some 35,.binOp .lss 3 (.tmp 32) (.tmp 34) 3,none⟩,⟨some 36,.move (.tmp 35),none⟩,⟨some 37,.move (.tmp 12),some ((some 36),false)⟩,⟨some 38,.move (.tmp 2),some ((some 36),false)⟩,⟨some 39,.call ⟨.builtin .len,#[.tmp 38],#[22]⟩,some ((some 36),false)⟩,⟨some 40,.binOp .lss 3 (.tmp 37) (.tmp 39) 3,some ((some 36),false)⟩,⟨some 41,.pick (.tmp 36) (.const (.bool true)) (.tmp 40),none⟩]
instance : Live zey := ⟨[0,2,5,7,10,11,12]⟩
def zex : List SOp := [⟨some 42,.move (.tmp 0),none⟩,⟨some 43,.move (.tmp 11),none⟩,⟨some 44,.move (.tmp 2),none⟩,⟨some 45,.move (.tmp 12),none⟩,⟨some 46,.call ⟨.value (.func 112),#[.tmp 42,.tmp 43,.tmp 44,.tmp 45],#[22,3,22,3]⟩,none⟩,⟨some 13,.assign (.tmp 46),none⟩]
instance : Live zex := ⟨[0,2,5,7,10,11,12]⟩
def zew : List SOp := [⟨some 68,.move (.tmp 13),none⟩,⟨some 69,.binOp .lss 3 (.tmp 68) (.const (.int .i64 0)) 3,none⟩,⟨some 67,.assign (.tmp 69),none⟩]
instance : Live zew := ⟨[0,2,5,7,10,11,12,13]⟩
def zev : List SOp := [⟨some 70,.load 26 (.tmp 7),none⟩,⟨some 71,.move (.tmp 0),none⟩,⟨some 72,.move (.tmp 11),none⟩,⟨some 73,.indexAddr 22 (.tmp 71) (.tmp 72),none⟩,⟨some 74,.fieldAddr 62 (.tmp 73) 0,none⟩,⟨some 75,.load 41 (.tmp 74),none⟩,⟨some 76,.call ⟨.value (.func 51),#[.tmp 70,.tmp 75],#[26,41]⟩,none⟩,⟨some 77,.unOp .not 4 (.tmp 76),none⟩]
instance : Live zev := ⟨[0,2,5,7,10,11,12]⟩
def qtg : List SOp := [⟨some 78,.move (.tmp 10),none⟩,⟨some 79,.move (.tmp 0),none⟩,⟨some 80,.move (.tmp 11),none⟩,⟨some 81,.indexAddr 22 (.tmp 79) (.tmp 80),none⟩,⟨some 82,.load 62 (.tmp 81),none⟩,⟨some 83,.buildSlice 22 1 #[(0,.tmp 82)],none⟩,⟨some 84,.call ⟨.builtin .append,#[.tmp 78,.tmp 83],#[22,22]⟩,none⟩,⟨some 10,.assign (.tmp 84),none⟩]
instance : Live qtg := ⟨[0,2,5,7,10,11,12]⟩
def qtf : List SOp := [⟨some 85,.move (.tmp 11),none⟩,⟨some 86,.binOp .add 3 (.tmp 85) (.const (.int .i64 1)) 3,none⟩,⟨some 11,.assign (.tmp 86),none⟩]
instance : Live qtf := ⟨[0,2,5,7,10,11,12]⟩
def qte : List SOp := [⟨some 88,.move (.tmp 13),none⟩,⟨some 89,.binOp .gtr 3 (.tmp 88) (.const (.int .i64 0)) 3,none⟩,⟨some 87,.assign (.tmp 89),none⟩]
instance : Live qte := ⟨[0,2,5,7,10,11,12,13]⟩
def qtd : List SOp := [⟨some 90,.load 26 (.tmp 5),none⟩,⟨some 91,.move (.tmp 2),none⟩,⟨some 92,.move (.tmp 12),none⟩,⟨some 93,.indexAddr 22 (.tmp 91) (.tmp 92),none⟩,⟨some 94,.fieldAddr 62 (.tmp 93) 0,none⟩,⟨some 95,.load 41 (.tmp 94),none⟩,⟨some 96,.call ⟨.value (.func 51),#[.tmp 90,.tmp 95],#[26,41]⟩,none⟩,⟨some 97,.unOp .not 4 (.tmp 96),none⟩]
instance : Live qtd := ⟨[0,2,5,7,10,11,12]⟩
def qtc : List SOp := [⟨some 98,.move (.tmp 10),none⟩,⟨some 99,.move (.tmp 2),none⟩,⟨some 100,.move (.tmp 12),none⟩,⟨some 101,.indexAddr 22 (.tmp 99) (.tmp 100),none⟩,⟨some 102,.load 62 (.tmp 101),none⟩,⟨some 103,.buildSlice 22 1 #[(0,.tmp 102)],none⟩,⟨some 104,.call ⟨.builtin .append,#[.tmp 98,.tmp 103],#[22,22]⟩,none⟩,⟨some 10,.assign (.tmp 104),none⟩]
instance : Live qtc := ⟨[0,2,5,7,10,11,12]⟩
def qtb : List SOp := [⟨some 105,.move (.tmp 12),none⟩,⟨some 106,.binOp .add 3 (.tmp 105) (.const (.int .i64 1)) 3,none⟩,⟨some 12,.assign (.tmp 106),none⟩]
instance : Live qtb := ⟨[0,2,5,7,10,11,12]⟩
def qta : List SOp := [⟨some 47,.move (.tmp 0),none⟩,⟨some 48,.move (.tmp 11),none⟩,⟨some 49,.indexAddr 22 (.tmp 47) (.tmp 48),none⟩,⟨some 50,.load 62 (.tmp 49),none⟩,⟨some 51,.move (.tmp 2),none⟩,⟨some 52,.move (.tmp 12),none⟩,⟨some 53,.indexAddr 22 (.tmp 51) (.tmp 52),none⟩,⟨some 54,.load 62 (.tmp 53),none⟩,⟨some 55,.binOp .neq 62 (.tmp 50) (.tmp 54) 62,none⟩]
instance : Live qta := ⟨[0,2,5,7,10,11,12]⟩
def qt9 : List SOp := [⟨some 8,.assign (.const (.slice none 0 0)),none⟩,⟨some 9,.assign (.const (.int .i64 10)),none⟩]
instance : Live qt9 := ⟨[]⟩
def qt8 : List SOp := [⟨some 56,.move (.tmp 10),none⟩,⟨some 57,.move (.tmp 0),none⟩,⟨some 58,.move (.tmp 11),none⟩,⟨some 59,.indexAddr 22 (.tmp 57) (.tmp 58),none⟩,⟨some 60,.load 62 (.tmp 59),none⟩,⟨some 61,.buildSlice 22 1 #[(0,.tmp 60)],none⟩,⟨some 62,.call ⟨.builtin .append,#[.tmp 56,.tmp 61],#[22,22]⟩,none⟩,⟨some 10,.assign (.tmp 62),none⟩]
instance : Live qt8 := ⟨[0,2,5,7,10,11,12]⟩
def qt7 : List SOp := [⟨some 63,.move (.tmp 11),none⟩,⟨some 64,.binOp .add 3 (.tmp 63) (.const (.int .i64 1)) 3,none⟩,⟨some 65,.move (.tmp 12),none⟩,⟨some 66,.binOp .add 3 (.tmp 65) (.const (.int .i64 1)) 3,none⟩,⟨some 11,.assign (.tmp 64),none⟩,⟨some 12,.assign (.tmp 66),none⟩]
instance : Live qt7 := ⟨[0,2,5,7,10,11,12]⟩
def qt6 : List SOp := [⟨some 107,.move (.tmp 10),none⟩,⟨some 8,.assign (.tmp 107),none⟩,⟨some 9,.assign (.const (.int .i64 0)),none⟩]
instance : Live qt6 := ⟨[10]⟩
def qrj : SC :=
 (.seq (.seq (.ops false zey) (.cond (.tmp 41) .skip (.exit 0))) (.block 1 (.seq (.ops false zex) (.block 2 (.seq (.ops false zew) (.cond (.tmp 67) (.seq (.seq (.ops true zev) (.cond (.tmp 77) (.ops false qtg) .skip)) (.ops false qtf)) (.seq (.ops false qte) (.cond (.tmp 87) (.seq (.seq (.ops true qtd) (.cond (.tmp 97) (.ops false qtc) .skip)) (.ops false qtb)) (.seq (.seq (.ops true qta) (.cond (.tmp 55) (.seq (.ops false qt9) .ret) .skip)) (.seq (.ops false qt8) (.ops false qt7)))))))))))
def t_k65 : SC :=
 (.seq (.ops false zf3) (.seq (.seq (.ops false zf2) (.cond (.tmp 31) (.seq (.ops false zf1) .ret) .skip)) (.seq (.ops false zf0) (.seq (.ops false zez) (.seq (.block 0 (.loop qrj)) (.seq (.ops false qt6) .ret))))))
theorem it_k65 : FnIs Tryz.prog 65 108 [.tmp 8, .tmp 9] t_k65 := ⟨Tryz.f65, _, Tryz.func65, rfl, rfl, rfl, rfl, by kernel_rfl⟩

end Go.Proofs.YthejoeiecenjkaaGreat.Avm
