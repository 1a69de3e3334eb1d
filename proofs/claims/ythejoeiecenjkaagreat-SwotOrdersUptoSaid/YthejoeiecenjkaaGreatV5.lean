/- Part 5 of the proof: lemmas. -/
import Derived.Test.YthejoeiecenjkaaGreatV4
import Derived.Test.YthejoeiecenjkaaGreatProg
import Derived.KernelRfl
import Derived.Shelf.SlSortCmp.NoneTotal
set_option maxRecDepth 100000
set_option maxHeartbeats 4000000
set_option linter.unusedVariables false
set_option linter.unusedSimpArgs false
set_option linter.unusedSectionVars false
set_option linter.defProp false
namespace Go.Proofs.YthejoeiecenjkaaGreat.Avm
open Go.Proofs
theorem ev_k101 (e : Ent) : Ev (En Tryz.prog rfl).P 101 [qam e] (.ret (.int .i64 (q23 e))) := by
 refine Ev.of_body it_k101 (by simp) (Run.start ?_)
 unfold t_k101 qam q23
 have c1 := qqx e.sku
 generalize q7b e.sku = v at c1 ⊢
 by_cases h1 : e.rep < 0 ∨ 16 ≤ e.rep
 ·rw [if_pos h1]
  rcases h1 with h1 | h1
  all_goals
   (have hF := True.intro; refine q01 (k:=?_); clear hF)
  all_goals first | exact Fin.tmp' rfl rfl | (exfalso; omega)
 ·rw [if_neg h1]
  by_cases h2 : e.num < 1 ∨ 1000000000 < e.num
  ·rw [if_pos h2]
   rcases h2 with h2 | h2
   all_goals
    (have hF := True.intro; refine q01 (k:=?_); clear hF)
   all_goals first | exact Fin.tmp' rfl rfl | (exfalso; omega)
  ·rw [if_neg h2]
   (have hF := True.intro; refine q01 (k:=?_); clear hF)
   all_goals
    refine q00 [.str e.sku] (he := c1) (k:=?_)
    cases v
    case' false =>
     rw [if_pos rfl]
     (have hF := True.intro; refine q01 (k:=?_); clear hF)
     exact Fin.tmp' rfl rfl
    case' true =>
     rw [if_neg (by decide)]
     by_cases h3 : e.qty < 1 ∨ 1000000 < e.qty
     ·rw [if_pos h3]
      rcases h3 with h3 | h3
      all_goals
       (have hF := True.intro; refine q01 (k:=?_); clear hF)
      all_goals first | exact Fin.tmp' rfl rfl | (exfalso; omega)
     ·rw [if_neg h3]
      (have hF := True.intro; refine q01 (k:=?_); clear hF)
      all_goals first | exact Fin.tmp' rfl rfl | (exfalso; omega)
theorem ev_k102 (a b : Rn) : Ev (En Tryz.prog rfl).P 102 [q4h a, q4h b] (.ret (.bool (q3b a b))) := by
 refine Ev.of_body it_k102 (by simp) (Run.start ?_)
 unfold t_k102 q4h q3b
 by_cases h1 : a.1 < b.1
 ·rw [show (decide (a.1 < b.1) || (decide (a.1 = b.1) && decide (a.2 < b.2))) = true by simp [h1]]
  (have hF := True.intro; refine q01 (k:=?_); clear hF)
  exact Fin.tmp' rfl rfl
 ·by_cases h2 : a.1 = b.1
  ·rw [show (decide (a.1 < b.1) || (decide (a.1 = b.1) && decide (a.2 < b.2))) = decide (a.2 < b.2) by simp [h1, h2]]
   (have hF := True.intro; refine q01 (k:=?_); clear hF)
   exact Fin.tmp' rfl rfl
  ·rw [show (decide (a.1 < b.1) || (decide (a.1 = b.1) && decide (a.2 < b.2))) = false by simp [h1, h2]]
   (have hF := True.intro; refine q01 (k:=?_); clear hF)
   exact Fin.tmp' rfl rfl
theorem zkk (d : Rn) : Ev (En Tryz.prog rfl).P 111 [q4h d] (.ret (.bool (q3n d.1 d.2))) := by
 refine Ev.of_body it_k111 (by simp) (Run.start ?_)
 unfold t_k111 q4h q3n
 by_cases h1 : 0 ≤ d.1 <;> by_cases h2 : d.1 < 16 <;> by_cases h3 : 1 ≤ d.2 <;> by_cases h4 : d.2 ≤ 1000000000
 all_goals
  simp only [h1, h2, h3, h4, decide_true, decide_false, Bool.and_true, Bool.and_false, Bool.true_and, Bool.false_and]
  (have hF := True.intro; refine q01 (k:=?_); clear hF)
  all_goals first | exact Fin.tmp' rfl rfl | (exfalso; omega)
theorem qfe {l : List Ent} {i : Nat} {r : Ent} (hr : l[i]? = some r) (hI : (∀ (j : Nat) q, j < i → l[j]? = some q → q23 q = 0) ∧ ∀ (j : Nat) a b, j + 1 < i → l[j]? = some a → l[j + 1]? = some b → q3b a.dot b.dot = true) (h0 : q23 r = 0)
 (h1 : ∀ q, 0 < i → l[i - 1]? = some q → q3b q.dot r.dot = true) : (∀ (j : Nat) q, j < i + 1 → l[j]? = some q → q23 q = 0) ∧ ∀ (j : Nat) a b, j + 1 < i + 1 → l[j]? = some a → l[j + 1]? = some b → q3b a.dot b.dot = true := by
 refine ⟨fun j q hj hq => ?_, fun j a b hj ha hb => ?_⟩
 ·by_cases e : j = i
  ·subst e; rw [hr] at hq; cases hq; exact h0
  ·exact hI.1 j q (by omega) hq
 ·by_cases e : j + 1 = i
  ·subst e
   rw [hr] at hb
   cases hb
   exact h1 a (by omega) (by simpa using ha)
  ·exact hI.2 j a b (by omega) ha hb
theorem qoq {l : List Ent} {i : Nat} (hi : l.length ≤ i) (hI : (∀ (j : Nat) q, j < i → l[j]? = some q → q23 q = 0) ∧ ∀ (j : Nat) a b, j + 1 < i → l[j]? = some a → l[j + 1]? = some b → q3b a.dot b.dot = true) : q77 l :=
 ⟨fun j q hq => hI.1 j q (by
  rcases Nat.lt_or_ge j l.length with h | h
  ·omega
  ·rw [List.getElem?_eq_none h] at hq; cases hq) hq, fun j a b ha hb => hI.2 j a b (by
  rcases Nat.lt_or_ge (j + 1) l.length with h | h
  ·omega
  ·rw [List.getElem?_eq_none h] at hb; cases hb) ha hb⟩
theorem qox (l : List Ent) (hl : l.length ≤ 1000000000) : Ev (En Tryz.prog rfl).P 53 [.sl 4 (q0e l)] (.ret (.int .i64 (if q7d l = true then 0 else 1))) := by
 refine Ev.of_body it_k53 (by simp) (Run.start ?_)
 unfold t_k53
 have e1 := q0q l
 have hS := qps
 (have hF := @e1; refine q01 (k:=?_); clear hF)
 refine Run.while (σ := Nat) (fun i => ⟨tms [(0, .sl 4 (q0e l)), (5, .sl 4 (q0e l)), (6, .int .i64 (l.length : Int)), (7, .int .i64 (i : Int))], mms []⟩)
  (fun i => i ≤ l.length ∧ (∀ (j : Nat) q, j < i → l[j]? = some q → q23 q = 0) ∧ ∀ (j : Nat) a b, j + 1 < i → l[j]? = some a → l[j + 1]? = some b → q3b a.dot b.dot = true) (fun i => l.length - i) 0 (have hW := @q09; q0h) ⟨Nat.zero_le _, fun j q hj => absurd hj (Nat.not_lt_zero _), fun j a b hj => by omega⟩ ?_
 rintro i ⟨hi, hI⟩
 unfold qs5
 by_cases hlt : i < l.length
 ·obtain ⟨r, hr⟩ : ∃ r, l[i]? = some r := ⟨l[i], by simp [hlt]⟩
  have g1 := q1a hr
  have c1 := ev_k101 r
  have hst := fun h0 h1 => qfe hr hI h0 h1
  have hbad : q23 r ≠ 0 → ¬ q77 l := fun h hf => h (hf.1 i r hr)
  generalize q23 r = v at c1 hst hbad
  (have hF := (aI @e1 @g1); refine q01 (k:=?_); clear hF)
  refine q00 [qam r] (he := c1) (k:=?_)
  by_cases hv : v = 0
  ·by_cases h0 : i = 0
   ·have hst := hst hv (fun q hq => by omega)
    have h0' : (i : Int) = 0 := by omega
    (have hF := (aI (aI @e1 @g1) (aI @hv @h0')); refine q01 (k:=?_); clear hF)
    have hi1 : ((0 : Int) + 1) = ((i + 1 : Nat) : Int) := by omega
    (refine Fin.nextW (i + 1) ?_ (have hW := (aI @q09 @hi1); q0h); (try dsimp only))
    exact ⟨⟨hlt, hst⟩, by omega⟩
   ·obtain ⟨q, hq⟩ : ∃ q, l[i - 1]? = some q := ⟨l[i - 1]'(by omega), by simp [show i - 1 < l.length by omega]⟩
    have g2 := q1a hq
    have hpw : IntKind.i64.wrap ((i : Int) - 1) = ((i - 1 : Nat) : Int) := by rw [q2l (by omega)]; omega
    have c2 := ev_k102 q.dot r.dot
    have hst := hst hv
    have hbad2 : q3b q.dot r.dot = false → ¬ q77 l := fun h hf => by
     have := hf.2 (i - 1) q r hq (by rw [show i - 1 + 1 = i by omega]; exact hr)
     rw [h] at this
     cases this
    have hst : q3b q.dot r.dot = true → _ := fun h => hst (fun q' _ hq' => by rw [hq] at hq'; cases hq'; exact h)
    generalize q3b q.dot r.dot = u at c2 hst hbad2
    (have hF := (aI (aI @e1 @g1) (aI @g2 (aI @hv @hpw))); refine q01 (k:=?_); clear hF)
    refine q00 [q4h q.dot, q4h r.dot] (he := c2) (k:=?_)
    cases u
    ·rw [q71 (hbad2 rfl)]
     (have hF := (aI @e1 @g1); refine q01 (k:=?_); clear hF)
     exact Fin.tmp' rfl rfl
    ·have hst := hst rfl
     (have hF := (aI @e1 @g1); refine q01 (k:=?_); clear hF)
     (refine Fin.nextW (i + 1) ?_ (have hW := @q09; q0h); (try dsimp only))
     exact ⟨⟨hlt, hst⟩, by omega⟩
  ·rw [q71 (hbad hv)]
   (have hF := (aI @e1 (aI @g1 @hv)); refine q01 (k:=?_); clear hF)
   exact Fin.tmp' rfl rfl
 ·rw [q4u (qoq (by omega) hI)]
  (have hF := @e1; refine q01 (k:=?_); clear hF)
  exact Fin.tmp' rfl rfl
theorem z9o (e : Ent) : q23 e = 0 ↔ q3n e.rep e.num = true ∧ q7b e.sku = true ∧ ¬ e.qty < 1 ∧ ¬ 1000000 < e.qty := by
 rw [q9n]
 unfold q23
 split
 ·constructor
  ·intro h; simp at h
  ·intro h; omega
 ·split
  ·constructor
   ·intro h; simp at h
   ·intro h; omega
  ·split
   ·rename_i h
    constructor
    ·intro h; simp at h
    ·intro h'; rw [h] at h'; simp at h'
   ·rename_i h
    split
    ·constructor
     ·intro h; simp at h
     ·intro h; omega
    ·constructor
     ·intro _; exact ⟨by omega, by simpa using h, by omega, by omega⟩
     ·intro _; rfl

def zek : List SOp := [zO 2 (.box 26 (.tmp 0)),zO 3 (.box 41 (.tmp 1)),zO 4 (.assign (.const (.bool false)))]
instance : Live zek := ⟨[0,1]⟩
def zej : List SOp := [zL 7 41 3,zO 8 (.call ⟨.value (.func 111),#[.tmp 7],#[41]⟩),zO 9 (.unOp .not 4 (.tmp 8))]
instance : Live zej := ⟨[2,3]⟩
def zei : List SOp := [zO 4 (.assign (.const (.bool false)))]
instance : Live zei := ⟨[]⟩
def zeh : List SOp := [zF 10 41 3 0,zL 11 3 10,zF 12 26 2 0,zL 13 23 12,zO 14 (.call ⟨.builtin .len,#[.tmp 13],#[23]⟩),zO 15 (.binOp .lss 3 (.tmp 11) (.tmp 14) 3),zM 16 15,⟨some 17,.fieldAddr 41 (.tmp 3) 1,some ((some 16),true)⟩,⟨some 18,.load 3 (.tmp 17),some ((some 16),true)⟩,⟨some 19,.fieldAddr 26 (.tmp 2) 0,some ((some 16),true)⟩,⟨some 20,.load 23 (.tmp 19),some ((some 16),true)⟩,⟨some 21,.fieldAddr 41 (.tmp 3) 0,some ((some 16),true)⟩,⟨some 22,.load 3 (.tmp 21),some ((some 16),true)⟩,⟨some 23,.indexAddr 23 (.tmp 20) (.tmp 22),some ((some 16),true)⟩,⟨some 24,.load 3 (.tmp 23),some ((some 16),true)⟩,⟨some 25,.binOp .leq 3 (.tmp 18) (.tmp 24) 3,some ((some 16),true)⟩,zO 26 (.pick (.tmp 16) (.tmp 25) (.const (.bool false)))]
instance : Live zeh := ⟨[2,3]⟩
def zeg : List SOp := [zO 4 (.assign (.const (.bool true)))]
instance : Live zeg := ⟨[]⟩
def zef : List SOp := [zO 5 (.assign (.const (.int .i64 0)))]
instance : Live zef := ⟨[2,3]⟩
def zee : List SOp := [zM 27 5,zF 28 26 2 1,zL 29 24 28,zO 30 (.call ⟨.builtin .len,#[.tmp 29],#[24]⟩),zO 31 (.binOp .lss 3 (.tmp 27) (.tmp 30) 3)]
instance : Live zee := ⟨[2,3,5]⟩
def zed : List SOp := [zF 34 26 2 1,zL 35 24 34,zM 36 5,zI 37 24 35 36,zL 38 127 37,zO 6 (.alloc 127),⟨none,.store 127 (.tmp 6) (.tmp 38),none⟩]
instance : Live zed := ⟨[2,3,5]⟩
def zec : List SOp := [zF 39 127 6 0,zL 40 3 39,zF 41 41 3 0,zL 42 3 41,zO 43 (.binOp .eql 3 (.tmp 40) (.tmp 42) 3),zM 44 43,⟨some 45,.fieldAddr 127 (.tmp 6) 1,some ((some 44),true)⟩,⟨some 46,.load 3 (.tmp 45),some ((some 44),true)⟩,⟨some 47,.fieldAddr 41 (.tmp 3) 1,some ((some 44),true)⟩,⟨some 48,.load 3 (.tmp 47),some ((some 44),true)⟩,⟨some 49,.binOp .leq 3 (.tmp 46) (.tmp 48) 3,some ((some 44),true)⟩,zO 50 (.pick (.tmp 44) (.tmp 49) (.const (.bool false))),zM 51 50,⟨some 52,.fieldAddr 41 (.tmp 3) 1,some ((some 51),true)⟩,⟨some 53,.load 3 (.tmp 52),some ((some 51),true)⟩,⟨some 54,.fieldAddr 127 (.tmp 6) 2,some ((some 51),true)⟩,⟨some 55,.load 3 (.tmp 54),some ((some 51),true)⟩,⟨some 56,.binOp .leq 3 (.tmp 53) (.tmp 55) 3,some ((some 51),true)⟩,zO 57 (.pick (.tmp 51) (.tmp 56) (.const (.bool false)))]
instance : Live zec := ⟨[2,3,5,6]⟩
def qti : List SOp := [zO 4 (.assign (.const (.bool true)))]
instance : Live qti := ⟨[]⟩
def qth : List SOp := [zM 32 5,zO 33 (.binOp .add 3 (.tmp 32) (.const (.int .i64 1)) 3),zG 5 33]
instance : Live qth := ⟨[2,3,5]⟩
def qtg : List SOp := [zO 4 (.assign (.const (.bool false)))]
instance : Live qtg := ⟨[]⟩
def qs0 : SC :=
 (.seq (.seq (.ops false zee) (.cond (.tmp 31) .skip (.exit 0))) (.seq (.block 1 (.seq (.ops false zed) (.seq (.ops false zec) (.cond (.tmp 57) (.seq (.ops false qti) .ret) .skip)))) (.ops false qth)))
def t_k62 : SC :=
 (.seq (.ops false zek) (.seq (.seq (.ops false zej) (.cond (.tmp 9) (.seq (.ops false zei) .ret) .skip)) (.seq (.seq (.ops true zeh) (.cond (.tmp 26) (.seq (.ops false zeg) .ret) .skip)) (.seq (.seq (.ops false zef) (.block 0 (.loop qs0))) (.seq (.ops false qtg) .ret)))))
theorem it_k62 : FnIs Tryz.prog 62 58 [.tmp 4] t_k62 := ⟨Tryz.f62, _, Tryz.func62, rfl, rfl, rfl, rfl, by kernel_rfl⟩

def z0o : List SOp := [zO 2 (.box 91 (.tmp 0)),zO 3 (.box 62 (.tmp 1)),zO 4 (.assign (.const (.bool false)))]
instance : Live z0o := ⟨[0,1]⟩
def z0n : List SOp := [zF 5 91 2 0,zL 6 9 5,zO 7 (.binOp .eql 9 (.tmp 6) (.const (.string ⟨#[]⟩)) 9),zM 8 7,⟨some 9,.fieldAddr 91 (.tmp 2) 0,some ((some 8),false)⟩,⟨some 10,.load 9 (.tmp 9),some ((some 8),false)⟩,⟨some 11,.fieldAddr 62 (.tmp 3) 1,some ((some 8),false)⟩,⟨some 12,.load 9 (.tmp 11),some ((some 8),false)⟩,⟨some 13,.binOp .eql 9 (.tmp 10) (.tmp 12) 9,some ((some 8),false)⟩,zO 14 (.pick (.tmp 8) (.const (.bool true)) (.tmp 13)),zM 15 14,⟨some 16,.fieldAddr 91 (.tmp 2) 1,some ((some 15),true)⟩,⟨some 17,.load 26 (.tmp 16),some ((some 15),true)⟩,⟨some 18,.fieldAddr 62 (.tmp 3) 0,some ((some 15),true)⟩,⟨some 19,.load 41 (.tmp 18),some ((some 15),true)⟩,⟨some 20,.call ⟨.value (.func 51),#[.tmp 17,.tmp 19],#[26,41]⟩,some ((some 15),true)⟩,zO 21 (.pick (.tmp 15) (.tmp 20) (.const (.bool false))),zG 4 21]
instance : Live z0n := ⟨[2,3]⟩
def t_k141 : SC :=
 (.seq (.ops false z0o) (.seq (.ops false z0n) .ret))
theorem it_k141 : FnIs Tryz.prog 141 22 [.tmp 4] t_k141 := ⟨Tryz.f141, _, Tryz.func141, rfl, rfl, rfl, rfl, by kernel_rfl⟩

def z56 : List SOp := [zO 3 (.box 62 (.tmp 1)),zO 4 (.assign (.const (.int .i64 0)))]
instance : Live z56 := ⟨[0,1]⟩
def z54 : List SOp := [zO 5 (.assign (.const (.int .i64 0)))]
instance : Live z54 := ⟨[0,3]⟩
def z52 : List SOp := [zM 8 0,zO 9 (.call ⟨.builtin .len,#[.tmp 8],#[27]⟩),zO 10 (.move (.const (.int .i64 0)))]
instance : Live z52 := ⟨[0,3,5]⟩
def z51 : List SOp := [zO 11 (.binOp .lss 3 (.tmp 10) (.tmp 9) 3)]
instance : Live z51 := ⟨[3,5,8,9,10]⟩
def z4z : List SOp := [zI 12 27 8 10,zL 13 91 12,zO 7 (.alloc 91),⟨none,.store 91 (.tmp 7) (.tmp 13),none⟩]
instance : Live z4z := ⟨[3,5,8,9,10]⟩
def z4y : List SOp := [zL 14 91 7,zL 15 62 3,zO 16 (.call ⟨.value (.func 141),#[.tmp 14,.tmp 15],#[91,62]⟩)]
instance : Live z4y := ⟨[3,5,7,8,9,10]⟩
def z4x : List SOp := [zM 17 5,zO 18 (.binOp .add 3 (.tmp 17) (.const (.int .i64 1)) 3),zG 5 18]
instance : Live z4x := ⟨[3,5,8,9,10]⟩
def z4w : List SOp := [zO 19 (.binOp .add 3 (.tmp 10) (.const (.int .i64 1)) 3),zM 10 19]
instance : Live z4w := ⟨[3,5,8,9,10]⟩
def z4v : List SOp := [zM 20 5,zG 4 20]
instance : Live z4v := ⟨[5]⟩
def qjg : SC :=
 (.seq (.ops false z51) (.seq (.cond (.tmp 11) .skip (.exit 0)) (.seq (.block 1 (.seq (.ops false z4z) (.seq (.ops false z4y) (.cond (.tmp 16) (.ops false z4x) .skip)))) (.ops false z4w))))
def t_k110 : SC :=
 (.seq (.ops false z56) (.seq (.ops false z54) (.seq (.seq (.ops false z52) (.block 0 (.loop qjg))) (.seq (.ops false z4v) .ret))))
theorem it_k110 : FnIs Tryz.prog 110 21 [.tmp 4] t_k110 := ⟨Tryz.f110, _, Tryz.func110, rfl, rfl, rfl, rfl, by kernel_rfl⟩

def z5h : List SOp := [zO 1 (.box 91 (.tmp 0)),zO 2 (.alloc 91)]
instance : Live z5h := ⟨[0]⟩
def z5g : List SOp := [zF 3 91 1 0,zL 4 9 3,zF 5 91 1 1,zL 6 26 5,zO 7 (.call ⟨.value (.func 64),#[.tmp 6],#[26]⟩),zO 8 (.build 91 #[(0,.tmp 4),(1,.tmp 7)]),⟨none,.store 91 (.tmp 2) (.tmp 8),none⟩]
instance : Live z5g := ⟨[1,2]⟩
def t_k108 : SC :=
 (.seq (.ops false z5h) (.seq (.ops true z5g) .ret))
theorem it_k108 : FnIs Tryz.prog 108 9 [.cell 2 91] t_k108 := ⟨Tryz.f108, _, Tryz.func108, rfl, rfl, rfl, rfl, by kernel_rfl⟩

theorem any_take {α : Type} {l : List α} {f : α → Bool} (i : Nat) (h : ∀ x ∈ l.take i, f x = false) (hi : l.length ≤ i) : l.any f = false := by
 rw [List.any_eq_false]
 intro x hx
 rw [List.take_of_length_le hi] at h
 simp [h x hx]
theorem q4q {α : Type} {l : List α} {q : α → Prop} {i : Nat} {x : α} (hx : l[i]? = some x) (h : ∀ y ∈ l.take i, q y) (hq : q x) : ∀ y ∈ l.take (i + 1), q y := by
 intro y hy
 rw [List.take_add_one, hx] at hy
 rcases List.mem_append.1 hy with hy | hy
 ·exact h y hy
 ·simp at hy; subst hy; exact hq
theorem ev_k62 (p : Pst) (d : Rn) (hw : wt p ≤ 900000000) : Ev (En Tryz.prog rfl).P 62 [q0g p, q4h d] (.ret (.bool (q1s p d))) := by
 refine Ev.of_body it_k62 (by simp) (Run.start ?_)
 have hwt : wt p = p.vec.length + p.cloud.length := rfl
 have e0 : (q05 p.vec).length = p.vec.length := q0f _
 have e9 : (q0d p.cloud).length = p.cloud.length := q1f _
 unfold t_k62 q0g q4h
 have c1 := zkk d
 generalize hv : q1s p d = v
 unfold q1s at hv
 (have hF := (aI @e0 @e9); refine q01 (k:=?_); clear hF)
 refine q00 [q4h d] (he := c1) (k:=?_)
 cases c0 : q3n d.1 d.2
 ·rw [c0, Bool.false_and] at hv
  subst hv
  (have hF := (aI @e0 @e9); refine q01 (k:=?_); clear hF)
  exact Fin.tmp' rfl rfl
 ·have hd : 0 ≤ d.1 ∧ d.1 < 16 := by simp [q3n] at c0; omega
  rw [c0, Bool.true_and] at hv
  obtain ⟨r, hr⟩ : ∃ r : Nat, d.1 = r := ⟨d.1.toNat, by omega⟩
  cases c2 : (decide (d.1 < p.vec.length) && decide (d.2 ≤ q1n p.vec d.1.toNat))
  case' true =>
   rw [c2, Bool.true_or] at hv
   subst hv
   simp only [Bool.and_eq_true, decide_eq_true_eq] at c2
   have hrl : r < p.vec.length := by omega
   have e1 : (q05 p.vec)[r]? = some (.int .i64 (q1n p.vec r)) := q0w (by simp [q1n, hrl])
   have c3 := c2.2
   rw [hr, Int.toNat_natCast] at c3
   rw [hr]
   (have hF := (aI (aI @e0 @e9) (aI @e1 (aI @hrl @c3))); refine q01 (k:=?_); clear hF)
   exact Fin.tmp' rfl rfl
  case' false =>
   rw [c2, Bool.false_or] at hv
   rw [hr] at c2 ⊢
   rw [Int.toNat_natCast] at c2
   by_cases h1 : (r : Int) < (p.vec.length : Int)
   case' pos =>
    have hrl : r < p.vec.length := by omega
    have e1 : (q05 p.vec)[r]? = some (.int .i64 (q1n p.vec r)) := q0w (by simp [q1n, hrl])
    have c3 : ¬ d.2 ≤ q1n p.vec r := by simpa [h1] using c2
    (have hF := (aI (aI @e0 @e9) (aI @e1 (aI @h1 @c3))); refine q01 (k:=?_); clear hF)
   case' neg =>
    (have hF := (aI @e0 (aI @e9 @h1)); refine q01 (k:=?_); clear hF)
   all_goals
    refine Run.while (σ := Nat) (fun i => ⟨tms [(2, .ptr 2 0), (3, .ptr 3 0), (5, .int .i64 (i : Int))], mms [(2, .cells [.sl 1 (q05 p.vec), .sl 3 (q0d p.cloud)]), (3, .cells [.int .i64 r, .int .i64 d.2])]⟩)
     (fun i => i ≤ p.cloud.length ∧ ∀ s ∈ p.cloud.take i, zae d s = false) (fun i => p.cloud.length - i) 0 (have hW := True.intro; q0h) ⟨Nat.zero_le _, by simp⟩ ?_
    rintro i ⟨hi, hI⟩
    unfold qs0
    by_cases hlt : i < p.cloud.length
    ·obtain ⟨s, hs⟩ : ∃ s, p.cloud[i]? = some s := ⟨p.cloud[i], by simp [hlt]⟩
     have g1 : (q0d p.cloud)[i]? = some (.agg [.int .i64 s.1, .int .i64 s.2.1, .int .i64 s.2.2]) := q2e hs
     by_cases k1 : s.1 = r
     ·by_cases k2 : s.2.1 ≤ d.2
      ·by_cases k3 : d.2 ≤ s.2.2
       ·have hu : v = true := by
         rw [← hv, List.any_eq_true]
         exact ⟨s, List.mem_of_getElem? hs, by simp [zae, hr, k1, k2, k3]⟩
        rw [hu]
        (have hF := (aI (aI @e0 (aI @e9 @g1)) (aI @k1 (aI @k2 @k3))); refine q01 (k:=?_); clear hF)
        exact Fin.tmp' rfl rfl
       ·(have hF := (aI (aI @e0 (aI @e9 @g1)) (aI @k1 (aI @k2 @k3))); refine q01 (k:=?_); clear hF)
        (refine Fin.nextW (i + 1) ?_ (have hW := True.intro; q0h); (try dsimp only))
        exact ⟨⟨hlt, q4q hs hI (by simp [zae, hr, k1, k2, k3])⟩, by omega⟩
      ·(have hF := (aI (aI @e0 @e9) (aI @g1 (aI @k1 @k2))); refine q01 (k:=?_); clear hF)
       (refine Fin.nextW (i + 1) ?_ (have hW := True.intro; q0h); (try dsimp only))
       exact ⟨⟨hlt, q4q hs hI (by simp [zae, hr, k1, k2])⟩, by omega⟩
     ·(have hF := (aI (aI @e0 @e9) (aI @g1 @k1)); refine q01 (k:=?_); clear hF)
      (refine Fin.nextW (i + 1) ?_ (have hW := True.intro; q0h); (try dsimp only))
      exact ⟨⟨hlt, q4q hs hI (by simp [zae, hr, k1])⟩, by omega⟩
    ·have hu : v = false := by
      rw [← hv]
      exact any_take i hI (by omega)
     rw [hu]
     (have hF := (aI @e0 @e9); refine q01 (k:=?_); clear hF)
     exact Fin.tmp' rfl rfl
def qeg (r : Rec) (e : Ent) : Bool := (decide (r.sku.size = 0) || decide (r.sku = e.sku)) && q1s r.past e.dot
theorem ev_k141 (r : Rec) (e : Ent) (hw : wt r.past ≤ 900000000) : Ev (En Tryz.prog rfl).P 141 [q4i r, qam e] (.ret (.bool (qeg r e))) := by
 refine Ev.of_body it_k141 (by simp) (Run.start ?_)
 unfold t_k141 q4i qam qeg
 have es := q8s r.sku
 have c1 := z7m r.past e.dot hw
 generalize q1s r.past e.dot = v at c1 ⊢
 by_cases h0 : r.sku.size = 0
 ·rw [decide_eq_true h0, Bool.true_or, Bool.true_and]
  rw [eq_true h0] at es
  (have hF := @es; refine q01 (k:=?_); clear hF)
  refine q00 [q0g r.past, q4h e.dot] (he := c1) (k:=?_)
  (have hF := True.intro; refine q01 (k:=?_); clear hF)
  exact Fin.tmp' rfl rfl
 ·rw [decide_eq_false h0, Bool.false_or]
  rw [eq_false h0] at es
  by_cases h1 : r.sku = e.sku
  ·rw [decide_eq_true h1, Bool.true_and]
   have es2 := es
   rw [h1] at es2
   (have hF := (aI @es (aI @h1 @es2)); refine q01 (k:=?_); clear hF)
   refine q00 [q0g r.past, q4h e.dot] (he := c1) (k:=?_)
   (have hF := True.intro; refine q01 (k:=?_); clear hF)
   exact Fin.tmp' rfl rfl
  ·rw [decide_eq_false h1, Bool.false_and]
   (have hF := (aI @es @h1); refine q01 (k:=?_); clear hF)
   exact Fin.tmp' rfl rfl
def q7u (l : List Rec) (e : Ent) : Nat := (l.filter fun r => qeg r e).length
theorem za2 {l : List Rec} {i : Nat} {r : Rec} (h : l[i]? = some r) (e : Ent) : q7u (l.take (i + 1)) e = q7u (l.take i) e + if qeg r e = true then 1 else 0 := by
 unfold q7u
 rw [List.take_add_one, h, List.filter_append]
 cases hc : qeg r e <;> simp [hc]
theorem z7z (l : List Rec) (e : Ent) : q7u l e ≤ l.length := List.length_filter_le _ _
theorem ev_k110 (l : List Rec) (e : Ent) (hl : l.length ≤ 900000000) (hw : ∀ r ∈ l, wt r.past ≤ 900000000) : Ev (En Tryz.prog rfl).P 110 [.sl 3 (q08 l), qam e] (.ret (.int .i64 (q7u l e))) := by
 refine Ev.of_body it_k110 (by simp) (Run.start ?_)
 unfold t_k110 qam
 have e1 := q0m l
 have hS := qps
 (have hF := @e1; refine q01 (k:=?_); clear hF)
 refine Run.while (σ := Nat) (fun i => ⟨tms [(3, .ptr 3 0), (5, .int .i64 (q7u (l.take i) e : Nat)), (8, .sl 3 (q08 l)), (9, .int .i64 l.length), (10, .int .i64 (i : Int))], mms [(3, .cells [.int .i64 e.rep, .int .i64 e.num, .str e.sku, .int .i64 e.qty])]⟩)
  (fun i => i ≤ l.length) (fun i => l.length - i) 0 (have hW := @q04; q0h) (Nat.zero_le _) ?_
 intro i hi
 unfold qjg
 by_cases hlt : i < l.length
 ·obtain ⟨r, hr⟩ : ∃ r, l[i]? = some r := ⟨l[i], by simp [hlt]⟩
  have g1 := q0x hr
  have c1 := ev_k141 r e (hw r (List.mem_of_getElem? hr))
  have hn := za2 hr e
  have hle := z7z (l.take i) e
  have hlt' : (l.take i).length ≤ l.length := by rw [List.length_take]; omega
  generalize q7u (l.take i) e = n at hn hle ⊢
  cases hc : qeg r e <;> rw [hc] at hn c1 <;> simp only [if_true, Bool.false_eq_true, if_false] at hn
  ·(have hF := (aI @e1 @g1); refine q01 (k:=?_); clear hF)
   refine q00 [q4i r, qam e] (he := c1) (k:=?_)
   (have hF := (aI @e1 @g1); refine q01 (k:=?_); clear hF)
   (refine Fin.nextW (i + 1) ?_ (have hW := (aI @q04 @hn); q0h); (try dsimp only))
   omega
  ·(have hF := (aI @e1 @g1); refine q01 (k:=?_); clear hF)
   refine q00 [q4i r, qam e] (he := c1) (k:=?_)
   (have hF := (aI @e1 @g1); refine q01 (k:=?_); clear hF)
   (refine Fin.nextW (i + 1) ?_ (have hW := (aI @q04 @hn); q0h); (try dsimp only))
   omega
 ·have : l.take i = l := List.take_of_length_le (by omega)
  rw [this]
  (have hF := @e1; refine q01 (k:=?_); clear hF)
  exact Fin.tmp' rfl rfl
theorem qqy (r : Rec) (hw : wt r.past ≤ 50000000) : Ev (En Tryz.prog rfl).P 108 [q4i r] (.ret (q4i ⟨r.sku, q18 r.past⟩)) := by
 refine Ev.of_body it_k108 (by simp) (Run.start ?_)
 unfold t_k108 q4i
 have c1 := qfg r.past hw
 have hS := qps
 (have hF := True.intro; refine q01 (k:=?_); clear hF)
 refine q00 [q0g r.past] (he := c1) (k:=?_)
 unfold q0g
 (have hF := True.intro; refine q01 (k:=?_); clear hF)
 exact Fin.all rfl (by simp [q0j, AVal.stb, q02, q03, fzc, q5q]) rfl

def z5f : List SOp := [zO 2 (.assign (.const (.slice none 0 0))),zO 3 (.assign (.const (.int .i64 0)))]
instance : Live z5f := ⟨[0]⟩
def z5e : List SOp := [zM 10 0,zO 11 (.call ⟨.value (.func 55),#[.tmp 10],#[27]⟩),zO 12 (.binOp .neq 32 (.tmp 11) (.const (.int .i64 0)) 32)]
instance : Live z5e := ⟨[0]⟩
def z5d : List SOp := [zO 2 (.assign (.const (.slice none 0 0))),zO 3 (.assign (.const (.int .i64 1)))]
instance : Live z5d := ⟨[]⟩
def z5c : List SOp := [zO 4 (.alloc 26)]
instance : Live z5c := ⟨[0]⟩
def z5b : List SOp := [zO 5 (.assign (.const (.slice none 0 0)))]
instance : Live z5b := ⟨[0,4]⟩
def z5a : List SOp := [zO 6 (.assign (.const (.int .i64 0)))]
instance : Live z5a := ⟨[0,4,5]⟩
def z59 : List SOp := [zM 13 6,zM 14 0,zO 15 (.call ⟨.builtin .len,#[.tmp 14],#[27]⟩),zO 16 (.binOp .lss 3 (.tmp 13) (.tmp 15) 3)]
instance : Live z59 := ⟨[0,4,5,6]⟩
def z58 : List SOp := [zM 17 6,zG 7 17]
instance : Live z58 := ⟨[0,4,5,6]⟩
def z57 : List SOp := [zO 8 (.assign (.const (.slice none 0 0)))]
instance : Live z57 := ⟨[0,4,5,6,7]⟩
def qo5 : List SOp := [zM 18 7,zM 19 0,zO 20 (.call ⟨.builtin .len,#[.tmp 19],#[27]⟩),zO 21 (.binOp .lss 3 (.tmp 18) (.tmp 20) 3),zM 22 21,⟨some 23,.move (.tmp 0),some ((some 22),true)⟩,⟨some 24,.move (.tmp 7),some ((some 22),true)⟩,⟨some 25,.indexAddr 27 (.tmp 23) (.tmp 24),some ((some 22),true)⟩,⟨some 26,.fieldAddr 91 (.tmp 25) 0,some ((some 22),true)⟩,⟨some 27,.load 9 (.tmp 26),some ((some 22),true)⟩,⟨some 28,.move (.tmp 0),some ((some 22),true)⟩,⟨some 29,.move (.tmp 6),some ((some 22),true)⟩,⟨some 30,.indexAddr 27 (.tmp 28) (.tmp 29),some ((some 22),true)⟩,⟨some 31,.fieldAddr 91 (.tmp 30) 0,some ((some 22),true)⟩,⟨some 32,.load 9 (.tmp 31),some ((some 22),true)⟩,⟨some 33,.binOp .eql 9 (.tmp 27) (.tmp 32) 9,some ((some 22),true)⟩,zO 34 (.pick (.tmp 22) (.tmp 33) (.const (.bool false)))]
instance : Live qo5 := ⟨[0,4,5,6,7,8]⟩
def qo4 : List SOp := [zM 35 8,zM 36 0,zM 37 7,zI 38 27 36 37,zF 39 91 38 1,zL 40 26 39,zO 41 (.buildSlice 116 1 #[(0,.tmp 40)]),zO 42 (.call ⟨.builtin .append,#[.tmp 35,.tmp 41],#[116,116]⟩),zG 8 42]
instance : Live qo4 := ⟨[0,4,5,6,7,8]⟩
def qo3 : List SOp := [zM 43 7,zO 44 (.binOp .add 3 (.tmp 43) (.const (.int .i64 1)) 3),zG 7 44]
instance : Live qo3 := ⟨[0,4,5,6,7,8]⟩
def qo2 : List SOp := [zM 45 0,zM 46 6,zI 47 27 45 46,zF 48 91 47 0,zL 49 9 48,zM 50 8,zO 51 (.call ⟨.value (.func 49),#[.tmp 50],#[116]⟩),zO 52 (.build 91 #[(0,.tmp 49),(1,.tmp 51)]),zO 9 (.alloc 91),⟨none,.store 91 (.tmp 9) (.tmp 52),none⟩]
instance : Live qo2 := ⟨[0,4,5,6,7,8]⟩
def qo1 : List SOp := [zF 53 91 9 0,zL 54 9 53,zO 55 (.binOp .eql 9 (.tmp 54) (.const (.string ⟨#[]⟩)) 9)]
instance : Live qo1 := ⟨[0,4,5,7,9]⟩
def qo0 : List SOp := [zF 56 91 9 1,zL 57 26 56,⟨none,.store 26 (.tmp 4) (.tmp 57),none⟩]
instance : Live qo0 := ⟨[0,4,5,7,9]⟩
def qnz : List SOp := [zF 58 91 9 1,zL 59 26 58,zL 60 26 4,zO 61 (.call ⟨.value (.func 140),#[.tmp 59,.tmp 60],#[26,26]⟩),zF 62 91 9 1,⟨none,.store 26 (.tmp 62) (.tmp 61),none⟩]
instance : Live qnz := ⟨[0,4,5,7,9]⟩
def qny : List SOp := [zF 63 91 9 1,zL 64 26 63,zO 65 (.call ⟨.value (.func 92),#[.tmp 64],#[26]⟩),zO 66 (.unOp .not 4 (.tmp 65))]
instance : Live qny := ⟨[0,4,5,7,9]⟩
def qnx : List SOp := [zM 67 5,zL 68 91 9,zO 69 (.buildSlice 27 1 #[(0,.tmp 68)]),zO 70 (.call ⟨.builtin .append,#[.tmp 67,.tmp 69],#[27,27]⟩),zG 5 70]
instance : Live qnx := ⟨[0,4,5,7,9]⟩
def qnw : List SOp := [zM 71 7,zG 6 71]
instance : Live qnw := ⟨[0,4,5,7]⟩
def qnv : List SOp := [zM 72 5,zO 73 (.call ⟨.builtin .len,#[.tmp 72],#[27]⟩),zO 74 (.binOp .gtr 3 (.tmp 73) (.const (.int .i64 0)) 3),zM 75 74,⟨some 76,.move (.tmp 5),some ((some 75),true)⟩,⟨some 77,.indexAddr 27 (.tmp 76) (.const (.int .i64 0)),some ((some 75),true)⟩,⟨some 78,.fieldAddr 91 (.tmp 77) 0,some ((some 75),true)⟩,⟨some 79,.load 9 (.tmp 78),some ((some 75),true)⟩,⟨some 80,.binOp .eql 9 (.tmp 79) (.const (.string ⟨#[]⟩)) 9,some ((some 75),true)⟩,zO 81 (.pick (.tmp 75) (.tmp 80) (.const (.bool false)))]
instance : Live qnv := ⟨[5]⟩
def qnu : List SOp := [zM 82 5,zM 83 5,zO 84 (.indexAddr 27 (.tmp 83) (.const (.int .i64 0))),zL 85 91 84,zO 86 (.call ⟨.value (.func 108),#[.tmp 85],#[91]⟩),zO 87 (.indexAddr 27 (.tmp 82) (.const (.int .i64 0))),⟨none,.store 91 (.tmp 87) (.tmp 86),none⟩]
instance : Live qnu := ⟨[5]⟩
def qnt : List SOp := [zM 88 5,zG 2 88,zO 3 (.assign (.const (.int .i64 0)))]
instance : Live qnt := ⟨[5]⟩
def qjh : SC :=
 (.seq (.seq (.ops true qo5) (.cond (.tmp 34) .skip (.exit 2))) (.block 3 (.seq (.ops false qo4) (.ops false qo3))))
def qji : SC :=
 (.seq (.seq (.ops false z59) (.cond (.tmp 16) .skip (.exit 0))) (.block 1 (.seq (.ops false z58) (.seq (.ops false z57) (.seq (.block 2 (.loop qjh)) (.seq (.ops true qo2) (.seq (.seq (.ops false qo1) (.cond (.tmp 55) (.ops false qo0) (.ops false qnz))) (.seq (.seq (.ops false qny) (.cond (.tmp 66) (.ops false qnx) .skip)) (.ops false qnw)))))))))
def t_k109 : SC :=
 (.seq (.ops false z5f) (.seq (.seq (.ops false z5e) (.cond (.tmp 12) (.seq (.ops false z5d) .ret) .skip)) (.seq (.ops false z5c) (.seq (.ops false z5b) (.seq (.seq (.ops false z5a) (.block 0 (.loop qji))) (.seq (.seq (.ops false qnv) (.cond (.tmp 81) (.ops false qnu) .skip)) (.seq (.ops false qnt) .ret)))))))
theorem it_k109 : FnIs Tryz.prog 109 89 [.tmp 2, .tmp 3] t_k109 := ⟨Tryz.f109, _, Tryz.func109, rfl, rfl, rfl, rfl, by kernel_rfl⟩

def q10 (s : ByteArray) (r : Rec) : Bool := decide (r.sku = s)
def z98 (l : List Rec) : List Rec := match l with | [] => [] | r :: t => l.takeWhile (q10 r.sku)
def q2m (l : List Rec) : Pst := q1v ((z98 l).map (·.past))
def z6x (all : Pst) (s : ByteArray) (p : Pst) : Pst := if s.size = 0 then p else q2u p all
def za5 (all : Pst) (s : ByteArray) (p : Pst) : Pst := if s.size = 0 then p else all
def qi0 (s : ByteArray) (p : Pst) : List Rec := if q3x p = 0 then [] else [⟨s, p⟩]
def q5d : Nat → List Rec → Pst → List Rec
 | 0, _, _ => []
 | n + 1, [], _ => []
 | n + 1, r :: l, all => qi0 r.sku (z6x all r.sku (q2m (r :: l))) ++ q5d n ((r :: l).dropWhile (q10 r.sku)) (za5 all r.sku (q2m (r :: l)))
def qh6 : List Rec → List Rec
 | [] => []
 | r :: l => if r.sku.size = 0 then ⟨r.sku, q18 r.past⟩ :: l else r :: l
def q90 (l : List Rec) : List Rec := qh6 (q5d l.length l ⟨[], []⟩)
theorem q65 {α : Type} {p : α → Bool} : ∀ {l : List α} {m : Nat}, (∀ x ∈ l.take m, p x = true) → (∀ x, l[m]? = some x → p x = false) → l.takeWhile p = l.take m ∧ l.dropWhile p = l.drop m
 | [], m, _, _ => by simp
 | x :: l, 0, _, h => by
  have := h x rfl
  simp [List.takeWhile, List.dropWhile, this]
 | x :: l, m + 1, h, h' => by
  have hx : p x = true := h x (by simp)
  have ih := q65 (l := l) (m := m) (fun y hy => h y (by simp [hy])) (fun y hy => h' y (by simpa using hy))
  simp [List.takeWhile, List.dropWhile, hx, ih]
theorem qg5 {l m : List Nat} (h : l.Sublist m) : l.sum ≤ m.sum := by
 induction h with
 | slnil => exact Nat.le_refl _
 | cons a h ih => simp only [List.sum_cons]; omega
 | cons_cons a h ih => simp only [List.sum_cons]; omega
theorem wts_le {l m : List Rec} (h : l.Sublist m) : ((l.map (·.past)).map wt).sum ≤ q6e m := by
 have h1 : ∀ l : List Rec, ((l.map (·.past)).map wt).sum ≤ q6e l := by
  intro l
  induction l with
  | nil => exact Nat.le_refl _
  | cons r l ih => unfold q6e at *; simp only [List.map_cons, List.sum_cons, wtK] at *; omega
 exact Nat.le_trans (h1 l) (qg5 (h.map wtK))
theorem qr5 (l : List Pst) (v : List Int) (c : List Sn) : q1q l ++ [.agg [.sl 1 (q05 v), .sl 3 (q0d c)]] = q1q (l ++ [⟨v, c⟩]) := by simp [q1q, q0g]
theorem Wk.give {n u k e sz : Nat} {xs : List AVal} {l1 : List (Nat × AVal)} {m1 : List (Nat × ABlk)} (hn : qpo (fun j => j == k) l1) (hb : qre (fun j => j == k) m1) (h0 : mms m1 k = none) (hx : q0j xs = true) :
 Wk n ⟨tms ((u, .os k e) :: l1), mms ((k, .arr e sz xs) :: m1)⟩ ⟨tms ((u, .sl sz xs) :: l1), mms m1⟩ := by
 intro B G a w hR
 have hM1 : (fun j => if (j == k) = true then none else mms ((k, .arr e sz xs) :: m1) j) = mms m1 := by
  funext j
  by_cases hj : j = k
  ·subst hj; simp [h0]
  ·simp [hj, mms, q15]
 have hblk : ∀ {l : List (Nat × ABlk)}, qre (fun j => j == k) l → ∀ j blk, mms l j = some blk → blk.no (fun j => j == k) = true := by
  intro l
  induction l with
  | nil => intro _ j blk h; cases h
  | cons p l ih =>
   obtain ⟨q, v⟩ := p
   intro h j blk hj
   simp only [mms] at hj
   by_cases hjq : j = q
   ·subst hjq; rw [q0a] at hj; cases hj; exact h.1
   ·rw [q15 _ _ hjq] at hj; exact ih h.2 j blk hj
 have htm := zaq (qhv hn)
 refine ⟨G.without fun j => j == k, ⟨hR.size, hR.defers, fun t => ?_, fun j blk hj => ?_, fun b hb => ⟨(hR.fr b hb).1, q11 (hR.fr b hb).2⟩, fun b hb => hR.ol b fun hn => hb (q11 hn)⟩,
  ⟨⟨rfl, Nat.le_refl _⟩, rfl, rfl, Nat.le_refl _, fun b _ ho => ⟨rfl, q11 ho⟩⟩⟩
 ·have hv := hR.temps t
  simp only [tms] at hv ⊢
  rw [← hM1]
  by_cases ht : t = u
  ·subst ht
   rw [q0a] at hv ⊢
   have h1 := qqt (K := fun j => j == k) hR.mem hv
   have h2 : fz (fun j => j == k) (mms ((k, .arr e sz xs) :: m1)) (.os k e) = .sl sz xs := by
    simp [fz, fzc, mms, q0a]
   rw [h2] at h1
   exact h1.stable (fun b _ hb ho => ⟨rfl, hb, ho⟩) hx
  ·rw [q15 _ _ ht] at hv ⊢
   exact hv.drop (htm t)
 ·change mms m1 j = some blk at hj
  have hjk : j ≠ k := fun h => by subst h; rw [h0] at hj; cases hj
  have hj' : mms ((k, .arr e sz xs) :: m1) j = some blk := by simp only [mms]; rw [q15 _ _ hjk]; exact hj
  have h0' := hR.mem j blk hj'
  have hno := hblk hb j blk hj
  have hK' : (j == k) = false := by simp [hjk]
  rw [← hM1]
  cases blk with
  | cells cs =>
   obtain ⟨c, el, b1, b2, b3, b4, b5⟩ := h0'
   refine ⟨c, el, by simp [Gh.without, b1, OKey.of, hjk], b2, b3, b4, fun i x hx => ?_⟩
   obtain ⟨u, hu, hr⟩ := b5 i x hx
   exact ⟨u, hu, hr.drop hK' (List.all_eq_true.1 hno x (List.mem_of_getElem? hx))⟩
  | arr e sz xs =>
   rcases h0' with h | ⟨b, o, cap, c, el, h1, h2, h3, h4, h5, h6, h7, h7', h8⟩
   ·exact .inl h
   ·exact .inr ⟨b, o, cap, c, el, h1, h2, by simp [Gh.without, h3, OKey.of, hjk], h4, h5, h6, h7, h7', fun n y hy => let ⟨u, hu, hr⟩ := h8 n y hy; ⟨u, hu, hr.drop (List.all_eq_true.1 hno y (List.mem_of_getElem? hy))⟩⟩
  | dead => trivial
  | map es =>
   obtain ⟨es', clock, b1, b2, b3, b4, b5⟩ := h0'
   refine ⟨es', clock, by simp [Gh.without, b1, OKey.of, hjk], b2, b3, b4, fun i p hp => ?_⟩
   obtain ⟨q, hq, r1, r2⟩ := b5 i p hp
   have := List.all_eq_true.1 hno p (List.mem_of_getElem? hp)
   rw [Bool.and_eq_true] at this
   exact ⟨q, hq, r1.drop this.1, r2.drop this.2⟩
structure FoS where
 i : Nat
 all : Pst
 out : List Rec
theorem qov (l : List Rec) (W : Nat) (hW : W ≤ 5000000) (hl : l.length ≤ 5000000) (hwr : ∀ r ∈ l, wt r.past ≤ W) (hg0 : ∀ (i m : Nat) (s : ByteArray), (∀ x ∈ (l.drop i).take m, q10 s x = true) → ((((l.drop i).take m).map (·.past)).map wt).sum ≤ W) : Ev (En Tryz.prog rfl).P 109 [.sl 3 (q08 l)] (.ret (.tup [.sl 3 (q08 (if q3h l = true then q90 l else [])), .int .i64 (if q3h l = true then 0 else 1)])) := by
 refine Ev.of_body it_k109 (by simp) (Run.start ?_)
 unfold t_k109
 have e1 := q0m l
 have hS := qps
 have c1 := q33 l (by omega) (fun r hr => by have := hwr r hr; omega)
 (have hF := @e1; refine q01 (k:=?_); clear hF)
 refine q00 [.sl 3 (q08 l)] (he := c1) (k:=?_)
 by_cases hform : q3h l = true
 case' neg =>
  simp only [if_neg hform]
  (have hF := @e1; refine q01 (k:=?_); clear hF)
  exact Fin.two (x := .nil) (x' := .int .i64 1) rfl rfl rfl rfl (.inr ⟨rfl, 3, rfl⟩) (.inl rfl)
 case' pos =>
  simp only [if_pos hform]
  have hfk : q90 l = qh6 (q5d l.length l ⟨[], []⟩) := rfl
  have hR0 : [] ++ q5d l.length (l.drop 0) ⟨[], []⟩ = q5d l.length l ⟨[], []⟩ := rfl
  generalize q5d l.length l ⟨[], []⟩ = R at hfk hR0
  (have hF := @e1; refine q01 (k:=?_); clear hF)
  refine Run.wk (Wk.trans (Wk.own_nil 5 70 3 rfl rfl) (Wk.trans (Wk.own_cells (k := 4) (cs' := [.own 1 [], .own 3 []]) rfl rfl ?_) (Wk.freeze (k := 4) (cs := [.own 1 [], .own 3 []]) rfl))) ?_
  ·intro i x y hx hy
   match i with
   | 0 => simp at hx hy; subst hx; subst hy; exact .inr ⟨rfl, 1, rfl⟩
   | 1 => simp at hx hy; subst hx; subst hy; exact .inr ⟨rfl, 3, rfl⟩
   | i + 2 => simp at hx
  refine Run.while (σ := FoS) (fun z => ⟨tms [(0, .sl 3 (q08 l)), (4, .ptr 4 0), (5, .os 70 z.out.length), (6, .int .i64 (z.i : Int))], mms [(4, .cells [.sl 1 (q05 z.all.vec), .sl 3 (q0d z.all.cloud)]), (70, .arr z.out.length 3 (q08 z.out))]⟩)
   (fun z => z.i ≤ l.length ∧ z.out.length ≤ z.i ∧ wt z.all ≤ 16 + W ∧ (∃ n, l.length - z.i ≤ n ∧ z.out ++ q5d n (l.drop z.i) z.all = R) ∧ ∀ r ∈ z.out, wt r.past ≤ 64 + 2 * W) (fun z => l.length - z.i) ⟨0, ⟨[], []⟩, []⟩ (have hW := @q04; q0h) ⟨Nat.zero_le _, Nat.le_refl _, Nat.zero_le _, ⟨l.length, Nat.le_refl _, hR0⟩, fun r hr => absurd hr (by simp)⟩ ?_
  rintro ⟨i, all, out⟩ ⟨hi, ho, ha, ⟨n, hn, hf⟩, hwo⟩
  dsimp only at *
  unfold qji
  have e2 := q0m out
  by_cases hlt : i < l.length
  ·obtain ⟨r, hr⟩ : ∃ r, l[i]? = some r := ⟨l[i], by simp [hlt]⟩
   have g1 := q0x hr
   (have hF := (aI @e1 (aI @e2 @g1)); refine q01 (k:=?_); clear hF)
   refine Run.wk (Wk.own_nil 8 42 2 rfl rfl) ?_
   refine Run.while (σ := Nat) (fun m => ⟨tms [(0, .sl 3 (q08 l)), (4, .ptr 4 0), (5, .os 70 out.length), (6, .int .i64 (i : Int)), (7, .int .i64 ((i + m : Nat) : Int)), (8, .os 42 m)], mms [(4, .cells [.sl 1 (q05 all.vec), .sl 3 (q0d all.cloud)]), (42, .arr m 2 (q1q (((l.drop i).take m).map (·.past)))), (70, .arr out.length 3 (q08 out))]⟩)
    (fun m => i + m ≤ l.length ∧ ∀ x ∈ (l.drop i).take m, q10 r.sku x = true) (fun m => l.length - i - m) 0 (have hW := @q04; q0h) ⟨by omega, fun x hx => absurd hx (by simp)⟩ ?_
   rintro m ⟨hm, hg⟩
   unfold qjh
   have hdr : (l.drop i)[m]? = l[i + m]? := by rw [List.getElem?_drop]
   have hrd : l.drop i = r :: l.drop (i + 1) := by
    have := List.drop_eq_getElem_cons hlt
    rw [this]
    simp only [List.getElem?_eq_getElem hlt, Option.some.injEq] at hr
    rw [hr]
   have hpl : (((l.drop i).take m).map (·.past)).length = m := by simp; omega
   have e3 := q9r (((l.drop i).take m).map (·.past))
   rw [hpl] at e3
   have hwp := hg0 i m r.sku hg
   by_cases hex : ∃ q, l[i + m]? = some q ∧ q.sku = r.sku
   ·obtain ⟨q, hq, hsk⟩ := hex
    have hjl : i + m < l.length := by
     rcases Nat.lt_or_ge (i + m) l.length with h | h
     ·exact h
     ·rw [List.getElem?_eq_none h] at hq; cases hq
    have g2 := q0x hq
    have hsn : ((l.drop i).take (m + 1)).map (·.past) = ((l.drop i).take m).map (·.past) ++ [q.past] := by
     rw [List.take_add_one, hdr, hq]
     simp
    (have hF := (aI (aI @e1 @e3) (aI @g1 (aI @g2 @hsk))); refine q01 (k:=?_); clear hF)
    (refine Fin.nextW (m + 1) ?_ (have hW := (aI @q04 (aI @hsn @qr5)); q0h); (try dsimp only))
    refine ⟨⟨hjl, q4q (by rw [hdr, hq]) hg (by simp [q10, hsk])⟩, by omega⟩
   refine Run.wk (Wk.trans (Wk.toL [(8, .os 42 m), (0, .sl 3 (q08 l)), (4, .ptr 4 0), (5, .os 70 out.length), (6, .int .i64 (i : Int)), (7, .int .i64 ((i + m : Nat) : Int))] [(42, .arr m 2 (q1q (((l.drop i).take m).map (·.past)))), (4, .cells [.sl 1 (q05 all.vec), .sl 3 (q0d all.cloud)]), (70, .arr out.length 3 (q08 out))] ⟨rfl, rfl, rfl, rfl, rfl, rfl, trivial⟩ ⟨rfl, rfl, rfl, trivial⟩ ⟨rfl, q1d (q04 l), rfl, rfl, rfl, rfl, trivial⟩ ⟨qfv (q0b _), q9x _ (by simp [q0j, AVal.stb, q02, q03]), qfv (q04 _), trivial⟩) (Wk.give ⟨q1d (q04 l), rfl, rfl, rfl, rfl, trivial⟩ ⟨q9x _ (by simp [q0j, AVal.stb, q02, q03]), qfv (q04 _), trivial⟩ rfl (q0b _))) ?_
   have htw := q65 (p := q10 r.sku) hg (fun x hx => by rw [hdr] at hx; exact decide_eq_false fun h => hex ⟨x, hx, h⟩)
   by_cases hjl : i + m < l.length
   case' pos =>
    obtain ⟨q, hq⟩ : ∃ q, l[i + m]? = some q := ⟨l[i + m], by simp [hjl]⟩
    have g2 := q0x hq
    have hsk : ¬ q.sku = r.sku := fun h => hex ⟨q, hq, h⟩
    (have hF := (aI (aI @e1 @e3) (aI @g1 (aI @g2 @hsk))); refine q01 (k:=?_); clear hF)
   case' neg =>
    (have hF := (aI @e1 (aI @e3 @g1)); refine q01 (k:=?_); clear hF)
   all_goals
    have hm1 : 1 ≤ m := by
     rcases Nat.eq_zero_or_pos m with h0 | h0
     ·exfalso
      have := htw.1
      rw [h0, hrd] at this
      simp [List.takeWhile, q10] at this
     ·exact h0
    have hjg : q2m (r :: l.drop (i + 1)) = q1v (((l.drop i).take m).map (·.past)) := by
     unfold q2m z98
     rw [← hrd]
     have h2 := htw.1
     rw [hrd] at h2 ⊢
     simp only
     rw [h2]
    obtain ⟨n', rfl⟩ : ∃ n', n = n' + 1 := ⟨n - 1, by omega⟩
    rw [hrd] at hf
    unfold q5d at hf
    rw [hjg, ← hrd, htw.2, List.drop_drop] at hf
    have hjw := q9m (((l.drop i).take m).map (·.past))
    generalize ((l.drop i).take m).map (·.past) = ps at *
    have c2 := ev_k49 ps (by omega) (by omega)
    refine q00 [.sl 2 (q1q ps)] (he := c2) (k:=?_)
    generalize q1v ps = p at *
    unfold q0g
    have es := q8s r.sku
    by_cases hz : r.sku.size = 0
    ·have hng : z6x all r.sku p = p := if_pos hz
     have hal : za5 all r.sku p = p := if_pos hz
     rw [hng, hal] at hf
     rw [eq_true hz] at es
     have c3 := z7l p (by omega)
     (have hF := (aI @e2 @es); refine q01 (k:=?_); clear hF)
     refine q00 [q0g p] (he := c3) (k:=?_)
     by_cases hs : q3x p = 0
     ·have hog : qi0 r.sku p = [] := if_pos hs
      rw [hog, List.nil_append] at hf
      rw [decide_eq_true hs]
      (have hF := @e2; refine q01 (k:=?_); clear hF)
      (refine Fin.nextW (⟨i + m, p, out⟩) ?_ (have hW := @q04; q0h); (try dsimp only))
      exact ⟨⟨hm, by omega, by omega, ⟨n', by omega, hf⟩, hwo⟩, by omega⟩
     ·have hog : qi0 r.sku p = [⟨r.sku, p⟩] := if_neg hs
      rw [hog, ← List.append_assoc] at hf
      rw [decide_eq_false hs]
      (have hF := @e2; refine q01 (k:=?_); clear hF)
      (refine Fin.nextW (⟨i + m, p, out ++ [⟨r.sku, p⟩]⟩) ?_ (have hW := (aI @q04 @q86); q0h); (try dsimp only))
      refine ⟨⟨hm, by simp; omega, by omega, ⟨n', by omega, hf⟩, fun x hx => ?_⟩, by omega⟩
      rcases List.mem_append.1 hx with hx | hx
      ·exact hwo x hx
      ·simp at hx; subst hx; dsimp only; omega
    ·have hng : z6x all r.sku p = q2u p all := if_neg hz
     have hal : za5 all r.sku p = all := if_neg hz
     rw [hng, hal] at hf
     rw [eq_false hz] at es
     have c3 := ev_k140 p all (by omega) (by omega)
     have hmw := qd3 p all
     (have hF := (aI @e2 @es); refine q01 (k:=?_); clear hF)
     refine q00 [q0g p, q0g all] (he := c3) (k:=?_)
     generalize q2u p all = p2 at *
     have c4 := z7l p2 (by omega)
     unfold q0g
     (have hF := @e2; refine q01 (k:=?_); clear hF)
     refine q00 [q0g p2] (he := c4) (k:=?_)
     by_cases hs : q3x p2 = 0
     ·have hog : qi0 r.sku p2 = [] := if_pos hs
      rw [hog, List.nil_append] at hf
      rw [decide_eq_true hs]
      (have hF := @e2; refine q01 (k:=?_); clear hF)
      (refine Fin.nextW (⟨i + m, all, out⟩) ?_ (have hW := @q04; q0h); (try dsimp only))
      exact ⟨⟨hm, by omega, by omega, ⟨n', by omega, hf⟩, hwo⟩, by omega⟩
     ·have hog : qi0 r.sku p2 = [⟨r.sku, p2⟩] := if_neg hs
      rw [hog, ← List.append_assoc] at hf
      rw [decide_eq_false hs]
      (have hF := @e2; refine q01 (k:=?_); clear hF)
      (refine Fin.nextW (⟨i + m, all, out ++ [⟨r.sku, p2⟩]⟩) ?_ (have hW := (aI @q04 @q86); q0h); (try dsimp only))
      refine ⟨⟨hm, by simp; omega, by omega, ⟨n', by omega, hf⟩, fun x hx => ?_⟩, by omega⟩
      rcases List.mem_append.1 hx with hx | hx
      ·exact hwo x hx
      ·simp at hx; subst hx; dsimp only; omega
  ·have hfo : out = R := by
    rw [List.drop_eq_nil_of_le (by omega)] at hf
    rw [← hf]
    cases n <;> simp [q5d]
   rw [hfk, ← hfo]
   cases out with
   | nil =>
    (have hF := (aI @e1 @e2); refine q01 (k:=?_); clear hF)
    exact Fin.two (x := .sl 3 (q08 [])) rfl rfl rfl rfl (.inl rfl) (.inl rfl)
   | cons x out =>
    have es := q8s x.sku
    have g1 : (q08 (x :: out))[0]? = some (.agg [.str x.sku, .sl 1 (q05 x.past.vec), .sl 3 (q0d x.past.cloud)]) := rfl
    by_cases hz : x.sku.size = 0
    ·rw [show qh6 (x :: out) = ⟨x.sku, q18 x.past⟩ :: out from if_pos hz]
     rw [eq_true hz] at es
     have c4 := qqy x (by have := hwo x (by simp); omega)
     (have hF := (aI @e2 (aI @es @g1)); refine q01 (k:=?_); clear hF)
     refine q00 [q4i x] (he := c4) (k:=?_)
     (have hF := (aI @e2 (aI @es @g1)); refine q01 (k:=?_); clear hF)
     exact Fin.two (x := .sl 3 (q08 (⟨x.sku, q18 x.past⟩ :: out))) (by simp [fz, fzc, q5q, upd, tms, mms, q08, q4i]) (q04 _) rfl rfl (.inl rfl) (.inl rfl)
    ·rw [show qh6 (x :: out) = x :: out from if_neg hz]
     rw [eq_false hz] at es
     (have hF := (aI @e2 (aI @es @g1)); refine q01 (k:=?_); clear hF)
     exact Fin.two (x := .sl 3 (q08 (x :: out))) (by simp [fz, fzc, q5q, upd, tms, mms, q08, q4i]) (q04 _) rfl rfl (.inl rfl) (.inl rfl)
theorem ev_k109 (l : List Rec) (hw : q6e l ≤ 5000000) : Ev (En Tryz.prog rfl).P 109 [.sl 3 (q08 l)] (.ret (.tup [.sl 3 (q08 (if q3h l = true then q90 l else [])), .int .i64 (if q3h l = true then 0 else 1)])) := by
 have hlw := q7w l
 refine qov l (q6e l) hw (by omega) (fun r hr => by have := qi4 hr; unfold wtK at this; omega) (fun i m s _ => ?_)
 exact Nat.le_trans (wts_le (List.take_sublist m (l.drop i))) (qg5 ((List.drop_sublist i l).map wtK))

theorem q8o {p : Pst} {r : Nat} {n : Int} (h : inP p r n) : r < 16 := h.1
theorem has_norm (p : Pst) (d : Rn) : q1s (q18 p) d = q1s p d := qaq (by
 rw [q1r, q1r]
 exact ⟨fun h => ⟨h.1, (qgs p (q8o h.2) _).1 h.2⟩, fun h => ⟨h.1, (qgs p (q8o h.2) _).2 h.2⟩⟩)
theorem q4s (p q : Pst) (d : Rn) : q1s (q1v [p, q]) d = (q1s p d || q1s q d) := qaq (by
 rw [Bool.or_eq_true, q1r, q1r, q1r]
 constructor
 ·intro h
  have := (q5z [p, q] (q8o h.2) _).1 h.2
  simp only [List.mem_cons, List.not_mem_nil, or_false, exists_eq_or_imp, exists_eq_left] at this
  exact this.imp (fun x => ⟨h.1, x⟩) (fun x => ⟨h.1, x⟩)
 ·rintro (h | h)
  ·exact ⟨h.1, (q5z _ (q8o h.2) _).2 ⟨p, by simp, h.2⟩⟩
  ·exact ⟨h.1, (q5z _ (q8o h.2) _).2 ⟨q, by simp, h.2⟩⟩)
theorem z9a {p : Pst} {d : Rn} : (!q1s p d) = true ↔ ¬ (0 ≤ d.1 ∧ inP p d.1.toNat d.2) := by
 rw [← q1r]
 cases q1s p d <;> simp
theorem qdi (p q : Pst) (d : Rn) : q1s (q2u p q) d = (q1s p d && !q1s q d) := qaq (by
 rw [Bool.and_eq_true, q1r, q1r, z9a]
 constructor
 ·intro h
  have := (q7j p q (q8o h.2) _).1 h.2
  exact ⟨⟨h.1, this.1⟩, fun h' => this.2 h'.2⟩
 ·rintro ⟨h, h'⟩
  exact ⟨h.1, (q7j p q (q8o h.2) _).2 ⟨h.2, fun x => h' ⟨h.1, x⟩⟩⟩)
theorem z99 {p q : Pst} {d : Rn} (hw : q0n p q = true) (h : q1s p d = true) : q1s q d = true := by
 have h' := (q1r p d).1 h
 exact (q1r q d).2 ⟨h'.1, q27.1 hw _ (q8o h'.2) _ h'.2⟩
theorem has_size {p : Pst} {d : Rn} (h : q1s p d = true) : 1 ≤ q3x p := by
 have h' := (q1r p d).1 h
 rw [qex]
 have := qe7 h'.2.2.1 h'.2.2.2.1 h'.2 (q8o h'.2)
 omega

def SrtK (l : List Rec) : Prop := ∀ (i : Nat) a b, l[i]? = some a → l[i + 1]? = some b → q3s a b < 0
theorem SrtK.tail {t l : List Rec} (h : SrtK (t ++ l)) : SrtK l := fun i a b ha hb =>
 h (t.length + i) a b (by rw [List.getElem?_append_right (by omega)]; simpa using ha) (by rw [List.getElem?_append_right (by omega)]; rw [show t.length + i + 1 - t.length = i + 1 by omega]; exact hb)
theorem zlh (s : ByteArray) : (bs s).length = s.size := by simp [bs]
theorem sku_step {a b : Rec} (h : q3s a b < 0) (ha : a.sku.size ≠ 0) : b.sku.size ≠ 0 := by
 intro hb
 have h1 : bs b.sku = [] := by
  have := zlh b.sku
  rw [hb] at this
  exact List.length_eq_zero_iff.1 this
 have h2 : q93 a.sku b.sku = 1 := by
  unfold q93
  rw [h1]
  cases h3 : bs a.sku with
  | nil =>
   have := zlh a.sku
   rw [h3] at this
   exact absurd this.symm ha
  | cons x l => rfl
 unfold q3s at h
 rw [h2] at h
 simp at h
theorem qq7 : ∀ {l : List Rec} {r : Rec}, SrtK (r :: l) → r.sku.size ≠ 0 → ∀ x ∈ r :: l, x.sku.size ≠ 0
 | [], r, _, h, x, hx => by simp at hx; subst hx; exact h
 | q :: l, r, hs, h, x, hx => by
  rcases List.mem_cons.1 hx with rfl | hx
  ·exact h
  ·exact qq7 (SrtK.tail (t := [r]) hs) (sku_step (hs 0 r q rfl rfl) h) x hx
theorem zjo (ps : List Pst) (d : Rn) : q1s (q1v ps) d = true ↔ ∃ p ∈ ps, q1s p d = true := by
 rw [q1r]
 constructor
 ·rintro ⟨h0, h⟩
  obtain ⟨p, hp, hi⟩ := (q5z ps h.1 _).1 h
  exact ⟨p, hp, (q1r p d).2 ⟨h0, hi⟩⟩
 ·rintro ⟨p, hp, h⟩
  obtain ⟨h0, hi⟩ := (q1r p d).1 h
  exact ⟨h0, (q5z ps hi.1 _).2 ⟨p, hp, hi⟩⟩
theorem zjn (d : Rn) : q1s ⟨[], []⟩ d = false := by
 unfold q1s
 simp
 intro h h1
 simp [q3n] at h
 omega
def q5o (l : List Rec) (e : Ent) : Prop := ∃ r ∈ l, qeg r e = true
theorem q4c (l : List Rec) (e : Ent) : q7u l e = 0 ↔ ¬ q5o l e := by
 unfold q7u q5o
 rw [List.length_eq_zero_iff, List.filter_eq_nil_iff]
 constructor
 ·rintro h ⟨r, hr, hc⟩; exact h r hr hc
 ·intro h r hr hc; exact h ⟨r, hr, hc⟩
theorem qhx (l m : List Rec) (e : Ent) : q5o (l ++ m) e ↔ q5o l e ∨ q5o m e := by
 unfold q5o
 constructor
 ·rintro ⟨r, hr, hc⟩
  rcases List.mem_append.1 hr with hr | hr
  ·exact .inl ⟨r, hr, hc⟩
  ·exact .inr ⟨r, hr, hc⟩
 ·rintro (⟨r, hr, hc⟩ | ⟨r, hr, hc⟩)
  ·exact ⟨r, by simp [hr], hc⟩
  ·exact ⟨r, by simp [hr], hc⟩
theorem q74 (r : Rec) (e : Ent) : qeg r e = true ↔ (r.sku.size = 0 ∨ r.sku = e.sku) ∧ q1s r.past e.dot = true := by
 unfold qeg
 simp [Bool.and_eq_true, Bool.or_eq_true]
theorem z8a (s : ByteArray) (p : Pst) (e : Ent) : q5o (qi0 s p) e ↔ (s.size = 0 ∨ s = e.sku) ∧ q1s p e.dot = true := by
 unfold qi0
 split
 ·rename_i h
  constructor
  ·rintro ⟨r, hr, _⟩; cases hr
  ·rintro ⟨_, h2⟩
   have := has_size h2
   omega
 ·constructor
  ·rintro ⟨r, hr, hc⟩
   simp at hr
   subst hr
   exact (q74 _ e).1 hc
  ·intro h
   exact ⟨⟨s, p⟩, by simp, (q74 _ e).2 h⟩
theorem qpq {r : Rec} {l : List Rec} (e : Ent) : q5o ((r :: l).takeWhile (q10 r.sku)) e ↔ (r.sku.size = 0 ∨ r.sku = e.sku) ∧ q1s (q2m (r :: l)) e.dot = true := by
 have hall : ∀ x ∈ (r :: l).takeWhile (q10 r.sku), x.sku = r.sku := fun x hx => of_decide_eq_true (List.all_eq_true.1 (List.all_takeWhile (p := q10 r.sku)) x hx)
 unfold q2m z98
 rw [zjo]
 simp only [List.mem_map]
 constructor
 ·rintro ⟨x, hx, hc⟩
  have h := (q74 x e).1 hc
  rw [hall x hx] at h
  exact ⟨h.1, x.past, ⟨x, hx, rfl⟩, h.2⟩
 ·rintro ⟨h1, _, ⟨x, hx, rfl⟩, h2⟩
  exact ⟨x, hx, (q74 x e).2 ⟨by rw [hall x hx]; exact h1, h2⟩⟩
theorem qfy (r : Rec) (l : List Rec) (e : Ent) : q5o (r :: l) e ↔ q5o ((r :: l).takeWhile (q10 r.sku)) e ∨ q5o ((r :: l).dropWhile (q10 r.sku)) e := by
 rw [← qhx, List.takeWhile_append_dropWhile]
theorem qhp (r : Rec) (l : List Rec) : ((r :: l).dropWhile (q10 r.sku)).length ≤ l.length := by
 rw [List.dropWhile_cons_of_pos (by simp [q10])]
 exact (List.dropWhile_suffix _).length_le
theorem qdn : ∀ (n : Nat) (L : List Rec) (all : Pst) (e : Ent), L.length ≤ n → (∀ x ∈ L, x.sku.size ≠ 0) → ((q5o (q5d n L all) e ∨ q1s all e.dot = true) ↔ (q5o L e ∨ q1s all e.dot = true))
 | 0, L, all, e, h, _ => by
  have : L = [] := List.length_eq_zero_iff.1 (by omega)
  subst this
  exact Iff.rfl
 | n + 1, [], all, e, _, _ => Iff.rfl
 | n + 1, r :: l, all, e, h, hne => by
  have hz := hne r (by simp)
  have hdl := qhp r l
  have ih := qdn n ((r :: l).dropWhile (q10 r.sku)) all e (by simp at h; omega) (fun x hx => hne x ((List.dropWhile_sublist _).subset hx))
  show (q5o (qi0 r.sku (z6x all r.sku (q2m (r :: l))) ++ q5d n ((r :: l).dropWhile (q10 r.sku)) (za5 all r.sku (q2m (r :: l)))) e ∨ _) ↔ _
  rw [show z6x all r.sku (q2m (r :: l)) = q2u (q2m (r :: l)) all from if_neg hz, show za5 all r.sku (q2m (r :: l)) = all from if_neg hz]
  rw [qhx, z8a, qfy, qpq, qdi]
  by_cases ha : q1s all e.dot = true
  ·simp [ha]
  ·have ha' : q1s all e.dot = false := by simpa using ha
   rw [ha'] at ih
   simp only [Bool.false_eq_true, or_false] at ih
   rw [ha', ih]
   simp
theorem zju {l : List Rec} (hs : SrtK l) (e : Ent) : q5o (q90 l) e ↔ q5o l e := by
 have hh : ∀ m : List Rec, q5o (qh6 m) e ↔ q5o m e := by
  intro m
  cases m with
  | nil => exact Iff.rfl
  | cons r m =>
   show q5o (if r.sku.size = 0 then ⟨r.sku, q18 r.past⟩ :: m else r :: m) e ↔ _
   split
   ·have hc : qeg ⟨r.sku, q18 r.past⟩ e = qeg r e := by unfold qeg; simp only [has_norm]
    unfold q5o
    simp [hc]
   ·exact Iff.rfl
 unfold q90
 rw [hh]
 cases l with
 | nil => exact Iff.rfl
 | cons r l =>
  by_cases hz : r.sku.size = 0
  ·have hdl := qhp r l
   have hd : ∀ x ∈ (r :: l).dropWhile (q10 r.sku), x.sku.size ≠ 0 := by
    have h1 := SrtK.tail (t := (r :: l).takeWhile (q10 r.sku)) (l := (r :: l).dropWhile (q10 r.sku)) (by rw [List.takeWhile_append_dropWhile]; exact hs)
    have h2 := List.head?_dropWhile_not (q10 r.sku) (r :: l)
    generalize (r :: l).dropWhile (q10 r.sku) = D at h1 h2 ⊢
    cases D with
    | nil => intro x hx; cases hx
    | cons q D =>
     refine qq7 h1 ?_
     intro hq
     simp [q10] at h2
     exact h2 (by rw [q52.2 hq, q52.2 hz])
   have ih := qdn l.length ((r :: l).dropWhile (q10 r.sku)) (q2m (r :: l)) e hdl hd
   show q5o (qi0 r.sku (z6x ⟨[], []⟩ r.sku (q2m (r :: l))) ++ q5d l.length ((r :: l).dropWhile (q10 r.sku)) (za5 ⟨[], []⟩ r.sku (q2m (r :: l)))) e ↔ _
   rw [show z6x ⟨[], []⟩ r.sku (q2m (r :: l)) = q2m (r :: l) from if_pos hz, show za5 ⟨[], []⟩ r.sku (q2m (r :: l)) = q2m (r :: l) from if_pos hz]
   rw [qhx, z8a, qfy, qpq]
   simp only [hz, true_or, true_and]
   rw [or_comm, ih, or_comm]
  ·have h := qdn (r :: l).length (r :: l) ⟨[], []⟩ e (Nat.le_refl _) (qq7 hs hz)
   rw [zjn] at h
   simpa using h
theorem z7i : ∀ (n : Nat) (L : List Rec) (all : Pst) (W : Nat), q6e L ≤ W → wt all ≤ 16 + W → (q5d n L all).length ≤ L.length ∧ ∀ r ∈ q5d n L all, wt r.past ≤ 64 + 2 * W
 | 0, L, all, W, _, _ => ⟨Nat.zero_le _, fun r hr => absurd hr (by simp [q5d])⟩
 | n + 1, [], all, W, _, _ => ⟨Nat.le_refl _, fun r hr => absurd hr (by simp [q5d])⟩
 | n + 1, r :: l, all, W, h, ha => by
  have hdl := qhp r l
  have hj : wt (q2m (r :: l)) ≤ 16 + W := by
   have h1 := q9m ((z98 (r :: l)).map (·.past))
   have h2 := wts_le (l := z98 (r :: l)) (m := r :: l) (List.takeWhile_sublist _)
   unfold q2m
   omega
  have hmw := qd3 (q2m (r :: l)) all
  have hD : q6e ((r :: l).dropWhile (q10 r.sku)) ≤ W := Nat.le_trans (qg5 ((List.dropWhile_sublist _).map wtK)) h
  have ih := z7i n ((r :: l).dropWhile (q10 r.sku)) (za5 all r.sku (q2m (r :: l))) W hD (by unfold za5; split <;> omega)
  have ho : ∀ p, (qi0 r.sku p).length ≤ 1 := fun p => by unfold qi0; split <;> simp
  refine ⟨?_, fun x hx => ?_⟩
  ·show (qi0 r.sku _ ++ q5d n _ _).length ≤ _
   rw [List.length_append]
   have := ho (z6x all r.sku (q2m (r :: l)))
   simp only [List.length_cons]
   omega
  ·rcases List.mem_append.1 (show x ∈ qi0 r.sku _ ++ q5d n _ _ from hx) with hx | hx
   ·unfold qi0 at hx
    split at hx
    ·cases hx
    ·simp at hx
     subst hx
     show wt (z6x all r.sku (q2m (r :: l))) ≤ _
     unfold z6x
     split <;> omega
   ·exact ih.2 x hx
theorem foldK_wt (l : List Rec) : (q90 l).length ≤ l.length ∧ ∀ r ∈ q90 l, wt r.past ≤ 96 + 2 * q6e l := by
 have h := z7i l.length l ⟨[], []⟩ (q6e l) (Nat.le_refl _) (Nat.zero_le _)
 unfold q90
 generalize q5d l.length l ⟨[], []⟩ = m at h ⊢
 cases m with
 | nil => exact ⟨h.1, fun x hx => absurd hx (by simp [qh6])⟩
 | cons r m =>
  have h1 : ∀ x ∈ r :: m, wt x.past ≤ 96 + 2 * q6e l := fun x hx => by have := h.2 x hx; omega
  by_cases hz : r.sku.size = 0
  ·rw [show qh6 (r :: m) = ⟨r.sku, q18 r.past⟩ :: m from if_pos hz]
   refine ⟨h.1, fun x hx => ?_⟩
   rcases List.mem_cons.1 hx with rfl | hx
   ·have h2 := q5w r.past
    have h3 := h.2 r (by simp)
    show wt (q18 r.past) ≤ _
    omega
   ·exact h1 x (by simp [hx])
  ·rw [show qh6 (r :: m) = r :: m from if_neg hz]
   exact ⟨h.1, h1⟩

def zet : List SOp := [zO 4 (.assign (.const (.slice none 0 0))),zO 5 (.assign (.const (.int .i64 0)))]
instance : Live zet := ⟨[0,1]⟩
def zes : List SOp := [zM 11 0,zO 12 (.call ⟨.value (.func 53),#[.tmp 11],#[22]⟩),zO 13 (.binOp .neq 32 (.tmp 12) (.const (.int .i64 0)) 32),zM 14 13,⟨some 15,.move (.tmp 1),some ((some 14),false)⟩,⟨some 16,.call ⟨.value (.func 55),#[.tmp 15],#[27]⟩,some ((some 14),false)⟩,⟨some 17,.binOp .neq 32 (.tmp 16) (.const (.int .i64 0)) 32,some ((some 14),false)⟩,zO 18 (.pick (.tmp 14) (.const (.bool true)) (.tmp 17))]
instance : Live zes := ⟨[0,1]⟩
def zer : List SOp := [zO 4 (.assign (.const (.slice none 0 0))),zO 5 (.assign (.const (.int .i64 1)))]
instance : Live zer := ⟨[]⟩
def zeq : List SOp := [zM 20 1,zO 21 (.call ⟨.value (.func 109),#[.tmp 20],#[27]⟩),zM 19 21,zX 22 19 0,zX 23 19 1,zG 6 22,zG 7 23]
instance : Live zeq := ⟨[0,1]⟩
def zep : List SOp := [zO 8 (.assign (.const (.slice none 0 0)))]
instance : Live zep := ⟨[0,6]⟩
def zeo : List SOp := [zM 24 0,zO 25 (.call ⟨.builtin .len,#[.tmp 24],#[22]⟩),zO 26 (.move (.const (.int .i64 0)))]
instance : Live zeo := ⟨[0,6,8]⟩
def zen : List SOp := [zO 27 (.binOp .lss 3 (.tmp 26) (.tmp 25) 3)]
instance : Live zen := ⟨[6,8,24,25,26]⟩
def zem : List SOp := [zI 28 22 24 26,zL 29 62 28,zO 10 (.alloc 62),⟨none,.store 62 (.tmp 10) (.tmp 29),none⟩]
instance : Live zem := ⟨[6,8,24,25,26]⟩
def zel : List SOp := [zM 30 6,zL 31 62 10,zO 32 (.call ⟨.value (.func 110),#[.tmp 30,.tmp 31],#[27,62]⟩),zO 33 (.binOp .eql 3 (.tmp 32) (.const (.int .i64 0)) 3)]
instance : Live zel := ⟨[6,8,10,24,25,26]⟩
def qtl : List SOp := [zM 34 8,zL 35 62 10,zO 36 (.buildSlice 22 1 #[(0,.tmp 35)]),zO 37 (.call ⟨.builtin .append,#[.tmp 34,.tmp 36],#[22,22]⟩),zG 8 37]
instance : Live qtl := ⟨[6,8,10,24,25,26]⟩
def qtk : List SOp := [zO 38 (.binOp .add 3 (.tmp 26) (.const (.int .i64 1)) 3),zM 26 38]
instance : Live qtk := ⟨[6,8,24,25,26]⟩
def qtj : List SOp := [zM 39 8,zG 4 39,zO 5 (.assign (.const (.int .i64 0)))]
instance : Live qtj := ⟨[8]⟩
def qs1 : SC :=
 (.seq (.ops false zen) (.seq (.cond (.tmp 27) .skip (.exit 0)) (.seq (.block 1 (.seq (.ops false zem) (.seq (.ops false zel) (.cond (.tmp 33) (.ops false qtl) .skip)))) (.ops false qtk))))
def t_k58 : SC :=
 (.seq (.ops false zet) (.seq (.seq (.ops false zes) (.cond (.tmp 18) (.seq (.ops false zer) .ret) .skip)) (.seq (.ops false zeq) (.seq (.ops false zep) (.seq (.seq (.ops false zeo) (.block 0 (.loop qs1))) (.seq (.ops false qtj) .ret))))))
theorem it_k58 : FnIs Tryz.prog 58 40 [.tmp 4, .tmp 5] t_k58 := ⟨Tryz.f58, _, Tryz.func58, rfl, rfl, rfl, rfl, by kernel_rfl⟩

def q3r (l : List Rec) (es : List Ent) : List Ent := es.filter fun e => decide (q7u l e = 0)
theorem z8y {es : List Ent} {i : Nat} {e : Ent} (h : es[i]? = some e) (l : List Rec) : q3r l (es.take (i + 1)) = q3r l (es.take i) ++ if q7u l e = 0 then [e] else [] := by
 unfold q3r
 rw [List.take_add_one, h, List.filter_append]
 by_cases hc : q7u l e = 0 <;> simp [hc]
theorem zj6 (l : List Rec) (es : List Ent) : (q3r l es).length ≤ es.length := List.length_filter_le _ _
theorem z8z {l : List Rec} (h : q3t l) (es : List Ent) : q3r (q90 l) es = q3r l es := by
 unfold q3r
 congr 1
 funext e
 refine qaq ?_
 rw [decide_eq_true_iff, decide_eq_true_iff, q4c, q4c, zju h.2]
theorem zk6 (es : List Ent) (l : List Rec) (hl : es.length ≤ 100000000)
 (c2 : Ev (En Tryz.prog rfl).P 55 [.sl 3 (q08 l)] (.ret (.int .i64 (if q3h l = true then 0 else 1))))
 (c3 : Ev (En Tryz.prog rfl).P 109 [.sl 3 (q08 l)] (.ret (.tup [.sl 3 (q08 (if q3h l = true then q90 l else [])), .int .i64 (if q3h l = true then 0 else 1)])))
 (hfl : (q90 l).length ≤ 900000000) (hfw : ∀ r ∈ q90 l, wt r.past ≤ 900000000) : Ev (En Tryz.prog rfl).P 58 [.sl 4 (q0e es), .sl 3 (q08 l)] (.ret (.tup [.sl 4 (q0e (if q7d es = true ∧ q3h l = true then q3r l es else [])), .int .i64 (if q7d es = true ∧ q3h l = true then 0 else 1)])) := by
 refine Ev.of_body it_k58 (by simp) (Run.start ?_)
 unfold t_k58
 have e1 := q0q es
 have hS := qps
 have c1 := qox es (by omega)
 (have hF := @e1; refine q01 (k:=?_); clear hF)
 refine q00 [.sl 4 (q0e es)] (he := c1) (k:=?_)
 by_cases h1 : q7d es = true
 ·rw [if_pos h1]
  by_cases h2 : q3h l = true
  ·simp only [h2, if_true, and_true, h1] at c2 c3 ⊢
   have hlf := z8z (q7n.1 h2) es
   (have hF := @e1; refine q01 (k:=?_); clear hF)
   refine q00 [.sl 3 (q08 l)] (he := c2) (k:=?_)
   (have hF := @e1; refine q01 (k:=?_); clear hF)
   refine q00 [.sl 3 (q08 l)] (he := c3) (k:=?_)
   rw [← hlf]
   generalize q90 l = F at *
   (have hF := @e1; refine q01 (k:=?_); clear hF)
   refine Run.wk (Wk.own_nil 8 37 4 rfl rfl) ?_
   refine Run.while (σ := Nat) (fun i => ⟨tms [(6, .sl 3 (q08 F)), (8, .os 37 (q3r F (es.take i)).length), (24, .sl 4 (q0e es)), (25, .int .i64 es.length), (26, .int .i64 (i : Int))], mms [(37, .arr (q3r F (es.take i)).length 4 (q0e (q3r F (es.take i))))]⟩)
    (fun i => i ≤ es.length) (fun i => es.length - i) 0 (have hW := (aI @q04 @q09); q0h) (Nat.zero_le _) ?_
   intro i hi
   unfold qs1
   by_cases hlt : i < es.length
   ·obtain ⟨e, he⟩ : ∃ e, es[i]? = some e := ⟨es[i], by simp [hlt]⟩
    have g1 := q1a he
    have c4 := ev_k110 F e (by omega) hfw
    have hst := z8y he F
    have hle := zj6 F (es.take i)
    have hle2 : (es.take i).length ≤ es.length := by rw [List.length_take]; omega
    have hbl := z7z F e
    generalize q3r F (es.take i) = out at hst hle ⊢
    have e2 := q0q out
    (have hF := (aI @e1 (aI @e2 @g1)); refine q01 (k:=?_); clear hF)
    refine q00 [.sl 3 (q08 F), qam e] (he := c4) (k:=?_)
    by_cases hb : q7u F e = 0
    ·rw [if_pos hb] at hst
     rw [hb]
     (have hF := (aI @e1 @e2); refine q01 (k:=?_); clear hF)
     (refine Fin.nextW (i + 1) ?_ (have hW := (aI (aI @q04 @q09) (aI @hst @q25)); q0h); (try dsimp only))
     omega
    ·rw [if_neg hb, List.append_nil] at hst
     have hb' : ¬ ((q7u F e : Nat) : Int) = 0 := by omega
     (have hF := (aI @e1 (aI @e2 @hb')); refine q01 (k:=?_); clear hF)
     (refine Fin.nextW (i + 1) ?_ (have hW := (aI (aI @q04 @q09) (aI @hst @q25)); q0h); (try dsimp only))
     omega
   ·rw [List.take_of_length_le (show es.length ≤ i by omega)]
    (have hF := @e1; refine q01 (k:=?_); clear hF)
    exact Fin.two (x := .sl 4 (q0e (q3r F es))) (by simp [fz, fzc, q5q, upd, tms, mms]) (q09 _) rfl rfl (.inl rfl) (.inl rfl)
  ·simp only [h2, Bool.false_eq_true, if_false, and_false] at c2 ⊢
   (have hF := @e1; refine q01 (k:=?_); clear hF)
   refine q00 [.sl 3 (q08 l)] (he := c2) (k:=?_)
   (have hF := @e1; refine q01 (k:=?_); clear hF)
   exact Fin.two (x := .nil) (x' := .int .i64 1) rfl rfl rfl rfl (.inr ⟨rfl, 4, rfl⟩) (.inl rfl)
 ·simp only [h1, Bool.false_eq_true, if_false, false_and]
  (have hF := @e1; refine q01 (k:=?_); clear hF)
  exact Fin.two (x := .nil) (x' := .int .i64 1) rfl rfl rfl rfl (.inr ⟨rfl, 4, rfl⟩) (.inl rfl)
theorem ev_k58 (es : List Ent) (l : List Rec) (hl : es.length ≤ 100000000) (hw : q6e l ≤ 5000000) : Ev (En Tryz.prog rfl).P 58 [.sl 4 (q0e es), .sl 3 (q08 l)] (.ret (.tup [.sl 4 (q0e (if q7d es = true ∧ q3h l = true then q3r l es else [])), .int .i64 (if q7d es = true ∧ q3h l = true then 0 else 1)])) := by
 have hlw := q7w l
 have h := foldK_wt l
 exact zk6 es l hl (ev_k55 l (by omega)) (ev_k109 l hw) (by omega) (fun r hr => by have := h.2 r hr; omega)

def qvd : List SOp := [zO 2 (.assign (.const (.int .i64 0)))]
instance : Live qvd := ⟨[0]⟩
def qvc : List SOp := [zM 3 0,zO 4 (.binOp .geq 79 (.tmp 3) (.const (.int .u64 4294967296)) 79)]
instance : Live qvc := ⟨[0,2]⟩
def qvb : List SOp := [zM 5 0,zO 6 (.binOp .shr 79 (.tmp 5) (.const (.int .u64 32)) 204),zG 0 6]
instance : Live qvb := ⟨[0]⟩
def qva : List SOp := [zO 2 (.assign (.const (.int .i64 32)))]
instance : Live qva := ⟨[0]⟩
def qv9 : List SOp := [zM 7 0,zO 8 (.binOp .geq 79 (.tmp 7) (.const (.int .u64 65536)) 79)]
instance : Live qv9 := ⟨[0,2]⟩
def qv8 : List SOp := [zM 9 0,zO 10 (.binOp .shr 79 (.tmp 9) (.const (.int .u64 16)) 204),zG 0 10]
instance : Live qv8 := ⟨[0,2]⟩
def qv7 : List SOp := [zM 11 2,zO 12 (.binOp .add 3 (.tmp 11) (.const (.int .i64 16)) 3),zG 2 12]
instance : Live qv7 := ⟨[0,2]⟩
def qv6 : List SOp := [zM 13 0,zO 14 (.binOp .geq 79 (.tmp 13) (.const (.int .u64 256)) 79)]
instance : Live qv6 := ⟨[0,2]⟩
def qv5 : List SOp := [zM 15 0,zO 16 (.binOp .shr 79 (.tmp 15) (.const (.int .u64 8)) 204),zG 0 16]
instance : Live qv5 := ⟨[0,2]⟩
def qjv : List SOp := [zM 17 2,zO 18 (.binOp .add 3 (.tmp 17) (.const (.int .i64 8)) 3),zG 2 18]
instance : Live qjv := ⟨[0,2]⟩
def qju : List SOp := [zM 19 2,zM 20 0,zO 21 (.convert 79 5 (.tmp 20)),zO 22 (.index 9 (.const (.string ⟨List.toArray ([0,1,2,2,3,3,3,3,4,4,4,4,4,4,4,4,5,5,5,5,5,5,5,5,5,5,5,5,5,5,5,5,6,6,6,6,6,6,6,6,6,6,6,6,6,6,6,6,6,6,6,6,6,6,6,6,6,6,6,6,6,6,6,6,7,7,7,7,7,7,7,7,7,7,7,7,7,7,7,7,7,7,7,7,7,7,7,7,7,7,7,7,7,7,7,7,7,7,7,7,7,7,7,7,7,7,7,7,7,7,7,7,7,7,7,7,7,7,7,7,7,7,7,7,7,7,7,7] ++ [8,8,8,8,8,8,8,8,8,8,8,8,8,8,8,8,8,8,8,8,8,8,8,8,8,8,8,8,8,8,8,8,8,8,8,8,8,8,8,8,8,8,8,8,8,8,8,8,8,8,8,8,8,8,8,8,8,8,8,8,8,8,8,8,8,8,8,8,8,8,8,8,8,8,8,8,8,8,8,8,8,8,8,8,8,8,8,8,8,8,8,8,8,8,8,8,8,8,8,8,8,8,8,8,8,8,8,8,8,8,8,8,8,8,8,8,8,8,8,8,8,8,8,8,8,8,8,8])⟩)) (.tmp 21)),zO 23 (.convert 5 3 (.tmp 22)),zO 24 (.binOp .add 3 (.tmp 19) (.tmp 23) 3),zG 2 24]
instance : Live qju := ⟨[0,2]⟩
def t_k183 : SC :=
 (.seq (.ops false qvd) (.seq (.seq (.ops false qvc) (.cond (.tmp 4) (.seq (.ops false qvb) (.ops false qva)) .skip)) (.seq (.seq (.ops false qv9) (.cond (.tmp 8) (.seq (.ops false qv8) (.ops false qv7)) .skip)) (.seq (.seq (.ops false qv6) (.cond (.tmp 14) (.seq (.ops false qv5) (.ops false qjv)) .skip)) (.seq (.ops false qju) .ret)))))
theorem it_k183 : FnIs Tryz.prog 183 25 [.tmp 2] t_k183 := ⟨Tryz.f183, _, Tryz.func183, rfl, rfl, rfl, rfl, by kernel_rfl⟩

def qwp : List SOp := [zO 2 (.assign (.const (.int .i64 0)))]
instance : Live qwp := ⟨[0]⟩
def qwo : List SOp := [zM 3 0,zO 4 (.convert 204 220 (.tmp 3)),zO 5 (.call ⟨.value (.func 182),#[.tmp 4],#[220]⟩),zG 2 5]
instance : Live qwo := ⟨[0]⟩
def qwn : List SOp := [zM 6 0,zO 7 (.call ⟨.value (.func 183),#[.tmp 6],#[79]⟩),zG 2 7]
instance : Live qwn := ⟨[0]⟩
def t_k164 : SC :=
 (.seq (.ops false qwp) (.seq (.cond (.const (.bool false)) (.seq (.ops false qwo) .ret) .skip) (.seq (.ops false qwn) .ret)))
theorem it_k164 : FnIs Tryz.prog 164 8 [.tmp 2] t_k164 := ⟨Tryz.f164, _, Tryz.func164, rfl, rfl, rfl, rfl, by kernel_rfl⟩

def qvj : List SOp := [zM 10 1,zO 11 (.binOp .add 3 (.tmp 10) (.const (.int .i64 1)) 3),zG 8 11]
instance : Live qvj := ⟨[0,1,2,3]⟩
def qvi : List SOp := [zM 12 8,zM 13 2,zO 14 (.binOp .lss 3 (.tmp 12) (.tmp 13) 3)]
instance : Live qvi := ⟨[0,1,2,3,8]⟩
def qvh : List SOp := [zM 17 8,zG 9 17]
instance : Live qvh := ⟨[0,1,2,3,8]⟩
def qvg : List SOp := [zM 18 9,zM 19 1,zO 20 (.binOp .gtr 3 (.tmp 18) (.tmp 19) 3),zM 21 20,⟨some 22,.move (.tmp 3),some ((some 21),true)⟩,⟨some 23,.move (.tmp 0),some ((some 21),true)⟩,⟨some 24,.move (.tmp 9),some ((some 21),true)⟩,⟨some 25,.indexAddr 27 (.tmp 23) (.tmp 24),some ((some 21),true)⟩,⟨some 26,.load 91 (.tmp 25),some ((some 21),true)⟩,⟨some 27,.move (.tmp 0),some ((some 21),true)⟩,⟨some 28,.move (.tmp 9),some ((some 21),true)⟩,⟨some 29,.binOp .sub 3 (.tmp 28) (.const (.int .i64 1)) 3,some ((some 21),true)⟩,⟨some 30,.indexAddr 27 (.tmp 27) (.tmp 29),some ((some 21),true)⟩,⟨some 31,.load 91 (.tmp 30),some ((some 21),true)⟩,⟨some 32,.call ⟨.value (.tmp 22),#[.tmp 26,.tmp 31],#[91,91]⟩,some ((some 21),true)⟩,⟨some 33,.binOp .lss 3 (.tmp 32) (.const (.int .i64 0)) 3,some ((some 21),true)⟩,zO 34 (.pick (.tmp 21) (.tmp 33) (.const (.bool false)))]
instance : Live qvg := ⟨[0,1,2,3,8,9]⟩
def qgg : List SOp := [zM 37 0,zM 38 9,zM 39 0,zM 40 9,zO 41 (.binOp .sub 3 (.tmp 40) (.const (.int .i64 1)) 3),zM 42 0,zM 43 9,zO 44 (.binOp .sub 3 (.tmp 43) (.const (.int .i64 1)) 3),zI 45 27 42 44,zL 46 91 45,zM 47 0,zM 48 9,zI 49 27 47 48,zL 50 91 49,zI 51 27 37 38,⟨none,.store 91 (.tmp 51) (.tmp 46),none⟩,zI 52 27 39 41,⟨none,.store 91 (.tmp 52) (.tmp 50),none⟩]
instance : Live qgg := ⟨[0,1,2,3,8,9]⟩
instance : Rd qgg := ⟨fun j => false⟩
def qvf : List SOp := [zM 35 9,zO 36 (.binOp .sub 3 (.tmp 35) (.const (.int .i64 1)) 3),zG 9 36]
instance : Live qvf := ⟨[0,1,2,3,8,9]⟩
def qve : List SOp := [zM 15 8,zO 16 (.binOp .add 3 (.tmp 15) (.const (.int .i64 1)) 3),zG 8 16]
instance : Live qve := ⟨[0,1,2,3,8]⟩
def zas : SC :=
 (.seq (.seq (.ops true qvg) (.cond (.tmp 34) .skip (.exit 2))) (.seq (.block 3 (.opsW [] qgg)) (.ops false qvf)))
def qif : SC :=
 (.seq (.seq (.ops false qvi) (.cond (.tmp 14) .skip (.exit 0))) (.seq (.block 1 (.seq (.ops false qvh) (.block 2 (.loop zas)))) (.ops false qve)))
def t_k174 : SC :=
 (.seq (.ops false qvj) (.block 0 (.loop qif)))
theorem it_k174 : FnIs Tryz.prog 174 53 [] t_k174 := ⟨Tryz.f174, _, Tryz.func174, rfl, rfl, rfl, rfl, by kernel_rfl⟩

def qwy : List SOp := [zO 10 (.assign (.const (.bool true)))]
instance : Live qwy := ⟨[0,1,2,3,4]⟩
def qwx : List SOp := [zO 11 (.assign (.const (.bool true)))]
instance : Live qwx := ⟨[0,1,2,3,4,10]⟩
def qww : List SOp := [zM 21 2,zM 22 1,zO 23 (.binOp .sub 3 (.tmp 21) (.tmp 22) 3),zG 12 23]
instance : Live qww := ⟨[0,1,2,3,4,10,11]⟩
def qwv : List SOp := [zM 24 12,zO 25 (.binOp .leq 3 (.tmp 24) (.const (.int .i64 12)) 3)]
instance : Live qwv := ⟨[0,1,2,3,4,10,11,12]⟩
def qwu : List SOp := [zM 26 0,zM 27 1,zM 28 2,zM 29 4,zO 30 (.call ⟨.value (.func 174),#[.tmp 26,.tmp 27,.tmp 28,.tmp 29],#[27,3,3,148]⟩)]
instance : Live qwu := ⟨[0,1,2,4]⟩
def qwt : List SOp := [zM 31 3,zO 32 (.binOp .eql 3 (.tmp 31) (.const (.int .i64 0)) 3)]
instance : Live qwt := ⟨[0,1,2,3,4,10,11,12]⟩
def qws : List SOp := [zM 33 0,zM 34 1,zM 35 2,zM 36 4,zO 37 (.call ⟨.value (.func 175),#[.tmp 33,.tmp 34,.tmp 35,.tmp 36],#[27,3,3,148]⟩)]
instance : Live qws := ⟨[0,1,2,4]⟩
def qwr : List SOp := [zM 38 10,zO 39 (.unOp .not 4 (.tmp 38))]
instance : Live qwr := ⟨[0,1,2,3,4,10,11,12]⟩
def qwq : List SOp := [zM 40 0,zM 41 1,zM 42 2,zM 43 4,zO 44 (.call ⟨.value (.func 176),#[.tmp 40,.tmp 41,.tmp 42,.tmp 43],#[27,3,3,148]⟩)]
instance : Live qwq := ⟨[0,1,2,3,4,10,11,12]⟩
def ql1 : List SOp := [zM 45 3,zO 46 (.binOp .sub 3 (.tmp 45) (.const (.int .i64 1)) 3),zG 3 46]
instance : Live ql1 := ⟨[0,1,2,3,4,10,11,12]⟩
def ql0 : List SOp := [zM 48 0,zM 49 1,zM 50 2,zM 51 4,zO 52 (.call ⟨.value (.func 177),#[.tmp 48,.tmp 49,.tmp 50,.tmp 51],#[27,3,3,148]⟩),zM 47 52,zX 53 47 0,zX 54 47 1,zG 13 53,zG 14 54]
instance : Live ql0 := ⟨[0,1,2,3,4,10,11,12]⟩
def qkz : List SOp := [zM 55 14,zO 56 (.binOp .eql 212 (.tmp 55) (.const (.int .i64 2)) 212)]
instance : Live qkz := ⟨[0,1,2,3,4,10,11,12,13,14]⟩
def qky : List SOp := [zM 57 0,zM 58 1,zM 59 2,zM 60 4,zO 61 (.call ⟨.value (.func 178),#[.tmp 57,.tmp 58,.tmp 59,.tmp 60],#[27,3,3,148]⟩)]
instance : Live qky := ⟨[0,1,2,3,4,10,11,12,13]⟩
def qkx : List SOp := [zM 62 2,zO 63 (.binOp .sub 3 (.tmp 62) (.const (.int .i64 1)) 3),zM 64 13,zM 65 1,zO 66 (.binOp .sub 3 (.tmp 64) (.tmp 65) 3),zO 67 (.binOp .sub 3 (.tmp 63) (.tmp 66) 3),zG 13 67]
instance : Live qkx := ⟨[0,1,2,3,4,10,11,12,13]⟩
def qkw : List SOp := [zO 14 (.assign (.const (.int .i64 1)))]
instance : Live qkw := ⟨[0,1,2,3,4,10,11,12,13]⟩
def qkv : List SOp := [zM 68 10,zM 69 68,⟨some 70,.move (.tmp 11),some ((some 69),true)⟩,zO 71 (.pick (.tmp 69) (.tmp 70) (.const (.bool false))),zM 72 71,⟨some 73,.move (.tmp 14),some ((some 72),true)⟩,⟨some 74,.binOp .eql 212 (.tmp 73) (.const (.int .i64 1)) 212,some ((some 72),true)⟩,zO 75 (.pick (.tmp 72) (.tmp 74) (.const (.bool false)))]
instance : Live qkv := ⟨[0,1,2,3,4,10,11,12,13,14]⟩
def qku : List SOp := [zM 76 0,zM 77 1,zM 78 2,zM 79 4,zO 80 (.call ⟨.value (.func 179),#[.tmp 76,.tmp 77,.tmp 78,.tmp 79],#[27,3,3,148]⟩)]
instance : Live qku := ⟨[0,1,2,3,4,10,11,12,13]⟩
def qkt : List SOp := [zM 81 1,zO 82 (.binOp .gtr 3 (.tmp 81) (.const (.int .i64 0)) 3),zM 83 82,⟨some 84,.move (.tmp 4),some ((some 83),true)⟩,⟨some 85,.move (.tmp 0),some ((some 83),true)⟩,⟨some 86,.move (.tmp 1),some ((some 83),true)⟩,⟨some 87,.binOp .sub 3 (.tmp 86) (.const (.int .i64 1)) 3,some ((some 83),true)⟩,⟨some 88,.indexAddr 27 (.tmp 85) (.tmp 87),some ((some 83),true)⟩,⟨some 89,.load 91 (.tmp 88),some ((some 83),true)⟩,⟨some 90,.move (.tmp 0),some ((some 83),true)⟩,⟨some 91,.move (.tmp 13),some ((some 83),true)⟩,⟨some 92,.indexAddr 27 (.tmp 90) (.tmp 91),some ((some 83),true)⟩,⟨some 93,.load 91 (.tmp 92),some ((some 83),true)⟩,⟨some 94,.call ⟨.value (.tmp 84),#[.tmp 89,.tmp 93],#[91,91]⟩,some ((some 83),true)⟩,⟨some 95,.binOp .lss 3 (.tmp 94) (.const (.int .i64 0)) 3,some ((some 83),true)⟩,⟨some 96,.unOp .not 4 (.tmp 95),some ((some 83),true)⟩,zO 97 (.pick (.tmp 83) (.tmp 96) (.const (.bool false)))]
instance : Live qkt := ⟨[0,1,2,3,4,10,11,12,13]⟩
def qks : List SOp := [zM 98 0,zM 99 1,zM 100 2,zM 101 13,zM 102 4,zO 103 (.call ⟨.value (.func 180),#[.tmp 98,.tmp 99,.tmp 100,.tmp 101,.tmp 102],#[27,3,3,3,148]⟩),zG 15 103]
instance : Live qks := ⟨[0,1,2,3,4,10,11,13]⟩
def qkr : List SOp := [zM 104 15,zG 1 104]
instance : Live qkr := ⟨[0,2,3,4,10,11,15]⟩
def qkq : List SOp := [zM 106 0,zM 107 1,zM 108 2,zM 109 13,zM 110 4,zO 111 (.call ⟨.value (.func 181),#[.tmp 106,.tmp 107,.tmp 108,.tmp 109,.tmp 110],#[27,3,3,3,148]⟩),zM 105 111,zX 112 105 0,zX 113 105 1,zG 16 112,zG 17 113]
instance : Live qkq := ⟨[0,1,2,3,4,12,13]⟩
def qkp : List SOp := [zM 114 17,zG 11 114]
instance : Live qkp := ⟨[0,1,2,3,4,12,16,17]⟩
def qko : List SOp := [zM 115 16,zM 116 1,zO 117 (.binOp .sub 3 (.tmp 115) (.tmp 116) 3),zM 118 2,zM 119 16,zO 120 (.binOp .sub 3 (.tmp 118) (.tmp 119) 3),zG 18 117,zG 19 120]
instance : Live qko := ⟨[0,1,2,3,4,11,12,16]⟩
def qkn : List SOp := [zM 121 12,zO 122 (.binOp .quo 3 (.tmp 121) (.const (.int .i64 8)) 3),zG 20 122]
instance : Live qkn := ⟨[0,1,2,3,4,11,12,16,18,19]⟩
def qkm : List SOp := [zM 123 18,zM 124 19,zO 125 (.binOp .lss 3 (.tmp 123) (.tmp 124) 3)]
instance : Live qkm := ⟨[0,1,2,3,4,11,16,18,19,20]⟩
def qkl : List SOp := [zM 126 18,zM 127 20,zO 128 (.binOp .geq 3 (.tmp 126) (.tmp 127) 3),zG 10 128]
instance : Live qkl := ⟨[0,1,2,3,4,11,16,18,20]⟩
def qkk : List SOp := [zM 129 0,zM 130 1,zM 131 16,zM 132 3,zM 133 4,zO 134 (.call ⟨.value (.func 163),#[.tmp 129,.tmp 130,.tmp 131,.tmp 132,.tmp 133],#[27,3,3,3,148]⟩)]
instance : Live qkk := ⟨[0,1,2,3,4,10,11,16]⟩
def qkj : List SOp := [zM 135 16,zO 136 (.binOp .add 3 (.tmp 135) (.const (.int .i64 1)) 3),zG 1 136]
instance : Live qkj := ⟨[0,2,3,4,10,11,16]⟩
def qki : List SOp := [zM 137 19,zM 138 20,zO 139 (.binOp .geq 3 (.tmp 137) (.tmp 138) 3),zG 10 139]
instance : Live qki := ⟨[0,1,2,3,4,11,16,19,20]⟩
def qkh : List SOp := [zM 140 0,zM 141 16,zO 142 (.binOp .add 3 (.tmp 141) (.const (.int .i64 1)) 3),zM 143 2,zM 144 3,zM 145 4,zO 146 (.call ⟨.value (.func 163),#[.tmp 140,.tmp 142,.tmp 143,.tmp 144,.tmp 145],#[27,3,3,3,148]⟩)]
instance : Live qkh := ⟨[0,1,2,3,4,10,11,16]⟩
def qkg : List SOp := [zM 147 16,zG 2 147]
instance : Live qkg := ⟨[0,1,3,4,10,11,16]⟩
def qim : SC :=
 (.block 1 (.seq (.ops false qww) (.seq (.seq (.ops false qwv) (.cond (.tmp 25) (.seq (.ops false qwu) .ret) .skip)) (.seq (.seq (.ops false qwt) (.cond (.tmp 32) (.seq (.ops false qws) .ret) .skip)) (.seq (.seq (.ops false qwr) (.cond (.tmp 39) (.seq (.ops false qwq) (.ops false ql1)) .skip)) (.seq (.ops false ql0) (.seq (.seq (.ops false qkz) (.cond (.tmp 56) (.seq (.ops false qky) (.seq (.ops false qkx) (.ops false qkw))) .skip)) (.seq (.seq (.ops false qkv) (.cond (.tmp 75) (.seq (.ops false qku) (.cond (.tmp 80) .ret .skip)) .skip)) (.seq (.seq (.ops true qkt) (.cond (.tmp 97) (.seq (.ops false qks) (.seq (.ops false qkr) (.exit 1))) .skip)) (.seq (.ops false qkq) (.seq (.ops false qkp) (.seq (.ops false qko) (.seq (.ops false qkn) (.seq (.ops false qkm) (.cond (.tmp 125) (.seq (.ops false qkl) (.seq (.ops false qkk) (.ops false qkj))) (.seq (.ops false qki) (.seq (.ops false qkh) (.ops false qkg))))))))))))))))))
def t_k163 : SC :=
 (.seq (.ops false qwy) (.seq (.ops false qwx) (.block 0 (.loop qim))))
theorem it_k163 : FnIs Tryz.prog 163 148 [] t_k163 := ⟨Tryz.f163, _, Tryz.func163, rfl, rfl, rfl, rfl, by kernel_rfl⟩

def z0m : List SOp := [zM 5 0,zO 6 (.call ⟨.builtin .len,#[.tmp 5],#[27]⟩),zG 4 6]
instance : Live z0m := ⟨[0,1]⟩
def z0l : List SOp := [zM 7 0,zM 8 4,zM 9 4,zO 10 (.convert 3 204 (.tmp 9)),zO 11 (.call ⟨.value (.func 164),#[.tmp 10],#[204]⟩),zM 12 1,zO 13 (.call ⟨.value (.func 163),#[.tmp 7,.const (.int .i64 0),.tmp 8,.tmp 11,.tmp 12],#[27,3,3,3,148]⟩)]
instance : Live z0l := ⟨[0,1,4]⟩
def t_k142 : SC :=
 (.seq (.ops false z0m) (.ops false z0l))
theorem zjf : FnIs Tryz.prog 142 14 [] t_k142 := ⟨Tryz.f142, _, Tryz.func142, rfl, rfl, rfl, rfl, by kernel_rfl⟩

def z0k : List SOp := [zO 4 (.assign (.const (.slice none 0 0)))]
instance : Live z0k := ⟨[0,1]⟩
def z0j : List SOp := [zM 8 0,zO 9 (.call ⟨.builtin .len,#[.tmp 8],#[27]⟩),zO 10 (.binOp .lss 3 (.tmp 9) (.const (.int .i64 2)) 3)]
instance : Live z0j := ⟨[0,1]⟩
def z0i : List SOp := [zM 11 0,zG 4 11]
instance : Live z0i := ⟨[0]⟩
def z0h : List SOp := [zO 5 (.assign (.const (.int .i64 1)))]
instance : Live z0h := ⟨[0,1]⟩
def z0g : List SOp := [zM 12 5,zM 13 0,zO 14 (.call ⟨.builtin .len,#[.tmp 13],#[27]⟩),zO 15 (.binOp .lss 3 (.tmp 12) (.tmp 14) 3)]
instance : Live z0g := ⟨[0,1,5]⟩
def z0f : List SOp := [zM 18 1,zM 19 0,zM 20 5,zI 21 27 19 20,zL 22 91 21,zM 23 0,zM 24 5,zO 25 (.binOp .sub 3 (.tmp 24) (.const (.int .i64 1)) 3),zI 26 27 23 25,zL 27 91 26,zO 28 (.call ⟨.value (.tmp 18),#[.tmp 22,.tmp 27],#[91,91]⟩)]
instance : Live z0f := ⟨[0,1,5]⟩
def z0e : List SOp := [zM 29 0,zM 30 5,zO 31 (.slice 27 (.tmp 29) (some (.tmp 30)) none none),zG 6 31]
instance : Live z0e := ⟨[0,1,5]⟩
def z0d : List SOp := [zO 7 (.assign (.const (.int .i64 1)))]
instance : Live z0d := ⟨[0,1,5,6]⟩
def z0c : List SOp := [zM 32 7,zM 33 6,zO 34 (.call ⟨.builtin .len,#[.tmp 33],#[27]⟩),zO 35 (.binOp .lss 3 (.tmp 32) (.tmp 34) 3)]
instance : Live z0c := ⟨[0,1,5,6,7]⟩
def qmb : List SOp := [zM 38 1,zM 39 6,zM 40 7,zI 41 27 39 40,zL 42 91 41,zM 43 6,zM 44 7,zO 45 (.binOp .sub 3 (.tmp 44) (.const (.int .i64 1)) 3),zI 46 27 43 45,zL 47 91 46,zO 48 (.call ⟨.value (.tmp 38),#[.tmp 42,.tmp 47],#[91,91]⟩),zO 49 (.unOp .not 4 (.tmp 48))]
instance : Live qmb := ⟨[0,1,5,6,7]⟩
def qma : List SOp := [zM 50 0,zM 51 5,zM 52 6,zM 53 7,zI 54 27 52 53,zL 55 91 54,zI 56 27 50 51,⟨none,.store 91 (.tmp 56) (.tmp 55),none⟩]
instance : Live qma := ⟨[0,1,5,6,7]⟩
def qm9 : List SOp := [zM 57 5,zO 58 (.binOp .add 3 (.tmp 57) (.const (.int .i64 1)) 3),zG 5 58]
instance : Live qm9 := ⟨[0,1,5,6,7]⟩
def qm8 : List SOp := [zM 36 7,zO 37 (.binOp .add 3 (.tmp 36) (.const (.int .i64 1)) 3),zG 7 37]
instance : Live qm8 := ⟨[0,1,5,6,7]⟩
def qm7 : List SOp := [zM 59 0,zM 60 5,zO 61 (.slice 27 (.tmp 59) (some (.tmp 60)) none none),⟨none,.call ⟨.builtin .clear,#[.tmp 61],#[27]⟩,none⟩]
instance : Live qm7 := ⟨[0,5]⟩
def qm6 : List SOp := [zM 62 0,zM 63 5,zO 64 (.slice 27 (.tmp 62) none (some (.tmp 63)) none),zG 4 64]
instance : Live qm6 := ⟨[0,5]⟩
def qm5 : List SOp := [zM 16 5,zO 17 (.binOp .add 3 (.tmp 16) (.const (.int .i64 1)) 3),zG 5 17]
instance : Live qm5 := ⟨[0,1,5]⟩
def qm4 : List SOp := [zM 65 0,zG 4 65]
instance : Live qm4 := ⟨[0]⟩
def qiw : SC :=
 (.seq (.seq (.ops false z0c) (.cond (.tmp 35) .skip (.exit 2))) (.seq (.block 3 (.seq (.ops true qmb) (.cond (.tmp 49) (.seq (.ops false qma) (.ops false qm9)) .skip))) (.ops false qm8)))
def qix : SC :=
 (.seq (.seq (.ops false z0g) (.cond (.tmp 15) .skip (.exit 0))) (.seq (.block 1 (.seq (.ops true z0f) (.cond (.tmp 28) (.seq (.ops false z0e) (.seq (.seq (.ops false z0d) (.block 2 (.loop qiw))) (.seq (.ops false qm7) (.seq (.ops false qm6) .ret)))) .skip))) (.ops false qm5)))
def zau : SC :=
 (.seq (.ops false z0k) (.seq (.seq (.ops false z0j) (.cond (.tmp 10) (.seq (.ops false z0i) .ret) .skip)) (.seq (.seq (.ops false z0h) (.block 0 (.loop qix))) (.seq (.ops false qm4) .ret))))
theorem zje : FnIs Tryz.prog 143 66 [.tmp 4] zau := ⟨Tryz.f143, _, Tryz.func143, rfl, rfl, rfl, rfl, by kernel_rfl⟩

theorem qhh (xs : List AVal) (h : Int) (hh : h ≤ 1) (g : FuncId) (hs : q0j xs = true) : Ev (En Tryz.prog rfl).P 174 [.sl 3 xs, .int .i64 0, .int .i64 h, .fn g []] (.ret (.tup [])) := by
 refine Ev.of_body it_k174 (by simp) (Run.start ?_)
 unfold t_k174
 have hS := hs
 (have hF := True.intro; refine q01 (k:=?_); clear hF)
 refine Run.while (σ := Nat) (fun i => ⟨tms [(0, .sl 3 xs), (1, .int .i64 0), (2, .int .i64 h), (3, .fn g []), (8, .int .i64 1)], mms []⟩) (fun i => True) (fun i => 0) 0 (have hW := @hs; q0h) trivial ?_
 intro i _
 unfold qif
 (have hF := True.intro; refine q01 (k:=?_); clear hF)
 exact Fin.done ⟨[], rfl, rfl, [], trivial, rfl⟩
theorem ev_pdq1 (xs : List AVal) (h lim : Int) (h0 : 0 ≤ h) (hh : h ≤ 1) (g : FuncId) (hs : q0j xs = true) : Ev (En Tryz.prog rfl).P 163 [.sl 3 xs, .int .i64 0, .int .i64 h, .int .i64 lim, .fn g []] (.ret (.tup [])) := by
 refine Ev.of_body it_k163 (by simp) (Run.start ?_)
 unfold t_k163
 have hS := hs
 have c1 := qhh xs h hh g hs
 (have hF := True.intro; refine q01 (k:=?_); clear hF)
 refine Run.while (σ := Nat) (fun i => ⟨tms [(0, .sl 3 xs), (1, .int .i64 0), (2, .int .i64 h), (3, .int .i64 lim), (4, .fn g [])], mms []⟩) (fun i => True) (fun i => 0) 0 (have hW := @hs; q0h) trivial ?_
 intro i _
 unfold qim
 (have hF := True.intro; refine q01 (k:=?_); clear hF)
 refine q00 [.sl 3 xs, .int .i64 0, .int .i64 h, .fn g []] (he := c1) (k:=?_)
 (have hF := True.intro; refine q01 (k:=?_); clear hF)
 exact Fin.done ⟨[], rfl, rfl, [], trivial, rfl⟩
theorem ev_len64 (x : Int) (h0 : x = 0 ∨ x = 1) : Ev (En Tryz.prog rfl).P 183 [.int .u64 x] (.ret (.int .i64 x)) := by
 refine Ev.of_body it_k183 (by simp) (Run.start ?_)
 unfold t_k183
 rcases h0 with rfl | rfl
 ·(have hF := True.intro; refine q01 (k:=?_); clear hF)
  exact Fin.tmp' (by with_unfolding_all rfl) rfl
 ·(have hF := True.intro; refine q01 (k:=?_); clear hF)
  exact Fin.tmp' (by with_unfolding_all rfl) rfl
theorem ev_len (x : Int) (h0 : x = 0 ∨ x = 1) : Ev (En Tryz.prog rfl).P 164 [.int .u64 x] (.ret (.int .i64 x)) := by
 refine Ev.of_body it_k164 (by simp) (Run.start ?_)
 unfold t_k164
 (have hF := True.intro; refine q01 (k:=?_); clear hF)
 refine q00 [.int .u64 x] (he := ev_len64 x h0) (k:=?_)
 (have hF := True.intro; refine q01 (k:=?_); clear hF)
 exact Fin.tmp' rfl rfl
theorem ev_sort1 (xs : List AVal) (hl : xs.length ≤ 1) (g : FuncId) (hs : q0j xs = true) : Ev (En Tryz.prog rfl).P 142 [.sl 3 xs, .fn g []] (.ret (.tup [])) := by
 refine Ev.of_body zjf (by simp) (Run.start ?_)
 unfold t_k142
 have hS := hs
 have c1 := ev_len xs.length (by omega)
 have c2 := ev_pdq1 xs xs.length xs.length (by omega) (by omega) g hs
 have hwr : IntKind.u64.wrap (xs.length : Int) = (xs.length : Int) := by
  rcases Nat.lt_or_ge xs.length 1 with h | h
  ·rw [show xs.length = 0 by omega]; rfl
  ·rw [show xs.length = 1 by omega]; rfl
 (have hF := @hwr; refine q01 (k:=?_); clear hF)
 refine q00 [.int .u64 xs.length] (he := c1) (k:=?_)
 (have hF := True.intro; refine q01 (k:=?_); clear hF)
 refine q00 [.sl 3 xs, .int .i64 0, .int .i64 xs.length, .int .i64 xs.length, .fn g []] (he := c2) (k:=?_)
 (have hF := True.intro; refine q01 (k:=?_); clear hF)
 exact Fin.done ⟨[], rfl, rfl, [], trivial, rfl⟩
theorem qqz (xs : List AVal) (hl : xs.length ≤ 1) (g : FuncId) (hs : q0j xs = true) : Ev (En Tryz.prog rfl).P 143 [.sl 3 xs, .fn g []] (.ret (.sl 3 xs)) := by
 refine Ev.of_body zje (by simp) (Run.start ?_)
 unfold zau
 (have hF := True.intro; refine q01 (k:=?_); clear hF)
 exact Fin.tmp' rfl hs

def z4j : List SOp := [zO 2 (.assign (.const (.slice none 0 0))),zO 3 (.assign (.const (.int .i64 0)))]
instance : Live z4j := ⟨[0]⟩
def z4i : List SOp := [zO 4 (.assign (.const (.slice none 0 0)))]
instance : Live z4i := ⟨[0]⟩
def z4h : List SOp := [zM 7 0,zO 8 (.call ⟨.builtin .len,#[.tmp 7],#[27]⟩),zO 9 (.move (.const (.int .i64 0)))]
instance : Live z4h := ⟨[0,4]⟩
def z4g : List SOp := [zO 10 (.binOp .lss 3 (.tmp 9) (.tmp 8) 3)]
instance : Live z4g := ⟨[4,7,8,9]⟩
def z4f : List SOp := [zI 11 27 7 9,zL 12 91 11,zO 6 (.alloc 91),⟨none,.store 91 (.tmp 6) (.tmp 12),none⟩]
instance : Live z4f := ⟨[4,7,8,9]⟩
def z4e : List SOp := [zF 13 91 6 0,zL 14 9 13,zO 15 (.binOp .neq 9 (.tmp 14) (.const (.string ⟨#[]⟩)) 9),zM 16 15,⟨some 17,.fieldAddr 91 (.tmp 6) 0,some ((some 16),true)⟩,⟨some 18,.load 9 (.tmp 17),some ((some 16),true)⟩,⟨some 19,.call ⟨.value (.func 137),#[.tmp 18],#[9]⟩,some ((some 16),true)⟩,⟨some 20,.unOp .not 4 (.tmp 19),some ((some 16),true)⟩,zO 21 (.pick (.tmp 16) (.tmp 20) (.const (.bool false)))]
instance : Live z4e := ⟨[4,6,7,8,9]⟩
def z4d : List SOp := [zO 2 (.assign (.const (.slice none 0 0))),zO 3 (.assign (.const (.int .i64 5)))]
instance : Live z4d := ⟨[]⟩
def z4c : List SOp := [zF 22 91 6 1,zL 23 26 22,zO 24 (.call ⟨.value (.func 92),#[.tmp 23],#[26]⟩),zO 25 (.unOp .not 4 (.tmp 24))]
instance : Live z4c := ⟨[4,6,7,8,9]⟩
def z4b : List SOp := [zM 26 4,zL 27 91 6,zO 28 (.call ⟨.value (.func 108),#[.tmp 27],#[91]⟩),zO 29 (.buildSlice 27 1 #[(0,.tmp 28)]),zO 30 (.call ⟨.builtin .append,#[.tmp 26,.tmp 29],#[27,27]⟩),zG 4 30]
instance : Live z4b := ⟨[4,6,7,8,9]⟩
def qnr : List SOp := [zO 31 (.binOp .add 3 (.tmp 9) (.const (.int .i64 1)) 3),zM 9 31]
instance : Live qnr := ⟨[4,7,8,9]⟩
def qnq : List SOp := [zM 32 4,zO 33 (.call ⟨.value (.func 142),#[.tmp 32,.func 106],#[27,148]⟩)]
instance : Live qnq := ⟨[4]⟩
def qnp : List SOp := [zM 34 4,zO 35 (.call ⟨.value (.func 143),#[.tmp 34,.func 144],#[27,164]⟩),zG 2 35,zO 3 (.assign (.const (.int .i64 0)))]
instance : Live qnp := ⟨[4]⟩
def qjf : SC :=
 (.seq (.ops false z4g) (.seq (.cond (.tmp 10) .skip (.exit 0)) (.seq (.block 1 (.seq (.ops false z4f) (.seq (.seq (.ops false z4e) (.cond (.tmp 21) (.seq (.ops false z4d) .ret) .skip)) (.seq (.ops false z4c) (.cond (.tmp 25) (.ops false z4b) .skip))))) (.ops false qnr))))
def t_k113 : SC :=
 (.seq (.ops false z4j) (.seq (.ops false z4i) (.seq (.seq (.ops false z4h) (.block 0 (.loop qjf))) (.seq (.ops false qnq) (.seq (.ops false qnp) .ret)))))
theorem it_k113 : FnIs Tryz.prog 113 36 [.tmp 2, .tmp 3] t_k113 := ⟨Tryz.f113, _, Tryz.func113, rfl, rfl, rfl, rfl, by kernel_rfl⟩

def q5b (l : List Rec) : List Rec := (l.filter fun r => !decide (q3x r.past = 0)).map fun r => ⟨r.sku, q18 r.past⟩
theorem z92 {l : List Rec} {i : Nat} {r : Rec} (h : l[i]? = some r) : q5b (l.take (i + 1)) = q5b (l.take i) ++ if q3x r.past = 0 then [] else [⟨r.sku, q18 r.past⟩] := by
 unfold q5b
 rw [List.take_add_one, h, List.filter_append, List.map_append]
 by_cases hc : q3x r.past = 0 <;> simp [hc]
theorem qoj (l : List Rec) : (q5b l).length ≤ l.length := by
 unfold q5b
 rw [List.length_map]
 exact List.length_filter_le _ _

section
open Go.Shelf Go.RowKit Go.Lib Go.Sort
theorem SWO.pull {α β : Type} {lt : α → α → Bool} (h : SWO lt) (f : β → α) : SWO fun x y => lt (f x) (f y) :=
 ⟨fun x => h.irrefl _, fun x y z => h.trans _ _ _, fun x y z => h.ntrans _ _ _⟩
section
variable {P : Program} {ρ : Ren} {τ : Type}
theorem sortOwnR (L : SlLaysF0.n6 P ρ) (hc6 : Callable P (ρ.f 6)) (k : Nat) (h0k : 0 < k) (aE : ∀ w, (isAgg (ρ.t 24)).run P w = .ok true w) (zE : ∀ w, (Go.sizeOf (ρ.t 24)).run P w = .ok k w)
 (c : τ → List AVal) (hk : ∀ x, (c x).length = k) (hst : ∀ x, q0j (c x) = true) (h1c : ∀ x, ∀ y ∈ c x, y.one = true) (cf : τ → τ → Int) (hO : SWO (ltOf cf)) (g : FuncId) (l : List τ) (hl0 : 0 < l.length) (hl : l.length < 4611686018427387904)
 (hcmp : ∀ x ∈ l, ∀ y ∈ l, Ev P g [.agg (c x), .agg (c y)] (.ret (.int .i64 (cf x y)))) :
 ∃ s : List τ, s.Perm l ∧ s.Pairwise (fun x y => ltOf cf y x = false) ∧ EvOwn P (ρ.f 6) [.undef, .fn g []] 0 k (l.map fun x => .agg (c x)) false (.tup []) (s.map fun x => .agg (c x)) := by
 let τ' := _root_.Fin l.length
 let lx : τ' → τ := fun i => l[i]
 letI : Inhabited τ' := ⟨⟨0, hl0⟩⟩
 let cf' : τ' → τ' → Int := fun i j => cf (lx i) (lx j)
 let c' : τ' → List AVal := fun i => c (lx i)
 have hO' : SWO (ltOf cf') := SWO.pull hO lx
 have hmem : ∀ i : τ', lx i ∈ l := fun i => List.getElem_mem _
 have hdl : (List.finRange l.length).map lx = l := by
  apply List.ext_getElem
  ·rw [List.length_map, List.length_finRange]
  ·intro i h1 h2
   rw [List.getElem_map, List.getElem_finRange]
   rfl
 let d : Array τ' := (List.finRange l.length).toArray
 let d' := pdq (ltOf cf') d 0 d.size (Lib.bitLen d.size) true true
 have hds : d.size = l.length := by
  show (List.finRange l.length).toArray.size = _
  rw [List.size_toArray, List.length_finRange]
 obtain ⟨hp, hsrt⟩ := pdq_sorts (ltOf cf') hO' d 0 d.size (Lib.bitLen d.size) true true (Nat.zero_le _) (Nat.le_refl _) (Or.inl rfl)
 have hsz' : d'.size = d.size := hp.1
 have hperm : d'.toList.Perm (List.finRange l.length) := by
  have := hp.2.2
  have e : ∀ (x : Array τ') (n : Nat), x.size = n → x.extract 0 n = x := by rintro x n rfl; exact Array.extract_size
  rw [e d _ rfl, e _ _ hsz'] at this
  simpa [d] using this
 have hpw : d'.toList.Pairwise (fun x y => ltOf cf' y x = false) := by
  rw [List.pairwise_iff_getElem]
  intro i j hi hj hij
  have h1 : i < d'.size := by simpa using hi
  have h2 : j < d'.size := by simpa using hj
  have := hsrt i j (Nat.zero_le _) hij (by rw [← hsz']; exact h2)
  rw [show (pdq (ltOf cf') d 0 d.size (Lib.bitLen d.size) true true) = d' from rfl, getElem!_pos d' i h1, getElem!_pos d' j h2] at this
  simpa using this
 refine ⟨d'.toList.map lx, ?_, ?_, hc6, fun B w vs G hkey hvs hv hown hB hol => ?_⟩
 ·have := hperm.map lx
  rwa [hdl] at this
 ·rw [List.pairwise_map]
  exact hpw
 obtain ⟨v0, hv0, hown⟩ := hown
 obtain ⟨v1, hv1⟩ : ∃ v, vs[1]? = some v := ⟨vs[1]'(by rw [hvs]; simp), by simp [hvs]⟩
 have hfn := hv 1 (.fn g []) v1 (by decide) rfl hv1
 have hf1 : v1 = .func (.func g) #[] #[] := by
  cases hfn with
  | fn _ _ ws hl0 _ =>
   have : ws = #[] := Array.eq_empty_of_size_eq_zero (by simpa using hl0)
   rw [this]
 have hvs' : vs = #[v0, v1] := by
  have h2 : vs.size = 2 := hvs
  apply Array.ext_getElem?
  intro i
  match i with
  | 0 => simpa using hv0
  | 1 => simpa using hv1
  | i + 2 => rw [Array.getElem?_eq_none (by omega)]; simp
 rw [hvs', hf1]
 rcases hown with ⟨rfl, hnil⟩ | ⟨b, off, cap, cc, el, hb1, hb2, hb3, hb4, hb5, hb6, hb7, hb8, hb9⟩
 ·have : l = [] := by simpa using hnil
  rw [this] at hl0
  simp at hl0
 ·rw [q40] at hb8 hb9
  have hblk : b < w.heap.size := by
   rcases Nat.lt_or_ge b w.heap.size with h | h
   ·exact h
   ·rw [Array.getElem?_eq_none h] at hb5; cases hb5
  have hlen : (l.map fun x => AVal.agg (c x)).length = l.length := by simp
  rw [hlen] at hb1 hb2
  have hroom : off + l.length * k ≤ cc.size := by
   have := Nat.mul_le_mul_right k hb2
   omega
  let enc : τ' → List Value := fun i => (List.range k).map fun j => cc.getD (off + (i.val * k + j)) undef
  have hek : ∀ x, (enc x).length = k := fun x => by simp [enc]
  have cellE : ∀ (i : τ') (j : Nat) (y : AVal), (c' i)[j]? = some y → ∃ u, (enc i)[j]? = some u ∧ cc[off + (i.val * k + j)]? = some u ∧ VR (Dm NoM) G B w y u := by
   intro i j y hy
   have hj : j < k := by
    rw [← hk (lx i)]
    rcases Nat.lt_or_ge j (c' i).length with h | h
    ·exact h
    ·rw [List.getElem?_eq_none h] at hy; cases hy
   obtain ⟨u, hu, hr⟩ := hb9 (i.val * k + j) y (by rw [qah hk (x := lx i) (List.getElem?_eq_getElem i.isLt) hj]; exact hy)
   exact ⟨u, by simp [enc, hj, hu], hu, hr⟩
  have encOf : ∀ (i : τ') (u : Value), u ∈ enc i → ∃ (j : Nat) (y : AVal), (c' i)[j]? = some y ∧ (enc i)[j]? = some u := by
   intro i u hu
   obtain ⟨j, hj, hu'⟩ := List.getElem_of_mem hu
   have hj' : j < (c' i).length := by rw [hk]; rwa [hek] at hj
   exact ⟨j, _, List.getElem?_eq_getElem hj', by rw [← hu']; exact List.getElem?_eq_getElem hj⟩
  have he1 : ∀ x, ∀ v ∈ enc x, v.oneCell' = true := fun x v hv => by
   obtain ⟨j, y, hy, hu⟩ := encOf x v hv
   obtain ⟨u, hu2, _, hr⟩ := cellE x j y hy
   rw [hu] at hu2
   cases hu2
   exact hr.oneCell (h1c (lx x) y (List.mem_of_getElem? hy))
  have cellv : ∀ (m : Array τ') (t : Nat), t < m.size * k → ∃ (x : τ') (y : AVal) (u : Value), m.toList[t / k]? = some x ∧ (c' x)[t % k]? = some y ∧ ((m.toList.map lx).flatMap c)[t]? = some y ∧ (flatK enc k m)[t]! = u ∧ cc[off + (x.val * k + t % k)]? = some u ∧ VR (Dm NoM) G B w y u := by
   intro m t ht
   have h1 : t / k < m.size := Nat.div_lt_of_lt_mul (by rw [Nat.mul_comm]; exact ht)
   have h2 : t % k < k := Nat.mod_lt _ h0k
   have hx : m.toList[t / k]? = some m[t / k] := by simp [h1]
   have hy : (c' m[t / k])[t % k]? = some ((c' m[t / k])[t % k]'(by rw [hk]; exact h2)) := by simp [hk, h2]
   obtain ⟨u, hu1, hu2, hr⟩ := cellE m[t / k] (t % k) _ hy
   refine ⟨m[t / k], _, u, hx, hy, ?_, ?_, hu2, hr⟩
   ·have hx' : (m.toList.map lx)[t / k]? = some (lx m[t / k]) := by rw [List.getElem?_map, hx]; rfl
    rw [← hy, ← qah hk hx' h2, Nat.mul_comm, Nat.div_add_mod]
   ·rw [get_flatK _ _ _ _ ht, getElem!_pos m _ h1, getElem!_pos (enc m[t / k]) _ (by rw [hek]; exact h2)]
    rw [List.getElem?_eq_getElem (by rw [hek]; exact h2)] at hu1
    exact Option.some.inj hu1
  have hdget : ∀ (t : Nat) (x : τ'), d.toList[t]? = some x → x.val = t := by
   intro t x hx
   have hx : (List.finRange l.length)[t]? = some x := hx
   rw [List.getElem?_eq_some_iff] at hx
   obtain ⟨h1, h2⟩ := hx
   rw [List.getElem_finRange] at h2
   rw [← h2]
   rfl
  have hH : HoldsK enc k w b off d := by
   intro t ht
   rw [size_flatK, hds] at ht
   obtain ⟨x, y, u, e1, e2, e3, e4, e5, e6⟩ := cellv d t (by rw [hds]; exact ht)
   have hx := hdget _ _ e1
   have hidx : x.val * k + t % k = t := by rw [hx, Nat.mul_comm]; exact Nat.div_add_mod t k
   rw [hidx] at e5
   refine ⟨?_, ?_⟩
   ·rw [q36 hb5, e5, e4]; rfl
   ·simp [World.frozen?, hb5]
  have hbg : G.ow b ≠ none := by rw [hb3]; simp
  have hwk : ∀ (m : Nat) (os : Array Obj) (dk : Array τ') (b' : Nat), b' < w.heap.size → (sortWorldK enc k w b off m dk os).heap[b']? = if b' = b then some (.cells (putCells id off (flatK enc k dk) cc) el (0, 0)) else w.heap[b']? := by
   intro m os dk b' hb'
   simp only [sortWorldK, grow, putRowK, putRow, mapBlock, Sort.ahead]
   rw [Array.getElem?_append_left (by simpa using hb'), Array.getElem?_modify]
   by_cases hbb : b = b'
   ·subst hbb
    rw [if_pos rfl, if_pos rfl, hb5]
    rfl
   ·rw [if_neg hbb, if_neg (Ne.symm hbb)]
  have hstw : ∀ (m : Nat) (os : Array Obj) (dk : Array τ') (G' : Gh) (B' : Nat → Prop), (∀ b', G.ow b' = none → G'.ow b' = none) → (∀ b', B' b' → B b') → ∀ (y : AVal) (u : Value), y.stb = true → VR (Dm NoM) G B w y u → VR (Dm NoM) G' B' (sortWorldK enc k w b off m dk os) y u := by
   intro m os dk G' B' hG hBB y u hy hr
   refine hr.stable (fun b' hb' hn ho => ⟨?_, fun hc => hn (hBB _ hc), hG _ ho⟩) hy
   rw [hwk m os dk b' hb', if_neg]
   rintro rfl
   exact hbg ho
  have hlays : CmpLays P g #[] enc k cf' b off d.size w := by
   intro m os dk hdk x y
   have hone : ∀ x : τ', VR (Dm NoM) { G with ow := fun _ => none } (fun _ => False) (sortWorldK enc k w b off m dk os) (.agg (c' x)) (.agg (enc x).toArray) := fun x => by
    refine .agg _ _ (by simp [hek, c', hk]) fun n z v hz hv => ?_
    obtain ⟨u, hu, _, hr⟩ := cellE x n z hz
    rw [List.getElem?_toArray, hu] at hv
    rw [← Option.some.inj hv]
    exact hstw m os dk _ _ (fun _ _ => rfl) (fun _ h => False.elim h) z u (q3w (hst (lx x)) hz) hr
   have hE := (hcmp _ (hmem x) _ (hmem y)).2 (fun _ => False) (sortWorldK enc k w b off m dk os) #[.agg (enc x).toArray, .agg (enc y).toArray] { G with ow := fun _ => none } (fun _ => rfl) rfl (fun i z v hz hv => ?_) (fun _ h => h.elim)
   ·refine hE.mono ?_
    rintro e w' ⟨G', v', hG', hA, he, hr⟩
    cases hr
    exact ⟨he, hA.grown (fun _ => rfl)⟩
   ·match i with
    | 0 => simp at hz hv; subst hz; subst hv; exact hone x
    | 1 => simp at hz hv; subst hz; subst hv; exact hone y
    | i + 2 => simp at hz
  have eg : ∀ args w, (callFunc g args).run P w = .ok (.enter g args) w := fun args w => by
   obtain ⟨fn, hfn, hnm, hbd⟩ := (hcmp _ (hmem default) _ (hmem default)).1.ok
   have e1 : (fn.name = "runtime.NumGoroutine") = False := by simpa using hnm
   have e2 : (fn.body = none) = False := by simp only [eq_iff_iff, iff_false]; intro hn; rw [hn] at hbd; simp at hbd
   simp [callFunc, hfn, e1, e2]
  have hmain := AnyQ.slices_SortFunc_eq L k aE zE enc hek he1 cf' hO' g #[] b off cap d w eg hlays hH hblk (by rw [hds]; exact hl)
  rw [hb1, show l.length = d.size by rw [hds]]
  refine hmain.mono ?_
  rintro e w' ⟨rfl, n, os, hw'⟩
  have hw0 : ∀ b', b' < w.heap.size → w'.heap[b']? = if b' = b then some (.cells (putCells id off (flatK enc k d') cc) el (0, 0)) else w.heap[b']? := by
   intro b' hb'
   rw [hw']
   exact hwk _ _ _ _ hb'
  have hsize : w.heap.size ≤ w'.heap.size := by
   rw [hw']
   simp [sortWorldK, grow, putRowK, putRow, mapBlock, Sort.ahead]
  have hkeep : ∀ b', b' < w.heap.size → G.ow b' = none → w'.heap[b']? = w.heap[b']? ∧ G.ow b' = none := fun b' hb' ho => by
   refine ⟨?_, ho⟩
   rw [hw0 b' hb', if_neg]
   rintro rfl
   rw [hb3] at ho; cases ho
  have hA : Adv G w G w' := ⟨by rw [hw']; exact ⟨rfl, Nat.le_add_right _ _⟩, by rw [hw']; rfl, by rw [hw']; rfl, hsize, hkeep⟩
  refine ⟨G, .tuple #[], v0, rfl, hkey, fun b' hb' => Nat.lt_of_lt_of_le (hol b' hb') hsize, hA, .inr ⟨b, off, cap, putCells id off (flatK enc k d') cc, el, ?_, ?_, hb3, hb4, ?_, ?_, ?_, ?_, ?_⟩, fun h => (by cases h), fun _ => ⟨by simp [hb1, hds], .tup [] #[] rfl fun n x v hx => by simp at hx⟩⟩
  ·rw [hb1]; simp [hsz', hds]
  ·simp only [List.length_map, Array.length_toList, hsz', hds]; exact hb2
  ·rw [hw0 b hblk, if_pos rfl]
  ·simp only [putCells, Array.size_mapIdx]; exact hb6
  ·intro x hx
   obtain ⟨z, _, rfl⟩ := List.mem_map.1 hx
   exact hk z
  ·intro x hx
   rw [q40] at hx
   obtain ⟨z, _, hz⟩ := List.mem_flatMap.1 hx
   exact h1c z x hz
  ·intro t x hx
   rw [q40] at hx
   have htl : t < d'.size * k := by
    have h1 : t < ((d'.toList.map lx).flatMap c).length := by
     rcases Nat.lt_or_ge t ((d'.toList.map lx).flatMap c).length with h | h
     ·exact h
     ·rw [List.getElem?_eq_none h] at hx; cases hx
    rwa [← q40, q0p (sz := k) (fun y hy => by obtain ⟨z, _, rfl⟩ := List.mem_map.1 hy; exact hk z), List.length_map, List.length_map, Array.length_toList] at h1
   obtain ⟨z, y, u, e1, e2, e3, e4, e5, e6⟩ := cellv d' t htl
   rw [hx] at e3
   cases e3
   have hlt : off + t < cc.size := by rw [hsz', hds] at htl; omega
   refine ⟨u, ?_, ?_⟩
   ·simp only [putCells, Array.getElem?_mapIdx, Array.getElem?_eq_getElem hlt, Option.map_some]
    rw [if_pos ⟨by omega, by rw [size_flatK]; omega⟩, show off + t - off = t by omega, e4]
    rfl
   ·rw [hw']
    exact hstw _ _ _ G B (fun _ h => h) (fun _ h => h) x u (q3w (hst (lx z)) e2) e6
end
end
section
open Go.Proofs Go.Shelf Go.RowKit Go.Lib Go.Sort
def qdc : Go.Shelf.Ren := ⟨fun | 6 => 142 | 15 => 164 | 14 => 163 | 28 => 182 | 29 => 183 | 20 => 174 | 21 => 175 | 22 => 176 | 23 => 177 | 24 => 178 | 25 => 179 | 26 => 180 | 27 => 181 | 46 => 188 | 47 => 189 | 48 => 190 | 49 => 191 | 50 => 192 | 57 => 197 | n => n, fun | 22 => 27 | 24 => 91 | 25 => 148 | 3 => 3 | 39 => 204 | 0 => 0 | 53 => 220 | 55 => 79 | 4 => 4 | 46 => 213 | 45 => 212 | 50 => 217 | 5 => 5 | 9 => 9 | 66 => 227 | 70 => 231 | 76 => 234 | 77 => 205 | n => n, fun | n => n⟩
theorem qqm : Go.Proofs.SlLaysF0.n6 Tryz.prog qdc where
 mixed := by kernel_rfl
 f6 := ⟨Tryz.f142.name, by decide, Tryz.func142.trans (congrArg some (by kernel_rfl))⟩
 f14 := ⟨Tryz.f163.name, by decide, Tryz.func163.trans (congrArg some (by kernel_rfl))⟩
 f15 := Tryz.func164.trans (congrArg some (by kernel_rfl))
 f20 := ⟨Tryz.f174.name, by decide, Tryz.func174.trans (congrArg some (by kernel_rfl))⟩
 f21 := ⟨Tryz.f175.name, by decide, Tryz.func175.trans (congrArg some (by kernel_rfl))⟩
 f22 := ⟨Tryz.f176.name, by decide, Tryz.func176.trans (congrArg some (by kernel_rfl))⟩
 f23 := ⟨Tryz.f177.name, by decide, Tryz.func177.trans (congrArg some (by kernel_rfl))⟩
 f24 := ⟨Tryz.f178.name, by decide, Tryz.func178.trans (congrArg some (by kernel_rfl))⟩
 f25 := ⟨Tryz.f179.name, by decide, Tryz.func179.trans (congrArg some (by kernel_rfl))⟩
 f26 := ⟨Tryz.f180.name, by decide, Tryz.func180.trans (congrArg some (by kernel_rfl))⟩
 f27 := ⟨Tryz.f181.name, by decide, Tryz.func181.trans (congrArg some (by kernel_rfl))⟩
 f28 := Tryz.func182.trans (congrArg some (by kernel_rfl))
 f29 := Tryz.func183.trans (congrArg some (by kernel_rfl))
 f46 := ⟨Tryz.f188.name, by decide, Tryz.func188.trans (congrArg some (by kernel_rfl))⟩
 f47 := Tryz.func189.trans (congrArg some (by kernel_rfl))
 f48 := Tryz.func190.trans (congrArg some (by kernel_rfl))
 f49 := ⟨Tryz.f191.name, by decide, Tryz.func191.trans (congrArg some (by kernel_rfl))⟩
 f50 := ⟨Tryz.f192.name, by decide, Tryz.func192.trans (congrArg some (by kernel_rfl))⟩
 f57 := ⟨Tryz.f197.name, by decide, Tryz.func197.trans (congrArg some (by kernel_rfl))⟩
 t0 := Tryz.underlying0
 a0 := Tryz.isAgg0
 z0 := Tryz.sizeOf0
 v0 := Tryz.zeroValue0
 t3 := Tryz.underlying3
 a3 := Tryz.isAgg3
 z3 := Tryz.sizeOf3
 v3 := Tryz.zeroValue3
 t4 := Tryz.underlying4
 a4 := Tryz.isAgg4
 z4 := Tryz.sizeOf4
 v4 := Tryz.zeroValue4
 t5 := Tryz.underlying5
 a5 := Tryz.isAgg5
 z5 := Tryz.sizeOf5
 v5 := Tryz.zeroValue5
 t9 := Tryz.underlying9
 a9 := Tryz.isAgg9
 z9 := Tryz.sizeOf9
 v9 := Tryz.zeroValue9
 t22 := Tryz.underlying27
 a22 := Tryz.isAgg27
 z22 := Tryz.sizeOf27
 v22 := Tryz.zeroValue27
 t25 := Tryz.underlying148
 a25 := Tryz.isAgg148
 z25 := Tryz.sizeOf148
 v25 := Tryz.zeroValue148
 t39 := Tryz.underlying204
 a39 := Tryz.isAgg204
 z39 := Tryz.sizeOf204
 v39 := Tryz.zeroValue204
 t45 := Tryz.underlying212
 a45 := Tryz.isAgg212
 z45 := Tryz.sizeOf212
 v45 := Tryz.zeroValue212
 t46 := Tryz.underlying213
 a46 := Tryz.isAgg213
 z46 := Tryz.sizeOf213
 v46 := Tryz.zeroValue213
 t50 := Tryz.underlying217
 a50 := Tryz.isAgg217
 z50 := Tryz.sizeOf217
 v50 := Tryz.zeroValue217
 t53 := Tryz.underlying220
 a53 := Tryz.isAgg220
 z53 := Tryz.sizeOf220
 v53 := Tryz.zeroValue220
 t55 := Tryz.underlying79
 a55 := Tryz.isAgg79
 z55 := Tryz.sizeOf79
 v55 := Tryz.zeroValue79
 t66 := Tryz.underlying227
 a66 := Tryz.isAgg227
 z66 := Tryz.sizeOf227
 v66 := Tryz.zeroValue227
 t70 := Tryz.underlying231
 a70 := Tryz.isAgg231
 z70 := Tryz.sizeOf231
 v70 := Tryz.zeroValue231
 t76 := Tryz.underlying234
 a76 := Tryz.isAgg234
 z76 := Tryz.sizeOf234
 v76 := Tryz.zeroValue234
 t77 := Tryz.underlying205
 a77 := Tryz.isAgg205
 z77 := Tryz.sizeOf205
 v77 := Tryz.zeroValue205
end
def z0b : List SOp := [zO 2 (.box 91 (.tmp 0)),zO 3 (.box 91 (.tmp 1)),zO 4 (.assign (.const (.bool false)))]
instance : Live z0b := ⟨[0,1]⟩
def z0a : List SOp := [zL 5 91 2,zL 6 91 3,zO 7 (.call ⟨.value (.func 106),#[.tmp 5,.tmp 6],#[91,91]⟩),zO 8 (.binOp .eql 3 (.tmp 7) (.const (.int .i64 0)) 3),zG 4 8]
instance : Live z0a := ⟨[2,3]⟩
def t_k144 : SC :=
 (.seq (.ops false z0b) (.seq (.ops false z0a) .ret))
theorem it_k144 : FnIs Tryz.prog 144 9 [.tmp 4] t_k144 := ⟨Tryz.f144, _, Tryz.func144, rfl, rfl, rfl, rfl, by kernel_rfl⟩

section
open Go.Proofs Go.Shelf Go.RowKit Go.Lib Go.Sort
def WkQ (n : Nat) (Q : Ex → AS → Prop) : Ex → AS → Prop
 | .pan x, s => Q (.pan x) s
 | e, s => ∃ s2, Wk n s s2 ∧ Q e s2
theorem AW.wkEnd {E : Env} {n : Nat} {Q : Ex → AS → Prop} {s : AS} {x : SC} (h : AW E n x (WkQ n Q) s) : AW E n x Q s := fun c hc B G a w hR Q' hP =>
 h c hc B G a w hR Q' fun e s1 a' w' G' hA hR' hq => by
  cases e with
  | pan x => exact hP (.pan x) s1 a' w' G' hA hR' hq
  | normal => obtain ⟨s2, hw, hq2⟩ := hq; obtain ⟨G2, h2, a2⟩ := hw B G' a' w' hR'; exact hP .normal s2 a' w' G2 (hA.trans a2) h2 hq2
  | ret => obtain ⟨s2, hw, hq2⟩ := hq; obtain ⟨G2, h2, a2⟩ := hw B G' a' w' hR'; exact hP .ret s2 a' w' G2 (hA.trans a2) h2 hq2
  | exit id => obtain ⟨s2, hw, hq2⟩ := hq; obtain ⟨G2, h2, a2⟩ := hw B G' a' w' hR'; exact hP (.exit id) s2 a' w' G2 (hA.trans a2) h2 hq2
theorem qqw (l : List Rec) (hw : ∀ r ∈ l, wt r.past ≤ 50000000) (h0 : 0 < l.length) (hl : l.length ≤ 1000000000) :
 ∃ s : List Rec, s.Perm l ∧ s.Pairwise (fun a b => q3s a b ≤ 0) ∧ EvOwn (En Tryz.prog rfl).P 142 [.undef, .fn 106 []] 0 3 (q08 l) false (.tup []) (q08 s) := by
 obtain ⟨s, h1, h2, h3⟩ := sortOwnR (τ := Rec) qqm (FnIs.callable zjf) 3 (by decide) Tryz.isAgg91 Tryz.sizeOf91 (fun r => [.str r.sku, .sl 1 (q05 r.past.vec), .sl 3 (q0d r.past.cloud)]) (fun _ => rfl)
  (fun x => by simp [AVal.stb, q0j, q02, q03]) (fun x y hy => by simp at hy; rcases hy with rfl | rfl | rfl <;> rfl) q3s cmpR_SWO 106 l h0 (by omega) (fun x hx y hy => qhg x y (hw x hx) (hw y hy))
 refine ⟨s, h1, h2.imp fun {a b} h => ?_, h3⟩
 unfold ltOf at h
 simp only [decide_eq_false_iff_not] at h
 have := q61 a b
 omega
theorem q8p (a b : Rec) (ha : wt a.past ≤ 50000000) (hb : wt b.past ≤ 50000000) : Ev (En Tryz.prog rfl).P 144 [q4i a, q4i b] (.ret (.bool (decide (q3s a b = 0)))) := by
 refine Ev.of_body it_k144 (by simp) (Run.start ?_)
 unfold t_k144
 have c1 := qhg a b ha hb
 unfold q4i at c1 ⊢
 have hS := qps
 (have hF := True.intro; refine q01 (k:=?_); clear hF)
 refine q00 [q4i a, q4i b] (he := c1) (k:=?_)
 (have hF := True.intro; refine q01 (k:=?_); clear hF)
 exact Fin.tmp' rfl rfl
theorem zl9 {TE : TyE} {M : Mem} {t el : TypeId} {k e sz i n s1 b1 : Nat} {z1 : Value} {ei : TyI} {xs : List AVal} (ht : TE t = some ⟨.slice el, s1, b1, z1⟩) (he : TE el = some ei) (hM : M k = some (.arr e sz xs)) (hok : ei.okElem = true)
 (hs : sz = ei.size) (h1 : i + n ≤ xs.length) (h0 : 0 < n) : qfq TE M t (.vw k e sz i n) = some (.tup [], [(k, .arr e sz (xs.take i ++ List.replicate n ei.zeroElem ++ xs.drop (i + n)))]) := by
 simp [qfq, ht, he, hM, hok, hs, h1, h0]
theorem zlk {E : Env} {Q : Ex → AS → Prop} {r : List SOp} {T : q1x} {M : Mem} {a : Tmp} {t el : TypeId} {k e sz i n s1 b1 : Nat} {z1 : Value} {ei : TyI} {xs : List AVal} (hx : T a = .vw k e sz i n) (hM : M k = some (.arr e sz xs)) (ht : E.TE t = some ⟨.slice el, s1, b1, z1⟩) (he : E.TE el = some ei)
 (hok : ei.okElem = true) (hs : sz = ei.size) (h1 : i + n ≤ xs.length) (h0 : 0 < n) (kk : q0c E false none Q r ⟨T, upd M k (some (.arr e sz (xs.take i ++ List.replicate n ei.zeroElem ++ xs.drop (i + n))))⟩) :
 q0c E false none Q (⟨none, .call ⟨.builtin .clear, #[.tmp a], #[t]⟩, none⟩ :: r) ⟨T, M⟩ := by
 have h := zl9 ht he hM hok hs h1 h0
 exact dv (v := .tup []) (ups := [(k, .arr e sz (xs.take i ++ List.replicate n ei.zeroElem ++ xs.drop (i + n)))]) rfl (show qfq E.TE M t (T a) = _ by rw [hx]; exact h) (by simp [z9r, qhz]) rfl kk
theorem zks (l : List Rec) (k : Nat) (s : ByteArray) (v : List Int) (c : List Sn) : (q08 l).set k (.agg [.str s, .sl 1 (q05 v), .sl 3 (q0d c)]) = q08 (l.set k ⟨s, ⟨v, c⟩⟩) := by
 unfold q08
 rw [List.map_set]
 rfl
theorem z9m (l : List Rec) (hw : ∀ r ∈ l, wt r.past ≤ 50000000) (hl : l.length ≤ 1000000000) :
 EvOwn (En Tryz.prog rfl).P 143 [.undef, .fn 144 []] 0 3 (q08 l) true .undef (q08 (cpt l l.length)) := by
 refine EvOwn.of_body zje (by simp) (AW.wkEnd (Run.start ?_))
 unfold zau qdg
 have e1 := q0m l
 have hS := qps
 by_cases h2 : l.length < 2
 ·rw [qbr (Nat.le_refl _) (fun j x y hj => absurd hj (by omega)), List.take_length]
  (have hF := @e1; refine q01 (k:=?_); clear hF)
  exact Fin.done ⟨_, Wk.refl _ _, _, rfl, rfl, q04 _⟩
 ·(have hF := @e1; refine q01 (k:=?_); clear hF)
  refine Run.wk (Wk.view 0 0 0 3 rfl rfl (by rw [e1]; omega)) ?_
  rw [e1]
  have h01 : ((0 + 1 : Nat) : Int) = 1 := rfl
  refine Run.while (σ := Nat) (fun j => ⟨tms [(0, .vw 0 0 3 0 l.length), (1, .fn 144 []), (5, .int .i64 ((j + 1 : Nat) : Int))], mms [(0, .arr 0 3 (q08 l))]⟩)
   (fun j => j + 1 ≤ l.length ∧ ∀ (m : Nat) x y, m + 1 < j + 1 → l[m]? = some y → l[m + 1]? = some x → q3s x y ≠ 0) (fun j => l.length - j) 0 (have hW := (aI @q04 @h01); q0h) ⟨by omega, fun m x y hm => absurd hm (by omega)⟩ ?_
  rintro j ⟨hj, hd⟩
  unfold qix
  by_cases hlt : j + 1 < l.length
  ·obtain ⟨x, hx⟩ : ∃ x, l[j + 1]? = some x := ⟨l[j + 1], by simp [hlt]⟩
   obtain ⟨y, hy⟩ : ∃ y, l[j]? = some y := ⟨l[j], by simp [show j < l.length by omega]⟩
   have g1 := q0x hx
   have g2 := q0x hy
   have w1 : IntKind.i64.wrap (((j + 1 : Nat) : Int) - 1) = (j : Int) := by rw [q2l (by omega)]; omega
   have n1 : ((j + 1 : Nat) : Int).toNat = j + 1 := Int.toNat_natCast _
   have n2 : (j : Int).toNat = j := Int.toNat_natCast _
   have c1 := q8p x y (hw x (List.mem_of_getElem? hx)) (hw y (List.mem_of_getElem? hy))
   (have hF := (aI (aI @e1 (aI @g1 @g2)) (aI (aI @w1 @n1) (aI @n2 @Nat.zero_add))); refine q01 (k:=?_); clear hF)
   refine q00 [q4i x, q4i y] (he := c1) (k:=?_)
   by_cases hz : q3s x y = 0
   ·rw [decide_eq_true hz]
    (have hF := (aI @e1 (aI @n1 @Nat.zero_add)); refine q01 (k:=?_); clear hF)
    have h01 : ((0 + 1 : Nat) : Int) = 1 := rfl
    have hcp := qbr (l := l) (n := j + 1) (by omega) hd
    have hcp2 := qbq (l := l) (n := j + 1) (by omega) hx (by simpa using hy)
    rw [if_pos hz, List.append_nil, hcp] at hcp2
    refine Run.while (σ := Nat × Nat × List Rec) (fun z => ⟨tms [(0, .vw 0 0 3 0 l.length), (1, .fn 144 []), (5, .int .i64 (z.2.1 : Int)), (6, .vw 0 0 3 (j + 1) (l.length - (j + 1))), (7, .int .i64 ((z.1 + 1 : Nat) : Int))], mms [(0, .arr 0 3 (q08 z.2.2))]⟩)
     (fun z => z.1 + 1 ≤ l.length - (j + 1) ∧ z.2.2.length = l.length ∧ 1 ≤ z.2.1 ∧ z.2.1 ≤ j + 1 + z.1 ∧ z.2.2.take z.2.1 = cpt l (j + 1 + (z.1 + 1)) ∧ ∀ m, j + 1 + z.1 ≤ m → z.2.2[m]? = l[m]?) (fun z => l.length - z.1) (0, j + 1, l) (have hW := (aI @q04 @h01); q0h)
     ⟨show 0 + 1 ≤ l.length - (j + 1) by omega, rfl, show 1 ≤ j + 1 by omega, show j + 1 ≤ j + 1 + 0 by omega, by simpa using hcp2.symm, fun _ _ => rfl⟩ ?_
    rintro ⟨q, k, cur⟩ ⟨q1, q2, q3, q4, q5, q6⟩
    simp only at q1 q2 q3 q4 q5 q6
    have e2 := q0m cur
    rw [q2] at e2
    unfold qiw
    by_cases hq : q + 1 < l.length - (j + 1)
    ·obtain ⟨u, hu⟩ : ∃ u, l[j + 1 + (q + 1)]? = some u := ⟨l[j + 1 + (q + 1)], by simp [show j + 1 + (q + 1) < l.length by omega]⟩
     obtain ⟨v, hv⟩ : ∃ v, l[j + 1 + q]? = some v := ⟨l[j + 1 + q], by simp [show j + 1 + q < l.length by omega]⟩
     obtain ⟨o, ho⟩ : ∃ o, cur[k]? = some o := ⟨cur[k]'(by omega), by simp [show k < cur.length by omega]⟩
     have g3 := q0x (show cur[j + 1 + (q + 1)]? = some u by rw [q6 _ (by omega)]; exact hu)
     have g4 := q0x (show cur[j + 1 + q]? = some v by rw [q6 _ (by omega)]; exact hv)
     have g5 := q0x ho
     have w2 : IntKind.i64.wrap (((q + 1 : Nat) : Int) - 1) = (q : Int) := by rw [q2l (by omega)]; omega
     have n3 : ((q + 1 : Nat) : Int).toNat = q + 1 := Int.toNat_natCast _
     have n4 : (q : Int).toNat = q := Int.toNat_natCast _
     have n5 : (k : Int).toNat = k := Int.toNat_natCast _
     have c2 := q8p u v (hw u (List.mem_of_getElem? hu)) (hw v (List.mem_of_getElem? hv))
     have hst := qbq (l := l) (n := j + 1 + (q + 1)) (by omega) hu (by rw [show j + 1 + (q + 1) - 1 = j + 1 + q by omega]; exact hv)
     (have hF := (aI (aI @e2 (aI @g3 @g4)) (aI (aI @w2 @n3) (aI @n4 @Nat.zero_add))); refine q01 (k:=?_); clear hF)
     refine q00 [q4i u, q4i v] (he := c2) (k:=?_)
     by_cases hz2 : q3s u v = 0
     ·rw [if_pos hz2, List.append_nil] at hst
      rw [decide_eq_true hz2]
      (have hF := @e2; refine q01 (k:=?_); clear hF)
      have hs2 : ((q + 1 : Nat) : Int) + 1 = ((q + 1 + 1 : Nat) : Int) := rfl
      (refine Fin.nextW ((q + 1, k, cur)) ?_ (have hW := (aI @q04 @hs2); q0h); (try dsimp only))
      exact ⟨⟨show q + 1 + 1 ≤ _ by omega, q2, q3, show k ≤ j + 1 + (q + 1) by omega, by rw [q5]; exact hst.symm, fun m hm => q6 m (by omega)⟩, show l.length - (q + 1) < l.length - q by omega⟩
     ·rw [if_neg hz2] at hst
      rw [decide_eq_false hz2]
      (have hF := (aI (aI @e2 (aI @g3 @g4)) (aI (aI @g5 @n3) (aI @n5 @Nat.zero_add))); refine q01 (k:=?_); clear hF)
      have hs2 : ((q + 1 : Nat) : Int) + 1 = ((q + 1 + 1 : Nat) : Int) := rfl
      have hs3 : (k : Int) + 1 = ((k + 1 : Nat) : Int) := rfl
      (refine Fin.nextW ((q + 1, k + 1, cur.set k u)) ?_ (have hW := (aI (aI @q04 @hs2) (aI @hs3 @zks)); q0h); (try dsimp only))
      have hk : (cur.set k u).take (k + 1) = cur.take k ++ [u] := by
       rw [List.take_add_one, List.take_set_of_le (Nat.le_refl k)]
       simp [show k < cur.length by omega]
      exact ⟨⟨show q + 1 + 1 ≤ _ by omega, by simpa using q2, show 1 ≤ k + 1 by omega, show k + 1 ≤ j + 1 + (q + 1) by omega, by rw [hk, q5]; exact hst.symm, fun m hm => by
       rw [List.getElem?_set_ne (show k ≠ m by omega)]; exact q6 m (by omega)⟩, show l.length - (q + 1) < l.length - q by omega⟩
    ·have hql : j + 1 + (q + 1) = l.length := by omega
     rw [hql] at q5
     have n5 : (k : Int).toNat = k := Int.toNat_natCast _
     (have hF := (aI @e2 (aI @n5 @Nat.zero_add)); refine q01 (k:=?_); clear hF)
     refine zlk rfl rfl (el := 91) (by with_unfolding_all rfl) (by with_unfolding_all rfl) (by with_unfolding_all rfl) (by with_unfolding_all rfl) (by rw [e2]; omega) (by omega) ?_
     (have hF := (aI @e2 (aI @n5 @Nat.zero_add)); refine q01 (k:=?_); clear hF)
     refine Fin.done ⟨_, Wk.unview 4 0 0 3 k rfl rfl (by simp only [List.length_append, List.length_take, List.length_replicate, List.length_drop, e2]; omega), _, rfl, ?_, q04 _⟩
     rw [← q5]
     have e3 : ((q08 cur).take k).length = k := by rw [List.length_take, e2]; omega
     rw [List.append_assoc, List.take_append_of_le_length (show k ≤ ((q08 cur).take k).length by omega), List.take_of_length_le (show ((q08 cur).take k).length ≤ k by omega)]
     simp only [q08, List.map_take]
     rfl
   ·rw [decide_eq_false hz]
    (have hF := @e1; refine q01 (k:=?_); clear hF)
    have hs2 : ((j + 1 : Nat) : Int) + 1 = ((j + 1 + 1 : Nat) : Int) := rfl
    (refine Fin.nextW (j + 1) ?_ (have hW := (aI @q04 @hs2); q0h); (try dsimp only))
    exact ⟨⟨by omega, fun m a b hm hb ha => by
     by_cases e : m = j
     ·subst e
      rw [hx] at ha; rw [hy] at hb; cases ha; cases hb
      exact hz
     ·exact hd m a b (by omega) hb ha⟩, by omega⟩
  ·rw [qbr (Nat.le_refl _) (fun m x y hm => hd m x y (by omega)), List.take_length]
   (have hF := @e1; refine q01 (k:=?_); clear hF)
   exact Fin.done ⟨_, Wk.unview 4 0 0 3 l.length rfl rfl (by rw [e1]; omega), _, rfl, by rw [show (q08 l).take l.length = q08 l by rw [← e1, List.take_length]]; rfl, q04 _⟩
end
def q7a (r : Rec) : Bool := decide (r.sku.size = 0) || q7b r.sku
def srtE (l : List Rec) : List Rec := if l.all q7a = true then qa3 (q5b l) else []
theorem zj9 (l : List Rec) : ∀ y ∈ q5b l, qbb y := by
 intro y hy
 unfold q5b at hy
 obtain ⟨r, _, rfl⟩ := List.mem_map.1 hy
 exact q9y r.past
theorem keptK_wt {l : List Rec} {W : Nat} (hw : ∀ r ∈ l, wt r.past ≤ W) : ∀ y ∈ q5b l, wt y.past ≤ W + 16 := by
 intro y hy
 unfold q5b at hy
 obtain ⟨r, hr, rfl⟩ := List.mem_map.1 hy
 have := hw r (List.mem_filter.1 hr).1
 have := q5w r.past
 simp only
 omega
theorem zlm {l : List Rec} {i : Nat} {r : Rec} (h : l[i]? = some r) (h1 : (l.take i).all q7a = true) (h2 : q7a r = true) : (l.take (i + 1)).all q7a = true := by
 rw [List.take_add_one, h, List.all_append, h1]
 simp [h2]
theorem z8p {l : List Rec} (h : l.length ≤ 1) : qa3 l = l := by
 match l, h with
 | [], _ => rfl
 | [x], _ => rfl
theorem ev_k113 (l : List Rec) (hl : l.length ≤ 1000000000) (hw : ∀ r ∈ l, wt r.past ≤ 40000000) : Ev (En Tryz.prog rfl).P 113 [.sl 3 (q08 l)] (.ret (.tup [.sl 3 (q08 (srtE l)), .int .i64 (if l.all q7a = true then 0 else 5)])) := by
 refine Ev.of_body it_k113 (by simp) (Run.start ?_)
 unfold t_k113
 have e1 := q0m l
 have hS := qps
 (have hF := @e1; refine q01 (k:=?_); clear hF)
 refine Run.wk (Wk.own_nil 4 30 3 rfl rfl) ?_
 refine Run.while (σ := Nat) (fun i => ⟨tms [(4, .os 30 (q5b (l.take i)).length), (7, .sl 3 (q08 l)), (8, .int .i64 l.length), (9, .int .i64 (i : Int))], mms [(30, .arr (q5b (l.take i)).length 3 (q08 (q5b (l.take i))))]⟩)
  (fun i => i ≤ l.length ∧ (l.take i).all q7a = true) (fun i => l.length - i) 0 (have hW := @q04; q0h) ⟨Nat.zero_le _, rfl⟩ ?_
 rintro i ⟨hi, hall⟩
 unfold qjf
 by_cases hlt : i < l.length
 ·obtain ⟨r, hr⟩ : ∃ r, l[i]? = some r := ⟨l[i], by simp [hlt]⟩
  have g1 := q0x hr
  have hst := z92 hr
  have hle := qoj (l.take i)
  have hle2 : (l.take i).length ≤ l.length := by rw [List.length_take]; omega
  generalize q5b (l.take i) = out at hst hle ⊢
  have e2 := q0m out
  have hwr := hw r (List.mem_of_getElem? hr)
  have c1 := qqx r.sku
  have c2 := z7l r.past (by omega)
  have c3 := qqy r (by omega)
  have es := q8s r.sku
  by_cases hz : r.sku.size = 0
  case' pos =>
   have hok : q7a r = true := by simp [q7a, hz]
   rw [eq_true hz] at es
   (have hF := (aI (aI @e1 @e2) (aI @g1 @es)); refine q01 (k:=?_); clear hF)
  case' neg =>
   rw [eq_false hz] at es
   by_cases hg : q7b r.sku = true
   case' neg =>
    have hbad : l.all q7a = false := by
     rw [Bool.eq_false_iff]
     intro h
     have := List.all_eq_true.1 h r (List.mem_of_getElem? hr)
     simp [q7a, hz, hg] at this
    have hg : q7b r.sku = false := by simpa using hg
    rw [hg] at c1
    unfold srtE
    rw [hbad]
    (have hF := (aI (aI @e1 @e2) (aI @g1 @es)); refine q01 (k:=?_); clear hF)
    refine q00 [.str r.sku] (he := c1) (k:=?_)
    (have hF := (aI (aI @e1 @e2) (aI @g1 @es)); refine q01 (k:=?_); clear hF)
    exact Fin.two rfl rfl rfl rfl (.inr ⟨rfl, 3, rfl⟩) (.inl rfl)
   case' pos =>
    have hok : q7a r = true := by simp [q7a, hg]
    rw [hg] at c1
    (have hF := (aI (aI @e1 @e2) (aI @g1 @es)); refine q01 (k:=?_); clear hF)
    refine q00 [.str r.sku] (he := c1) (k:=?_)
    (have hF := (aI (aI @e1 @e2) (aI @g1 @es)); refine q01 (k:=?_); clear hF)
  all_goals
   have hall2 := zlm hr hall hok
   refine q00 [q0g r.past] (he := c2) (k:=?_)
   by_cases hs : q3x r.past = 0
   ·rw [if_pos hs, List.append_nil] at hst
    rw [decide_eq_true hs]
    (have hF := (aI @e1 (aI @e2 @g1)); refine q01 (k:=?_); clear hF)
    (refine Fin.nextW (i + 1) ?_ (have hW := (aI @q04 @hst); q0h); (try dsimp only))
    exact ⟨⟨hlt, hall2⟩, by omega⟩
   ·rw [if_neg hs] at hst
    rw [decide_eq_false hs]
    (have hF := (aI @e1 (aI @e2 @g1)); refine q01 (k:=?_); clear hF)
    refine q00 [q4i r] (he := c3) (k:=?_)
    unfold q4i
    (have hF := (aI @e1 (aI @e2 @g1)); refine q01 (k:=?_); clear hF)
    (refine Fin.nextW (i + 1) ?_ (have hW := (aI @q04 (aI @hst @q86)); q0h); (try dsimp only))
    exact ⟨⟨hlt, hall2⟩, by omega⟩
 ·rw [List.take_of_length_le (show l.length ≤ i by omega)] at hall ⊢
  unfold srtE
  rw [hall, if_pos rfl, if_pos rfl]
  have hk := q0m (q5b l)
  have hkl := qoj l
  have hcan := zj9 l
  have hkw := keptK_wt hw
  by_cases h1 : (q5b l).length ≤ 1
  ·rw [z8p h1]
   refine Run.wk (Wk.give ⟨q1d (q04 l), rfl, rfl, trivial⟩ trivial rfl (q04 _)) ?_
   have c1 := ev_sort1 (q08 (q5b l)) (by omega) 106 (q04 _)
   have c2 := qqz (q08 (q5b l)) (by omega) 144 (q04 _)
   generalize q5b l = out at *
   (have hF := (aI @e1 @hk); refine q01 (k:=?_); clear hF)
   refine q00 [.sl 3 (q08 out), .fn 106 []] (he := c1) (k:=?_)
   (have hF := (aI @e1 @hk); refine q01 (k:=?_); clear hF)
   refine q00 [.sl 3 (q08 out), .fn 144 []] (he := c2) (k:=?_)
   (have hF := (aI @e1 @hk); refine q01 (k:=?_); clear hF)
   exact Fin.two rfl (q04 _) rfl rfl (.inl rfl) (.inl rfl)
  ·obtain ⟨s, hp, hs, hsort⟩ := qqw (q5b l) (fun r hr => by have := hkw r hr; omega) (by omega) (by omega)
   have hsl := hp.length_eq
   have hord := cpt_ord hp hs hcan
   have hcomp := z9m s (fun r hr => by have := hkw r (hp.mem_iff.1 hr); omega) (by omega)
   rw [hord] at hcomp
   generalize q5b l = out at *
   (have hF := (aI @e1 @hk); refine q01 (k:=?_); clear hF)
   refine z80 (args' := [.undef, .fn 106 []]) 0 30 rfl rfl rfl rfl rfl (q04 _) (q04 s) rfl hsort ?_
   (have hF := @e1; refine q01 (k:=?_); clear hF)
   refine z82 (args' := [.undef, .fn 144 []]) 0 30 rfl rfl rfl rfl rfl (q04 _) (q04 _) hcomp ?_
   (have hF := @e1; refine q01 (k:=?_); clear hF)
   exact Fin.two (x := .sl 3 (q08 (qa3 out))) (by simp [fz, fzc, q5q, upd, tms, mms]) (q04 _) rfl rfl (.inl rfl) (.inl rfl)

structure MrS where
 i : Nat
 j : Nat
 out : List Rec

def z09 : List SOp := [zO 4 (.assign (.const (.slice none 0 0)))]
instance : Live z09 := ⟨[0,1]⟩
def z08 : List SOp := [zM 5 1,zO 6 (.binOp .lss 3 (.tmp 5) (.const (.int .i64 0)) 3)]
instance : Live z08 := ⟨[0,1]⟩
def z07 : List SOp := [zO 7 (.makeInterface 9 (.const (.string ⟨#[99,97,110,110,111,116,32,98,101,32,110,101,103,97,116,105,118,101]⟩))),⟨none,.panic (.tmp 7),none⟩]
instance : Live z07 := ⟨[0,1]⟩
def z06 : List SOp := [zM 8 1,zM 9 0,zO 10 (.call ⟨.builtin .cap,#[.tmp 9],#[27]⟩),zM 11 0,zO 12 (.call ⟨.builtin .len,#[.tmp 11],#[27]⟩),zO 13 (.binOp .sub 3 (.tmp 10) (.tmp 12) 3),zO 14 (.binOp .sub 3 (.tmp 8) (.tmp 13) 3),zG 1 14]
instance : Live z06 := ⟨[0,1]⟩
def z05 : List SOp := [zM 15 1,zO 16 (.binOp .gtr 3 (.tmp 15) (.const (.int .i64 0)) 3)]
instance : Live z05 := ⟨[0,1]⟩
def z04 : List SOp := [zM 17 0,zM 18 0,zO 19 (.call ⟨.builtin .cap,#[.tmp 18],#[27]⟩),zO 20 (.slice 27 (.tmp 17) none (some (.tmp 19)) none),zM 21 1,zO 22 (.call ⟨.builtin .append,#[.tmp 20,.tmp 21],#[27,3]⟩),zM 23 0,zO 24 (.call ⟨.builtin .len,#[.tmp 23],#[27]⟩),zO 25 (.slice 27 (.tmp 22) none (some (.tmp 24)) none),zG 0 25]
instance : Live z04 := ⟨[0,1]⟩
def z03 : List SOp := [zM 26 0,zG 4 26]
instance : Live z03 := ⟨[0]⟩
def t_k145 : SC :=
 (.seq (.ops false z09) (.seq (.seq (.ops false z08) (.cond (.tmp 6) (.ops false z07) .skip)) (.seq (.seq (.ops false z06) (.seq (.ops false z05) (.cond (.tmp 16) (.ops false z04) .skip))) (.seq (.ops false z03) .ret))))
theorem it_k145 : FnIs Tryz.prog 145 27 [.tmp 4] t_k145 := ⟨Tryz.f145, _, Tryz.func145, rfl, rfl, rfl, rfl, by kernel_rfl⟩

def z4a : List SOp := [zO 2 (.assign (.const (.slice none 0 0)))]
instance : Live z4a := ⟨[0]⟩
def z49 : List SOp := [zO 3 (.assign (.const (.int .i64 0)))]
instance : Live z49 := ⟨[0]⟩
def z48 : List SOp := [zM 9 0,zO 10 (.call ⟨.builtin .len,#[.tmp 9],#[175]⟩),zO 11 (.move (.const (.int .i64 0)))]
instance : Live z48 := ⟨[0,3]⟩
def z47 : List SOp := [zO 12 (.binOp .lss 3 (.tmp 11) (.tmp 10) 3)]
instance : Live z47 := ⟨[0,3,9,10,11]⟩
def z44 : List SOp := [zI 13 175 9 11,zL 14 27 13,zG 5 14]
instance : Live z44 := ⟨[0,3,9,10,11]⟩
def z43 : List SOp := [zM 15 3,zM 16 5,zO 17 (.call ⟨.builtin .len,#[.tmp 16],#[27]⟩),zO 18 (.binOp .add 3 (.tmp 15) (.tmp 17) 3),zG 3 18]
instance : Live z43 := ⟨[0,3,5,9,10,11]⟩
def z42 : List SOp := [zM 19 3,zO 20 (.binOp .lss 3 (.tmp 19) (.const (.int .i64 0)) 3)]
instance : Live z42 := ⟨[0,3,9,10,11]⟩
def z41 : List SOp := [zO 21 (.makeInterface 9 (.const (.string ⟨#[108,101,110,32,111,117,116,32,111,102,32,114,97,110,103,101]⟩))),⟨none,.panic (.tmp 21),none⟩]
instance : Live z41 := ⟨[0,3,9,10,11]⟩
def z40 : List SOp := [zO 22 (.binOp .add 3 (.tmp 11) (.const (.int .i64 1)) 3),zM 11 22]
instance : Live z40 := ⟨[0,3,9,10,11]⟩
def qno : List SOp := [zM 23 3,zO 24 (.call ⟨.value (.func 145),#[.const (.slice none 0 0),.tmp 23],#[27,3]⟩),zG 6 24]
instance : Live qno := ⟨[0,3]⟩
def qnn : List SOp := [zM 25 0,zO 26 (.call ⟨.builtin .len,#[.tmp 25],#[175]⟩),zO 27 (.move (.const (.int .i64 0)))]
instance : Live qnn := ⟨[0,6]⟩
def qnm : List SOp := [zO 28 (.binOp .lss 3 (.tmp 27) (.tmp 26) 3)]
instance : Live qnm := ⟨[6,25,26,27]⟩
def qnl : List SOp := [zI 29 175 25 27,zL 30 27 29,zG 8 30]
instance : Live qnl := ⟨[6,25,26,27]⟩
def qnk : List SOp := [zM 31 6,zM 32 8,zO 33 (.call ⟨.builtin .append,#[.tmp 31,.tmp 32],#[27,27]⟩),zG 6 33]
instance : Live qnk := ⟨[6,8,25,26,27]⟩
def qnj : List SOp := [zO 34 (.binOp .add 3 (.tmp 27) (.const (.int .i64 1)) 3),zM 27 34]
instance : Live qnj := ⟨[6,25,26,27]⟩
def qni : List SOp := [zM 35 6,zG 2 35]
instance : Live qni := ⟨[6]⟩
def qje : SC :=
 (.seq (.ops false z47) (.seq (.cond (.tmp 12) .skip (.exit 0)) (.seq (.block 1 (.seq (.ops false z44) (.seq (.ops false z43) (.seq (.ops false z42) (.cond (.tmp 20) (.ops false z41) .skip))))) (.ops false z40))))
def qjd : SC :=
 (.seq (.ops false qnm) (.seq (.cond (.tmp 28) .skip (.exit 2)) (.seq (.block 3 (.seq (.ops false qnl) (.ops false qnk))) (.ops false qnj))))
def t_k114 : SC :=
 (.seq (.ops false z4a) (.seq (.ops false z49) (.seq (.seq (.ops false z48) (.block 0 (.loop qje))) (.seq (.ops false qno) (.seq (.seq (.ops false qnn) (.block 2 (.loop qjd))) (.seq (.ops false qni) .ret))))))
theorem it_k114 : FnIs Tryz.prog 114 36 [.tmp 2] t_k114 := ⟨Tryz.f114, _, Tryz.func114, rfl, rfl, rfl, rfl, by kernel_rfl⟩

def zdw : List SOp := [zO 4 (.assign (.const (.slice none 0 0))),zO 5 (.assign (.const (.int .i64 0)))]
instance : Live zdw := ⟨[0,1]⟩
def zdv : List SOp := [zM 6 0,zO 7 (.call ⟨.value (.func 55),#[.tmp 6],#[27]⟩),zO 8 (.binOp .neq 32 (.tmp 7) (.const (.int .i64 0)) 32),zM 9 8,⟨some 10,.move (.tmp 1),some ((some 9),false)⟩,⟨some 11,.call ⟨.value (.func 55),#[.tmp 10],#[27]⟩,some ((some 9),false)⟩,⟨some 12,.binOp .neq 32 (.tmp 11) (.const (.int .i64 0)) 32,some ((some 9),false)⟩,zO 13 (.pick (.tmp 9) (.const (.bool true)) (.tmp 12))]
instance : Live zdv := ⟨[0,1]⟩
def zdu : List SOp := [zO 4 (.assign (.const (.slice none 0 0))),zO 5 (.assign (.const (.int .i64 1)))]
instance : Live zdu := ⟨[]⟩
def zdt : List SOp := [zM 14 0,zM 15 1,zO 16 (.buildSlice 175 2 #[(0,.tmp 14),(1,.tmp 15)]),zO 17 (.call ⟨.value (.func 114),#[.tmp 16],#[175]⟩),zO 18 (.call ⟨.value (.func 113),#[.tmp 17],#[27]⟩),zX 19 18 0,zX 20 18 1,zG 4 19,zG 5 20]
instance : Live zdt := ⟨[0,1]⟩
def t_k66 : SC :=
 (.seq (.ops false zdw) (.seq (.seq (.ops false zdv) (.cond (.tmp 13) (.seq (.ops false zdu) .ret) .skip)) (.seq (.ops false zdt) .ret)))
theorem it_k66 : FnIs Tryz.prog 66 21 [.tmp 4, .tmp 5] t_k66 := ⟨Tryz.f66, _, Tryz.func66, rfl, rfl, rfl, rfl, by kernel_rfl⟩

theorem z9l (m : Nat) (hm : m ≤ 100000000) : EvFresh (En Tryz.prog rfl).P 145 [.nil, .int .i64 (m : Int)] 3 [] := by
 refine EvFresh.of_body it_k145 (by simp) (AW.wkEnd (Run.start ?_))
 unfold t_k145
 (have hF := True.intro; refine q01 (k:=?_); clear hF)
 refine q4j (qdh (En Tryz.prog rfl).hT rfl (by with_unfolding_all rfl) (el := 91) (by with_unfolding_all rfl)) ?_
 rintro v M' ⟨rfl, rfl⟩
 dsimp only [AS.put]
 (focus (have hF := True.intro; (repeat' (first | refine go1 (k:=?_) | with_reducible refine Ny.of ?_ ?_ | (refine Hyp.of ?_; intro hc; (try simp only [hc]); (try simp only [Bh] at hc)))); all_goals clear hF))
 ·refine q4j (qdh (En Tryz.prog rfl).hT rfl (by with_unfolding_all rfl) (el := 91) (by with_unfolding_all rfl)) ?_
  rintro v M' ⟨rfl, rfl⟩
  dsimp only [AS.put]
  (have hF := True.intro; refine q01 (k:=?_); clear hF)
  refine q4j (z96 (En Tryz.prog rfl).hT (m := m) 22 rfl rfl (by omega) (by omega) (by with_unfolding_all rfl) (el := 91) (by with_unfolding_all rfl) (by with_unfolding_all rfl) (ik := .i64) (by with_unfolding_all rfl) (by with_unfolding_all rfl) (by with_unfolding_all rfl) (show m * 64 ≤ 281474976710656 by omega) rfl) ?_
  rintro v M' ⟨rfl, rfl⟩
  dsimp only [AS.put]
  refine dv (v := .nil) (ups := []) rfl (by with_unfolding_all rfl) (by with_unfolding_all rfl) rfl ?_
  refine dv (v := .int .i64 0) (ups := []) rfl (by with_unfolding_all rfl) (by with_unfolding_all rfl) rfl ?_
  dsimp only [AS.put, ap]
  refine q4j (zjk (En Tryz.prog rfl).hT (m := 0) (k := 22) (e := 0) (sz := 3) rfl rfl rfl (Nat.zero_le _) (by with_unfolding_all rfl) (el := 91) (by with_unfolding_all rfl) (by with_unfolding_all rfl) rfl) ?_
  rintro v M' ⟨rfl, rfl⟩
  dsimp only [AS.put]
  (have hF := True.intro; refine q01 (k:=?_); clear hF)
  exact Fin.done ⟨_, Wk.refl _ _, 22, 1, rfl, rfl, rfl⟩
 ·exact Fin.done ⟨_, Wk.own_nil 4 22 3 rfl rfl, 22, 0, rfl, rfl, rfl⟩
theorem zku (a b : List Rec) : q08 a ++ q08 b = q08 (a ++ b) := by simp [q08]
theorem qoy (a b : List Rec) (ha : a.length ≤ 10000000) (hb : b.length ≤ 10000000) : Ev (En Tryz.prog rfl).P 114 [.sl 1 [.sl 3 (q08 a), .sl 3 (q08 b)]] (.ret (.sl 3 (q08 (a ++ b)))) := by
 refine Ev.of_body it_k114 (by simp) (Run.start ?_)
 unfold t_k114
 obtain ⟨Ls, hLs⟩ : ∃ Ls, [AVal.sl 3 (q08 a), AVal.sl 3 (q08 b)] = Ls := ⟨_, rfl⟩
 rw [hLs]
 have hLl : Ls.length = 2 := by rw [← hLs]; rfl
 have hLst : q0j Ls = true := by rw [← hLs]; simp [q0j, AVal.stb, q04]
 have hL0 : Ls[0]? = some (.sl 3 (q08 a)) := by rw [← hLs]; rfl
 have hL1 : Ls[1]? = some (.sl 3 (q08 b)) := by rw [← hLs]; rfl
 clear hLs
 have e1 := q0m a
 have e2 := q0m b
 have hLg : ∀ i, i < 2 → ∃ l, Ls[i]? = some (.sl 3 (q08 l)) ∧ l.length ≤ 10000000 ∧ (if i = 0 then [] else a) ++ l = if i + 1 = 1 then a else a ++ b := by
  intro i hi
  match i, hi with
  | 0, _ => exact ⟨a, hL0, ha, by simp⟩
  | 1, _ => exact ⟨b, hL1, hb, by simp⟩
 have hA : ∃ A : Nat → List Rec, A 0 = [] ∧ A 2 = a ++ b ∧ ∀ i, i < 2 → ∃ l, Ls[i]? = some (.sl 3 (q08 l)) ∧ l.length ≤ 10000000 ∧ A i ++ l = A (i + 1) :=
  ⟨fun i => if i = 0 then [] else if i = 1 then a else a ++ b, rfl, rfl, fun i hi => by
   match i, hi with
   | 0, _ => exact ⟨a, hL0, ha, by simp⟩
   | 1, _ => exact ⟨b, hL1, hb, by simp⟩⟩
 obtain ⟨A, hA0, hA2, hA⟩ := hA
 have hAl : ∀ i, i ≤ 2 → (A i).length ≤ 10000000 * i := by
  intro i
  induction i with
  | zero => intro _; rw [hA0]; simp
  | succ i ih =>
   intro hi
   obtain ⟨l, _, h2, h3⟩ := hA i (by omega)
   have := ih (by omega)
   rw [← h3, List.length_append]
   omega
 clear hLg hL0 hL1
 have hA0l : (A 0).length = 0 := by rw [hA0]; rfl
 have hA2l : (A 2).length ≤ 20000000 := hAl 2 (by omega)
 (have hF := @hLl; refine q01 (k:=?_); clear hF)
 refine Run.while (σ := Nat) (fun i => ⟨tms [(0, .sl 1 Ls), (3, .int .i64 ((A i).length : Int)), (9, .sl 1 Ls), (10, .int .i64 2), (11, .int .i64 (i : Int))], mms []⟩)
  (fun i => i ≤ 2) (fun i => 2 - i) 0 (have hW := (aI @hLst @hA0l); q0h) (Nat.zero_le _) ?_
 intro i hi
 unfold qje
 by_cases hlt : i < 2
 ·obtain ⟨l, gl, hll, hal⟩ := hA i hlt
  have hb1 := hAl i (by omega)
  have hs : ((A i).length : Int) + (l.length : Int) = ((A (i + 1)).length : Int) := by rw [← hal, List.length_append]; omega
  have el := q0m l
  have hn : ¬ ((A (i + 1)).length : Int) < 0 := by omega
  have hb2 := hAl (i + 1) (by omega)
  have hwr : IntKind.i64.wrap ((A (i + 1)).length : Int) = ((A (i + 1)).length : Int) := q2l (by omega)
  (have hF := (aI (aI @hLl (aI @gl @el)) (aI @hs (aI @hn @hwr))); refine q01 (k:=?_); clear hF)
  (refine Fin.nextW (i + 1) ?_ (have hW := @hLst; q0h); (try dsimp only))
  omega
 ·have hi2 : i = 2 := by omega
  subst hi2
  (have hF := @hLl; refine q01 (k:=?_); clear hF)
  refine q4j (z97 (f := 145) (caps := []) 24 rfl rfl rfl (z9l (A 2).length (by omega)) rfl) ?_
  rintro v M' ⟨rfl, rfl⟩
  dsimp only [AS.put]
  (have hF := @hLl; refine q01 (k:=?_); clear hF)
  have hA0e : q08 (A 0) = [] := by rw [hA0]; rfl
  refine Run.while (σ := Nat) (fun i => ⟨tms [(6, .os 24 i), (25, .sl 1 Ls), (26, .int .i64 2), (27, .int .i64 (i : Int))], mms [(24, .arr i 3 (q08 (A i)))]⟩)
   (fun i => i ≤ 2) (fun i => 2 - i) 0 (have hW := (aI @hLst (aI @hA0e @q04)); q0h) (Nat.zero_le _) ?_
  intro i hi
  unfold qjd
  by_cases hlt : i < 2
  ·obtain ⟨l, gl, hll, hal⟩ := hA i hlt
   have hb1 := hAl i (by omega)
   have el := q0m l
   have e3 := q0m (A i)
   have hap : q08 (A i) ++ q08 l = q08 (A (i + 1)) := by rw [zku, hal]
   (have hF := (aI (aI @hLl @gl) (aI @el @e3)); refine q01 (k:=?_); clear hF)
   (refine Fin.nextW (i + 1) ?_ (have hW := (aI @hLst (aI @q04 @hap)); q0h); (try dsimp only))
   omega
  ·have hi2 : i = 2 := by omega
   subst hi2
   rw [← hA2]
   (have hF := @hLl; refine q01 (k:=?_); clear hF)
   exact Fin.tmp' (by simp [fz, fzc, q5q, upd, tms, mms]) (q04 _)
theorem skuOk_of {r : Rec} (h : q2o r = 0) : q7a r = true := by
 unfold q2o at h
 unfold q7a
 split at h
 ·omega
 ·rename_i h1
  by_cases h2 : r.sku.size = 0
  ·simp [h2]
  ·by_cases h3 : q7b r.sku = true
   ·simp [h3]
   ·exact absurd ⟨h2, by simpa using h3⟩ h1
theorem zlf {r : Rec} (h : q2o r = 0) : qbb r ∧ q3x r.past ≠ 0 := by
 unfold q2o at h
 split at h
 ·omega
 ·split at h
  ·omega
  ·rename_i h1
   simp only [not_or] at h1
   exact ⟨q3g.1 (by simpa using h1.1), h1.2⟩
theorem q3z {l : List Rec} (h : q3t l) : ∀ r ∈ l, qbb r ∧ q3x r.past ≠ 0 ∧ q7a r = true := by
 intro r hr
 obtain ⟨i, hi⟩ := List.mem_iff_getElem?.1 hr
 have := h.1 i r hi
 exact ⟨(zlf this).1, (zlf this).2, skuOk_of this⟩
theorem z93 {l : List Rec} (h : ∀ r ∈ l, qbb r ∧ q3x r.past ≠ 0) : q5b l = l := by
 unfold q5b
 rw [List.filter_eq_self.2 fun r hr => by simp [(h r hr).2]]
 have : l.map (fun r => (⟨r.sku, q18 r.past⟩ : Rec)) = l.map id := List.map_congr_left fun r hr => by
  have := (h r hr).1
  unfold qbb at this
  rw [this]
  rfl
 rw [this, List.map_id]
noncomputable def zam (a b : List Rec) : List Rec := if q3h a = true ∧ q3h b = true then qa3 (a ++ b) else []
theorem zb1 {a b : List Rec} (ha : q3t a) (hb : q3t b) : (a ++ b).all q7a = true ∧ srtE (a ++ b) = qa3 (a ++ b) := by
 have hab : ∀ r ∈ a ++ b, qbb r ∧ q3x r.past ≠ 0 ∧ q7a r = true := fun r hr => (List.mem_append.1 hr).elim (q3z ha r) (q3z hb r)
 have h1 : (a ++ b).all q7a = true := List.all_eq_true.2 fun r hr => (hab r hr).2.2
 refine ⟨h1, ?_⟩
 unfold srtE
 rw [if_pos h1, z93 fun r hr => ⟨(hab r hr).1, (hab r hr).2.1⟩]
theorem ev_k66 (a b : List Rec) (ha : a.length ≤ 10000000) (hb : b.length ≤ 10000000) (hwa : ∀ r ∈ a, wt r.past ≤ 40000000) (hwb : ∀ r ∈ b, wt r.past ≤ 40000000) :
 Ev (En Tryz.prog rfl).P 66 [.sl 3 (q08 a), .sl 3 (q08 b)] (.ret (.tup [.sl 3 (q08 (zam a b)), .int .i64 (if q3h a = true ∧ q3h b = true then 0 else 1)])) := by
 refine Ev.of_body it_k66 (by simp) (Run.start ?_)
 unfold t_k66 zam
 have hS := qps
 have c1 := q33 a (by omega) hwa
 have c2 := q33 b (by omega) hwb
 by_cases hfa : q3h a = true
 case' neg =>
  rw [if_neg hfa] at c1
  rw [if_neg (fun h => hfa h.1), if_neg (fun h => hfa h.1)]
  (have hF := True.intro; refine q01 (k:=?_); clear hF)
  refine q00 [.sl 3 (q08 a)] (he := c1) (k:=?_)
  (have hF := True.intro; refine q01 (k:=?_); clear hF)
  exact Fin.two rfl rfl rfl rfl (.inr ⟨rfl, 3, rfl⟩) (.inl rfl)
 case' pos =>
  rw [if_pos hfa] at c1
  by_cases hfb : q3h b = true
  case' neg =>
   rw [if_neg hfb] at c2
   rw [if_neg (fun h => hfb h.2), if_neg (fun h => hfb h.2)]
   (have hF := True.intro; refine q01 (k:=?_); clear hF)
   refine q00 [.sl 3 (q08 a)] (he := c1) (k:=?_)
   (have hF := True.intro; refine q01 (k:=?_); clear hF)
   refine q00 [.sl 3 (q08 b)] (he := c2) (k:=?_)
   (have hF := True.intro; refine q01 (k:=?_); clear hF)
   exact Fin.two rfl rfl rfl rfl (.inr ⟨rfl, 3, rfl⟩) (.inl rfl)
  case' pos =>
   rw [if_pos hfb] at c2
   rw [if_pos ⟨hfa, hfb⟩, if_pos ⟨hfa, hfb⟩]
   obtain ⟨s1, s2⟩ := zb1 (q7n.1 hfa) (q7n.1 hfb)
   have c3 := qoy a b ha hb
   have c4 := ev_k113 (a ++ b) (by simp; omega) (fun r hr => (List.mem_append.1 hr).elim (hwa r) (hwb r))
   rw [s2, s1, if_pos rfl] at c4
   generalize a ++ b = l at *
   generalize qa3 l = o at *
   (have hF := True.intro; refine q01 (k:=?_); clear hF)
   refine q00 [.sl 3 (q08 a)] (he := c1) (k:=?_)
   (have hF := True.intro; refine q01 (k:=?_); clear hF)
   refine q00 [.sl 3 (q08 b)] (he := c2) (k:=?_)
   (have hF := True.intro; refine q01 (k:=?_); clear hF)
   refine q00 [.sl 1 [.sl 3 (q08 a), .sl 3 (q08 b)]] (he := c3) (k:=?_)
   (have hF := True.intro; refine q01 (k:=?_); clear hF)
   refine q00 [.sl 3 (q08 l)] (he := c4) (k:=?_)
   (have hF := True.intro; refine q01 (k:=?_); clear hF)
   exact Fin.two rfl (q04 _) rfl rfl (.inl rfl) (.inl rfl)

def zf2 : List SOp := [zO 3 (.box 26 (.tmp 1)),zO 4 (.assign (.const (.slice none 0 0))),zO 5 (.assign (.const (.int .i64 0)))]
instance : Live zf2 := ⟨[0,1]⟩
def zf1 : List SOp := [zM 9 0,zO 10 (.call ⟨.value (.func 55),#[.tmp 9],#[27]⟩),zO 11 (.binOp .neq 32 (.tmp 10) (.const (.int .i64 0)) 32),zM 12 11,⟨some 13,.load 26 (.tmp 3),some ((some 12),false)⟩,⟨some 14,.call ⟨.value (.func 54),#[.tmp 13],#[26]⟩,some ((some 12),false)⟩,⟨some 15,.unOp .not 4 (.tmp 14),some ((some 12),false)⟩,zO 16 (.pick (.tmp 12) (.const (.bool true)) (.tmp 15))]
instance : Live zf1 := ⟨[0,3]⟩
def zf0 : List SOp := [zO 4 (.assign (.const (.slice none 0 0))),zO 5 (.assign (.const (.int .i64 1)))]
instance : Live zf0 := ⟨[]⟩
def zez : List SOp := [zO 6 (.assign (.const (.slice none 0 0)))]
instance : Live zez := ⟨[0,3]⟩
def zey : List SOp := [zM 17 0,zO 18 (.call ⟨.builtin .len,#[.tmp 17],#[27]⟩),zO 19 (.move (.const (.int .i64 0)))]
instance : Live zey := ⟨[0,3,6]⟩
def zex : List SOp := [zO 20 (.binOp .lss 3 (.tmp 19) (.tmp 18) 3)]
instance : Live zex := ⟨[3,6,17,18,19]⟩
def zew : List SOp := [zI 21 27 17 19,zL 22 91 21,zO 8 (.alloc 91),⟨none,.store 91 (.tmp 8) (.tmp 22),none⟩]
instance : Live zew := ⟨[3,6,17,18,19]⟩
def zev : List SOp := [zF 23 91 8 1,zL 24 26 23,zL 25 26 3,zO 26 (.call ⟨.value (.func 56),#[.tmp 24,.tmp 25],#[26,26]⟩),zO 27 (.unOp .not 4 (.tmp 26))]
instance : Live zev := ⟨[3,6,8,17,18,19]⟩
def zeu : List SOp := [zM 28 6,zL 29 91 8,zO 30 (.call ⟨.value (.func 108),#[.tmp 29],#[91]⟩),zO 31 (.buildSlice 27 1 #[(0,.tmp 30)]),zO 32 (.call ⟨.builtin .append,#[.tmp 28,.tmp 31],#[27,27]⟩),zG 6 32]
instance : Live zeu := ⟨[3,6,8,17,18,19]⟩
def qtn : List SOp := [zO 33 (.binOp .add 3 (.tmp 19) (.const (.int .i64 1)) 3),zM 19 33]
instance : Live qtn := ⟨[3,6,17,18,19]⟩
def qtm : List SOp := [zM 34 6,zG 4 34,zO 5 (.assign (.const (.int .i64 0)))]
instance : Live qtm := ⟨[6]⟩
def qs2 : SC :=
 (.seq (.ops false zex) (.seq (.cond (.tmp 20) .skip (.exit 0)) (.seq (.block 1 (.seq (.ops false zew) (.seq (.ops false zev) (.cond (.tmp 27) (.ops false zeu) .skip)))) (.ops false qtn))))
def t_k57 : SC :=
 (.seq (.ops false zf2) (.seq (.seq (.ops false zf1) (.cond (.tmp 16) (.seq (.ops false zf0) .ret) .skip)) (.seq (.ops false zez) (.seq (.seq (.ops false zey) (.block 0 (.loop qs2))) (.seq (.ops false qtm) .ret)))))
theorem it_k57 : FnIs Tryz.prog 57 35 [.tmp 4, .tmp 5] t_k57 := ⟨Tryz.f57, _, Tryz.func57, rfl, rfl, rfl, rfl, by kernel_rfl⟩

noncomputable def q16 (l : List Rec) (p : Pst) : List Rec := l.filter fun r => !q0n r.past p
theorem qpz {l : List Rec} {p : Pst} {i : Nat} {r : Rec} (h : l[i]? = some r) : q16 (l.take (i + 1)) p = q16 (l.take i) p ++ if q0n r.past p = true then [] else [r] := by
 unfold q16
 rw [List.take_add_one, h, List.filter_append]
 by_cases hw : q0n r.past p = true
 ·simp [hw]
 ·simp [hw]
theorem z8c (l : List Rec) (p : Pst) : (q16 l p).length ≤ l.length := List.length_filter_le _ _
noncomputable def qrm (l : List Rec) (p : Pst) : List Rec := if q3h l = true ∧ q1e p = true then q16 l p else []
theorem ev_k57 (l : List Rec) (p : Pst) (hl : l.length ≤ 1000000000) (hw : ∀ r ∈ l, wt r.past ≤ 40000000) (hp : wt p ≤ 40000000) :
 Ev (En Tryz.prog rfl).P 57 [.sl 3 (q08 l), q0g p] (.ret (.tup [.sl 3 (q08 (qrm l p)), .int .i64 (if q3h l = true ∧ q1e p = true then 0 else 1)])) := by
 refine Ev.of_body it_k57 (by simp) (Run.start ?_)
 unfold t_k57 q0g qrm
 have hS := qps
 have e1 := q0m l
 have c1 := q33 l (by omega) hw
 have c2 := qow p (by omega)
 by_cases hf : q3h l = true
 case' neg =>
  rw [if_neg hf] at c1
  rw [if_neg (fun h => hf h.1), if_neg (fun h => hf h.1)]
  (have hF := @e1; refine q01 (k:=?_); clear hF)
  refine q00 [.sl 3 (q08 l)] (he := c1) (k:=?_)
  (have hF := @e1; refine q01 (k:=?_); clear hF)
  exact Fin.two rfl rfl rfl rfl (.inr ⟨rfl, 3, rfl⟩) (.inl rfl)
 case' pos =>
  rw [if_pos hf] at c1
  by_cases hn : q1e p = true
  case' neg =>
   rw [if_neg (fun h => hn h.2), if_neg (fun h => hn h.2)]
   rw [show q1e p = false by simpa using hn] at c2
   (have hF := @e1; refine q01 (k:=?_); clear hF)
   refine q00 [.sl 3 (q08 l)] (he := c1) (k:=?_)
   (have hF := @e1; refine q01 (k:=?_); clear hF)
   refine q00 [q0g p] (he := c2) (k:=?_)
   (have hF := @e1; refine q01 (k:=?_); clear hF)
   exact Fin.two rfl rfl rfl rfl (.inr ⟨rfl, 3, rfl⟩) (.inl rfl)
  case' pos =>
   rw [if_pos ⟨hf, hn⟩, if_pos ⟨hf, hn⟩]
   rw [hn] at c2
   have hfm := q3z (q7n.1 hf)
   (have hF := @e1; refine q01 (k:=?_); clear hF)
   refine q00 [.sl 3 (q08 l)] (he := c1) (k:=?_)
   (have hF := @e1; refine q01 (k:=?_); clear hF)
   refine q00 [q0g p] (he := c2) (k:=?_)
   (have hF := @e1; refine q01 (k:=?_); clear hF)
   refine Run.wk (Wk.own_nil 6 32 3 rfl rfl) ?_
   refine Run.while (σ := Nat) (fun i => ⟨tms [(3, .ptr 3 0), (6, .os 32 (q16 (l.take i) p).length), (17, .sl 3 (q08 l)), (18, .int .i64 l.length), (19, .int .i64 (i : Int))], mms [(3, .cells [.sl 1 (q05 p.vec), .sl 3 (q0d p.cloud)]), (32, .arr (q16 (l.take i) p).length 3 (q08 (q16 (l.take i) p)))]⟩)
    (fun i => i ≤ l.length) (fun i => l.length - i) 0 (have hW := @q04; q0h) (Nat.zero_le _) ?_
   intro i hi
   unfold qs2
   by_cases hlt : i < l.length
   ·obtain ⟨r, hr⟩ : ∃ r, l[i]? = some r := ⟨l[i], by simp [hlt]⟩
    have g1 := q0x hr
    have hst := qpz (p := p) hr
    have hle := z8c (l.take i) p
    have hle2 : (l.take i).length ≤ l.length := by rw [List.length_take]; omega
    generalize q16 (l.take i) p = out at hst hle ⊢
    have e2 := q0m out
    have hrl := List.mem_of_getElem? hr
    have hwr := hw r hrl
    have c3 := ev_k56 r.past p (by omega) (by omega)
    have c4 := qqy r (by omega)
    have hcan : q18 r.past = r.past := (hfm r hrl).1
    rw [hcan] at c4
    (have hF := (aI @e1 (aI @e2 @g1)); refine q01 (k:=?_); clear hF)
    refine q00 [q0g r.past, q0g p] (he := c3) (k:=?_)
    by_cases hwi : q0n r.past p = true
    ·rw [if_pos hwi, List.append_nil] at hst
     rw [hwi]
     (have hF := (aI @e1 (aI @e2 @g1)); refine q01 (k:=?_); clear hF)
     (refine Fin.nextW (i + 1) ?_ (have hW := (aI @q04 @hst); q0h); (try dsimp only))
     omega
    ·rw [if_neg hwi] at hst
     rw [show q0n r.past p = false by simpa using hwi]
     (have hF := (aI @e1 (aI @e2 @g1)); refine q01 (k:=?_); clear hF)
     refine q00 [q4i r] (he := c4) (k:=?_)
     unfold q4i
     (have hF := (aI @e1 (aI @e2 @g1)); refine q01 (k:=?_); clear hF)
     (refine Fin.nextW (i + 1) ?_ (have hW := (aI @q04 (aI @hst @q86)); q0h); (try dsimp only))
     omega
   ·rw [List.take_of_length_le (show l.length ≤ i by omega)]
    (have hF := @e1; refine q01 (k:=?_); clear hF)
    exact Fin.two (x := .sl 3 (q08 (q16 l p))) (by simp [fz, fzc, q5q, upd, tms, mms]) (q04 _) rfl rfl (.inl rfl) (.inl rfl)

def ltS (a b : Rec) : Prop := q93 a.sku b.sku < 0
theorem zjm {m : List Rec} (h : ∀ r ∈ m, CanP r.past) : qh6 m = m := by
 cases m with
 | nil => rfl
 | cons r m =>
  show (if r.sku.size = 0 then (⟨r.sku, q18 r.past⟩ : Rec) :: m else r :: m) = r :: m
  split
  ·have : q18 r.past = r.past := h r (by simp)
   rw [this]
  ·rfl
structure Folded (L K : List Rec) : Prop where
 from_ : ∀ r ∈ K, ∃ q ∈ L, q.sku = r.sku
 can : ∀ r ∈ K, CanP r.past
 size : ∀ r ∈ K, q3x r.past ≠ 0
 lt : K.Pairwise ltS
 apart : ∀ a ∈ K, ∀ b ∈ K, a.sku.size = 0 → b.sku.size ≠ 0 → ∀ d, q1s b.past d = true → q1s a.past d = false
theorem Folded.form {L K : List Rec} (h : Folded L K) (hL : ∀ q ∈ L, q2o q = 0) : q3t K := by
 refine ⟨fun i r hr => ?_, fun i a b ha hb => ?_⟩
 ·have hm := List.mem_of_getElem? hr
  obtain ⟨q, hq, hqs⟩ := h.from_ r hm
  have h1 := hL q hq
  have h2 : q1e r.past = true := q3g.2 (h.can r hm)
  have h3 := h.size r hm
  unfold q2o at h1 ⊢
  rw [← hqs]
  split at h1
  ·cases h1
  ·rename_i h4
   rw [if_neg h4, if_neg]
   rintro (h5 | h5)
   ·rw [h2] at h5; cases h5
   ·exact h3 h5
 ·have hab : ltS a b := by
   have h1 : i < K.length := by
    rcases Nat.lt_or_ge i K.length with h' | h'
    ·exact h'
    ·rw [List.getElem?_eq_none h'] at ha; cases ha
   have h2 : i + 1 < K.length := by
    rcases Nat.lt_or_ge (i + 1) K.length with h' | h'
    ·exact h'
    ·rw [List.getElem?_eq_none h'] at hb; cases hb
   have := List.pairwise_iff_getElem.1 h.lt i (i + 1) h1 h2 (by omega)
   rw [List.getElem?_eq_getElem h1, Option.some.injEq] at ha
   rw [List.getElem?_eq_getElem h2, Option.some.injEq] at hb
   rw [ha, hb] at this
   exact this
  unfold ltS at hab
  unfold q3s
  rw [if_neg (by omega)]
  exact hab
theorem Folded.one {L K : List Rec} (h : Folded L K) (e : Ent) : q7u K e ≤ 1 := by
 unfold q7u
 have hp : (K.filter fun r => qeg r e).Pairwise ltS := h.lt.filter _
 have hm : ∀ r ∈ K.filter (fun r => qeg r e), r ∈ K ∧ qeg r e = true := fun r hr => List.mem_filter.1 hr
 generalize K.filter (fun r => qeg r e) = F at hp hm
 match F, hp, hm with
 | [], _, _ => exact Nat.zero_le _
 | [a], _, _ => exact Nat.le_refl _
 | a :: b :: F, hp, hm =>
  exfalso
  obtain ⟨ha, hac⟩ := hm a (by simp)
  obtain ⟨hb, hbc⟩ := hm b (by simp)
  have hab : ltS a b := (List.pairwise_cons.1 hp).1 b (by simp)
  have hne : a.sku ≠ b.sku := fun he => by
   unfold ltS at hab
   rw [he, q5h.2 rfl] at hab
   omega
  obtain ⟨h1, h2⟩ := (q74 a e).1 hac
  obtain ⟨h3, h4⟩ := (q74 b e).1 hbc
  by_cases ha0 : a.sku.size = 0
  ·by_cases hb0 : b.sku.size = 0
   ·exact hne (by rw [q52.2 ha0, q52.2 hb0])
   ·have := h.apart a ha b hb ha0 hb0 e.dot h4
    rw [h2] at this; cases this
  ·by_cases hb0 : b.sku.size = 0
   ·have := h.apart b hb a ha hb0 ha0 e.dot h2
    rw [h4] at this; cases this
   ·exact hne ((h1.resolve_left ha0).trans (h3.resolve_left hb0).symm)

theorem lt_ne {a b : ByteArray} (h : q93 a b < 0) : b.size ≠ 0 := by
 intro hb
 have h1 : bs b = [] := by
  have := zlh b
  rw [hb] at this
  exact List.length_eq_zero_iff.1 this
 unfold q93 at h
 rw [h1] at h
 cases h3 : bs a with
 | nil => rw [h3] at h; simp [q5n] at h
 | cons x l => rw [h3] at h; simp [q5n] at h
theorem qom {r : Rec} {K : List Rec} (hp : (r :: K).Pairwise ltS) (hc : CanP r.past) : q2m (r :: K) = r.past ∧ (r :: K).dropWhile (q10 r.sku) = K := by
 have h := q65 (p := q10 r.sku) (l := r :: K) (m := 1) (fun x hx => by simp at hx; subst hx; simp [q10]) (fun x hx => by
  have hm : x ∈ K := List.mem_of_getElem? (by simpa using hx)
  have := (List.pairwise_cons.1 hp).1 x hm
  refine decide_eq_false fun he => ?_
  unfold ltS at this
  rw [he, q5h.2 rfl] at this
  omega)
 refine ⟨?_, by rw [h.2]; rfl⟩
 unfold q2m z98
 simp only
 rw [h.1]
 exact hc
theorem qqg {p all : Pst} (hc : CanP p) (h : ∀ d, q1s p d = true → q1s all d = false) : q2u p all = p := by
 refine (qfu _ _).ext hc fun r hr n => ?_
 rw [q7j _ _ hr]
 constructor
 ·exact fun h => h.1
 ·intro hi
  refine ⟨hi, fun ha => ?_⟩
  have h1 : q1s p ((r : Int), n) = true := (q1r p _).2 ⟨by show (0 : Int) ≤ (r : Int); omega, by simpa using hi⟩
  have h2 : q1s all ((r : Int), n) = true := (q1r all _).2 ⟨by show (0 : Int) ≤ (r : Int); omega, by simpa using ha⟩
  rw [h _ h1] at h2
  cases h2
theorem qaf : ∀ (n : Nat) (K : List Rec) (all : Pst), K.length ≤ n → K.Pairwise ltS → (∀ r ∈ K, r.sku.size ≠ 0 ∧ CanP r.past ∧ q3x r.past ≠ 0 ∧ ∀ d, q1s r.past d = true → q1s all d = false) → q5d n K all = K
 | 0, K, all, h, _, _ => by
  have : K = [] := List.length_eq_zero_iff.1 (by omega)
  subst this
  rfl
 | n + 1, [], all, _, _, _ => rfl
 | n + 1, r :: K, all, h, hp, hk => by
  obtain ⟨h1, h2, h3, h4⟩ := hk r (by simp)
  obtain ⟨g1, g2⟩ := qom hp h2
  have ih := qaf n K all (by simp at h; omega) (List.pairwise_cons.1 hp).2 (fun x hx => hk x (by simp [hx]))
  show qi0 r.sku (z6x all r.sku (q2m (r :: K))) ++ q5d n ((r :: K).dropWhile (q10 r.sku)) (za5 all r.sku (q2m (r :: K))) = _
  rw [show z6x all r.sku (q2m (r :: K)) = q2u (q2m (r :: K)) all from if_neg h1, show za5 all r.sku (q2m (r :: K)) = all from if_neg h1, g1, g2, ih, qqg h2 h4]
  rw [show qi0 r.sku r.past = [⟨r.sku, r.past⟩] from if_neg h3]
  rfl
theorem Folded.rest {L K : List Rec} (h : Folded L K) : q90 K = K := by
 have hhd : q5d K.length K ⟨[], []⟩ = K := by
  cases K with
  | nil => rfl
  | cons r K =>
   have hlt := (List.pairwise_cons.1 h.lt).1
   have hne : ∀ x ∈ K, x.sku.size ≠ 0 := fun x hx => lt_ne (hlt x hx)
   by_cases hz : r.sku.size = 0
   ·obtain ⟨g1, g2⟩ := qom h.lt (h.can r (by simp))
    show qi0 r.sku (z6x ⟨[], []⟩ r.sku (q2m (r :: K))) ++ q5d K.length ((r :: K).dropWhile (q10 r.sku)) (za5 ⟨[], []⟩ r.sku (q2m (r :: K))) = _
    rw [show z6x ⟨[], []⟩ r.sku (q2m (r :: K)) = q2m (r :: K) from if_pos hz, show za5 ⟨[], []⟩ r.sku (q2m (r :: K)) = q2m (r :: K) from if_pos hz, g1, g2]
    rw [qaf K.length K r.past (Nat.le_refl _) (List.pairwise_cons.1 h.lt).2 (fun x hx => ⟨hne x hx, h.can x (by simp [hx]), h.size x (by simp [hx]), fun d hd => h.apart r (by simp) x (by simp [hx]) hz (hne x hx) d hd⟩)]
    rw [show qi0 r.sku r.past = [⟨r.sku, r.past⟩] from if_neg (h.size r (by simp))]
    rfl
   ·refine qaf (r :: K).length (r :: K) ⟨[], []⟩ (Nat.le_refl _) h.lt fun x hx => ⟨?_, h.can x hx, h.size x hx, fun d _ => zjn d⟩
    rcases List.mem_cons.1 hx with rfl | hx
    ·exact hz
    ·exact hne x hx
 unfold q90
 rw [hhd]
 exact zjm h.can


theorem q9o {l : List Rec} (h : q3t l) : SrtR l := by
 have adj := h.2
 clear h
 unfold SrtR
 induction l with
 | nil => exact List.Pairwise.nil
 | cons a l ih =>
  have ih' := ih fun i x y hx hy => adj (i + 1) x y (by simpa using hx) (by simpa using hy)
  rw [List.pairwise_cons]
  refine ⟨fun z hz => ?_, ih'⟩
  cases l with
  | nil => cases hz
  | cons b l =>
   have h0 := adj 0 a b rfl rfl
   rcases List.mem_cons.1 hz with e | e
   ·rw [e]; exact h0
   ·exact qe1 h0 ((List.pairwise_cons.1 ih').1 z e)
theorem z7g {l : List Rec} (hs : SrtR l) (h : ∀ r ∈ l, q2o r = 0) : q3t l := by
 refine ⟨fun i r hr => h r (List.mem_of_getElem? hr), fun i a b ha hb => ?_⟩
 unfold SrtR at hs
 rw [List.getElem?_eq_some_iff] at ha hb
 obtain ⟨h1, rfl⟩ := ha
 obtain ⟨h2, rfl⟩ := hb
 exact List.pairwise_iff_getElem.1 hs i (i + 1) h1 h2 (by omega)
theorem qdl {l : List Rec} (h : q3t l) : ∀ r ∈ l, q2o r = 0 := fun r hr => by
 obtain ⟨i, hi⟩ := List.mem_iff_getElem?.1 hr
 exact h.1 i r hi
theorem qb1 {l : List Rec} (p : Rec → Bool) (h : q3t l) : q3t (l.filter p) :=
 z7g ((q9o h).filter _) fun r hr => qdl h r (List.mem_filter.1 hr).1
theorem qdk {a b : List Rec} (ha : q3t a) (hb : q3t b) : q3t (qa3 (a ++ b)) :=
 z7g (qbj _) fun r hr => (List.mem_append.1 (qbi hr)).elim (qdl ha r) (qdl hb r)
theorem qe9 {a b : List Rec} (ha : q3t a) (hb : q3t b) : ∀ y ∈ a ++ b, qbb y := fun r hr => (List.mem_append.1 hr).elim (fun h => (q3z ha r h).1) (fun h => (q3z hb r h).1)
theorem qat {p q s : Pst} (h1 : q0n p q = true) (h2 : q0n q s = true) : q0n p s = true :=
 q27.2 fun r hr n h => q27.1 h2 r hr n (q27.1 h1 r hr n h)
theorem qpy (p : Pst) : q0n p p = true := q27.2 fun r hr n h => h
theorem qrk (x : Rec) : ∀ l : List Rec, q6e (z7b x l) ≤ wtK x + q6e l
 | [] => by simp [z7b, q6e]
 | y :: l => by
  have ih := qrk x l
  unfold z7b
  split
  ·simp [q6e]
  ·split
   ·simp [q6e]
   ·unfold q6e at *
    simp only [List.map_cons, List.sum_cons] at *
    omega
theorem qfz : ∀ l : List Rec, q6e (qa3 l) ≤ q6e l
 | [] => Nat.le_refl _
 | x :: l => by
  have ih := qfz l
  have := qrk x (qa3 l)
  unfold qa3
  unfold q6e at *
  simp only [List.map_cons, List.sum_cons] at *
  omega
theorem qrl (a b : List Rec) : q6e (a ++ b) = q6e a + q6e b := by simp [q6e]

def lt2 (a b : Ent) : Prop := q3b a.dot b.dot = true
theorem q41 (x y : Rn) : q3b x y = true ↔ x.1 < y.1 ∨ (x.1 = y.1 ∧ x.2 < y.2) := by
 unfold q3b
 simp [Bool.or_eq_true, Bool.and_eq_true]
theorem q9j {a b c : Ent} (h : lt2 a b) (h' : lt2 b c) : lt2 a c := by
 unfold lt2 at *
 rw [q41] at *
 omega
theorem q5a {a b : Ent} (h : lt2 a b) : a.dot ≠ b.dot := by
 unfold lt2 at h
 rw [q41] at h
 intro e
 rw [e] at h
 omega
theorem zky (x y : Rn) (h1 : q3b x y = false) (h2 : q3b y x = false) : x = y := by
 have a : ¬ q3b x y = true := by rw [h1]; decide
 have b : ¬ q3b y x = true := by rw [h2]; decide
 rw [q41] at a b
 cases x; cases y
 simp at a b
 congr 1 <;> omega
abbrev za8 (l : List Ent) : Prop := l.Pairwise lt2
theorem q50 : ∀ {l : List Ent}, (∀ (i : Nat) a b, l[i]? = some a → l[i + 1]? = some b → q3b a.dot b.dot = true) → za8 l
 | [], _ => List.Pairwise.nil
 | [a], _ => by simp [za8]
 | a :: b :: l, h => by
  have ih := q50 (l := b :: l) fun i x y hx hy => h (i + 1) x y hx hy
  refine List.Pairwise.cons (fun x hx => ?_) ih
  have hab : lt2 a b := h 0 a b rfl rfl
  rcases List.mem_cons.1 hx with rfl | hx
  ·exact hab
  ·exact q9j hab ((List.pairwise_cons.1 ih).1 x hx)
theorem qga : ∀ {l m : List Ent}, za8 l → za8 m → (∀ e, e ∈ l ↔ e ∈ m) → l = m
 | [], [], _, _, _ => rfl
 | [], b :: m, _, _, h => absurd ((h b).2 (by simp)) (by simp)
 | a :: l, [], _, _, h => absurd ((h a).1 (by simp)) (by simp)
 | a :: l, b :: m, h1, h2, h => by
  obtain ⟨ha, hl⟩ := List.pairwise_cons.1 h1
  obtain ⟨hb, hm⟩ := List.pairwise_cons.1 h2
  have hab : a = b := by
   rcases List.mem_cons.1 ((h a).1 (by simp)) with e | h3
   ·exact e
   ·rcases List.mem_cons.1 ((h b).2 (by simp)) with e | h4
    ·exact e.symm
    ·exact absurd rfl (q5a (q9j (hb a h3) (ha b h4)))
  subst hab
  congr 1
  refine qga hl hm fun e => ?_
  constructor
  ·intro he
   rcases List.mem_cons.1 ((h e).1 (by simp [he])) with rfl | h3
   ·exact absurd rfl (q5a (ha e he))
   ·exact h3
  ·intro he
   rcases List.mem_cons.1 ((h e).2 (by simp [he])) with rfl | h3
   ·exact absurd rfl (q5a (hb e he))
   ·exact h3
def eqE (a b : Ent) : Bool := (((decide (a.rep = b.rep) && decide (a.num = b.num)) && decide (a.sku = b.sku)) && decide (a.qty = b.qty))
theorem qhi (a b : Ent) : eqE a b = true ↔ a = b := by
 cases a; cases b
 simp [eqE, Bool.and_eq_true, and_assoc]
def qi1 (k : Bool) (a : Ent) : List Ent := if k = true then [a] else []
theorem mem_opt1 {k : Bool} {a e : Ent} : e ∈ qi1 k a ↔ k = true ∧ e = a := by
 unfold qi1
 split <;> simp_all
def q7i (ka kb : Ent → Bool) : Nat → List Ent → List Ent → Option (List Ent)
 | 0, _, _ => some []
 | n + 1, [], [] => some []
 | n + 1, a :: A, [] => (q7i ka kb n A []).map (qi1 (ka a) a ++ ·)
 | n + 1, [], b :: B => (q7i ka kb n [] B).map (qi1 (kb b) b ++ ·)
 | n + 1, a :: A, b :: B =>
  if q3b a.dot b.dot = true then (q7i ka kb n A (b :: B)).map (qi1 (ka a) a ++ ·)
  else if q3b b.dot a.dot = true then (q7i ka kb n (a :: A) B).map (qi1 (kb b) b ++ ·)
  else if eqE a b = true then (q7i ka kb n A B).map (a :: ·) else none
def q43 (l : List Ent) (d : Rn) : Prop := ∃ e ∈ l, e.dot = d
def Clash (A B : List Ent) : Prop := ∃ a ∈ A, ∃ b ∈ B, a.dot = b.dot ∧ a ≠ b
def InM (ka kb : Ent → Bool) (A B : List Ent) (e : Ent) : Prop := (e ∈ A ∧ (q43 B e.dot ∨ ka e = true)) ∨ (e ∈ B ∧ (q43 A e.dot ∨ kb e = true))
def MSpec (ka kb : Ent → Bool) (A B : List Ent) : Option (List Ent) → Prop
 | none => Clash A B
 | some L => ¬ Clash A B ∧ za8 L ∧ ∀ e, e ∈ L ↔ InM ka kb A B e
theorem MSpec.stepA {ka kb : Ent → Bool} {a : Ent} {A B : List Ent} (hA : ∀ x ∈ A, lt2 a x) (hB : ∀ x ∈ B, lt2 a x) {r : Option (List Ent)} (h : MSpec ka kb A B r) : MSpec ka kb (a :: A) B (r.map (qi1 (ka a) a ++ ·)) := by
 have hd : ¬ q43 B a.dot := fun ⟨x, hx, e⟩ => q5a (hB x hx) e.symm
 have hc : Clash (a :: A) B ↔ Clash A B := by
  constructor
  ·rintro ⟨x, hx, y, hy, e, hne⟩
   rcases List.mem_cons.1 hx with rfl | hx
   ·exact absurd ⟨y, hy, e.symm⟩ hd
   ·exact ⟨x, hx, y, hy, e, hne⟩
  ·rintro ⟨x, hx, y, hy, e, hne⟩
   exact ⟨x, by simp [hx], y, hy, e, hne⟩
 have hdc : ∀ y ∈ B, (q43 (a :: A) y.dot ↔ q43 A y.dot) := fun y hy => by
  constructor
  ·rintro ⟨x, hx, e⟩
   rcases List.mem_cons.1 hx with rfl | hx
   ·exact absurd e (q5a (hB y hy))
   ·exact ⟨x, hx, e⟩
  ·rintro ⟨x, hx, e⟩
   exact ⟨x, by simp [hx], e⟩
 cases r with
 | none => exact hc.2 h
 | some L =>
  obtain ⟨h1, h2, h3⟩ := h
  refine ⟨fun h => h1 (hc.1 h), ?_, fun e => ?_⟩
  ·show za8 (qi1 (ka a) a ++ L)
   unfold qi1
   split
   ·refine List.Pairwise.cons (fun x hx => ?_) h2
    rcases (h3 x).1 hx with h | h
    ·exact hA x h.1
    ·exact hB x h.1
   ·exact h2
  ·rw [List.mem_append, mem_opt1, h3]
   unfold InM
   constructor
   ·rintro (⟨hk, rfl⟩ | ⟨hx, hk⟩ | ⟨hx, hk⟩)
    ·exact .inl ⟨by simp, .inr hk⟩
    ·exact .inl ⟨by simp [hx], hk⟩
    ·exact .inr ⟨hx, by rw [hdc e hx]; exact hk⟩
   ·rintro (⟨hx, hk⟩ | ⟨hx, hk⟩)
    ·rcases List.mem_cons.1 hx with rfl | hx
     ·exact .inl ⟨hk.resolve_left hd, rfl⟩
     ·exact .inr (.inl ⟨hx, hk⟩)
    ·exact .inr (.inr ⟨hx, by rw [hdc e hx] at hk; exact hk⟩)
theorem Clash.symm {A B : List Ent} (h : Clash A B) : Clash B A := by
 obtain ⟨a, ha, b, hb, e, hne⟩ := h
 exact ⟨b, hb, a, ha, e.symm, fun h => hne h.symm⟩
theorem MSpec.symm {ka kb : Ent → Bool} {A B : List Ent} {r : Option (List Ent)} (h : MSpec ka kb A B r) : MSpec kb ka B A r := by
 cases r with
 | none => exact Clash.symm h
 | some L => exact ⟨fun hc => h.1 hc.symm, h.2.1, fun e => by rw [h.2.2 e]; unfold InM; exact or_comm⟩
theorem MSpec.stepBoth {ka kb : Ent → Bool} {a : Ent} {A B : List Ent} (hA : ∀ x ∈ A, lt2 a x) (hB : ∀ x ∈ B, lt2 a x) {r : Option (List Ent)} (h : MSpec ka kb A B r) : MSpec ka kb (a :: A) (a :: B) (r.map (a :: ·)) := by
 have hc : Clash (a :: A) (a :: B) ↔ Clash A B := by
  constructor
  ·rintro ⟨x, hx, y, hy, e, hne⟩
   rcases List.mem_cons.1 hx with rfl | hx
   ·rcases List.mem_cons.1 hy with rfl | hy
    ·exact absurd rfl hne
    ·exact absurd e (q5a (hB y hy))
   ·rcases List.mem_cons.1 hy with h0 | hy
    ·rw [h0] at e
     exact absurd e.symm (q5a (hA x hx))
    ·exact ⟨x, hx, y, hy, e, hne⟩
  ·rintro ⟨x, hx, y, hy, e, hne⟩
   exact ⟨x, by simp [hx], y, by simp [hy], e, hne⟩
 have hd : ∀ {C : List Ent} (y : Ent), lt2 a y → (q43 (a :: C) y.dot ↔ q43 C y.dot) := fun {C} y hy => by
  constructor
  ·rintro ⟨x, hx, e⟩
   rcases List.mem_cons.1 hx with rfl | hx
   ·exact absurd e (q5a hy)
   ·exact ⟨x, hx, e⟩
  ·rintro ⟨x, hx, e⟩
   exact ⟨x, by simp [hx], e⟩
 cases r with
 | none => exact hc.2 h
 | some L =>
  obtain ⟨h1, h2, h3⟩ := h
  refine ⟨fun h => h1 (hc.1 h), ?_, fun e => ?_⟩
  ·refine List.Pairwise.cons (fun x hx => ?_) h2
   rcases (h3 x).1 hx with h | h
   ·exact hA x h.1
   ·exact hB x h.1
  ·show e ∈ a :: L ↔ _
   rw [List.mem_cons, h3]
   unfold InM
   constructor
   ·rintro (rfl | ⟨hx, hk⟩ | ⟨hx, hk⟩)
    ·exact .inl ⟨by simp, .inl ⟨e, by simp, rfl⟩⟩
    ·exact .inl ⟨by simp [hx], by rw [hd e (hA e hx)]; exact hk⟩
    ·exact .inr ⟨by simp [hx], by rw [hd e (hB e hx)]; exact hk⟩
   ·rintro (⟨hx, hk⟩ | ⟨hx, hk⟩)
    ·rcases List.mem_cons.1 hx with rfl | hx
     ·exact .inl rfl
     ·exact .inr (.inl ⟨hx, by rw [hd e (hA e hx)] at hk; exact hk⟩)
    ·rcases List.mem_cons.1 hx with rfl | hx
     ·exact .inl rfl
     ·exact .inr (.inr ⟨hx, by rw [hd e (hB e hx)] at hk; exact hk⟩)
theorem qoe (ka kb : Ent → Bool) : MSpec ka kb [] [] (some []) :=
 ⟨fun ⟨a, ha, _⟩ => absurd ha (by simp), List.Pairwise.nil, fun e => by simp [InM]⟩
theorem q57 (ka kb : Ent → Bool) : ∀ (n : Nat) (A B : List Ent), A.length + B.length ≤ n → za8 A → za8 B → MSpec ka kb A B (q7i ka kb n A B)
 | 0, A, B, h, _, _ => by
  have h1 : A = [] := List.length_eq_zero_iff.1 (by omega)
  have h2 : B = [] := List.length_eq_zero_iff.1 (by omega)
  subst h1; subst h2
  exact qoe ka kb
 | n + 1, [], [], _, _, _ => qoe ka kb
 | n + 1, a :: A, [], h, hA, hB => MSpec.stepA (List.pairwise_cons.1 hA).1 (fun x hx => by cases hx) (q57 ka kb n A [] (by simp at h ⊢; omega) (List.pairwise_cons.1 hA).2 hB)
 | n + 1, [], b :: B, h, hA, hB => (MSpec.stepA (List.pairwise_cons.1 hB).1 (fun x hx => by cases hx) (q57 ka kb n [] B (by simp at h ⊢; omega) hA (List.pairwise_cons.1 hB).2).symm).symm
 | n + 1, a :: A, b :: B, h, hA, hB => by
  obtain ⟨a1, a2⟩ := List.pairwise_cons.1 hA
  obtain ⟨b1, b2⟩ := List.pairwise_cons.1 hB
  simp only [List.length_cons] at h
  unfold q7i
  split
  ·rename_i hab
   refine MSpec.stepA a1 (fun x hx => ?_) (q57 ka kb n A (b :: B) (by simp; omega) a2 hB)
   rcases List.mem_cons.1 hx with rfl | hx
   ·exact hab
   ·exact q9j hab (b1 x hx)
  ·rename_i hab
   split
   ·rename_i hba
    refine (MSpec.stepA b1 (fun x hx => ?_) (q57 ka kb n (a :: A) B (by simp; omega) hA b2).symm).symm
    rcases List.mem_cons.1 hx with rfl | hx
    ·exact hba
    ·exact q9j hba (a1 x hx)
   ·rename_i hba
    have hd := zky a.dot b.dot (by simpa using hab) (by simpa using hba)
    split
    ·rename_i he
     have he := (qhi a b).1 he
     subst he
     exact MSpec.stepBoth a1 b1 (q57 ka kb n A B (by omega) a2 b2)
    ·rename_i he
     exact ⟨a, by simp, b, by simp, hd, fun e => he ((qhi a b).2 e)⟩

def z4s : List SOp := [zO 8 (.assign (.const (.int .i64 0)))]
instance : Live z4s := ⟨[0,1,2,3]⟩
def z4r : List SOp := [zM 10 1,zM 11 0,zO 12 (.call ⟨.builtin .len,#[.tmp 11],#[22]⟩),zO 13 (.binOp .eql 3 (.tmp 10) (.tmp 12) 3),zG 9 13]
instance : Live z4r := ⟨[0,1,2,3]⟩
def z4q : List SOp := [zO 8 (.assign (.const (.int .i64 1)))]
instance : Live z4q := ⟨[]⟩
def z4p : List SOp := [zM 15 3,zM 16 2,zO 17 (.call ⟨.builtin .len,#[.tmp 16],#[22]⟩),zO 18 (.binOp .eql 3 (.tmp 15) (.tmp 17) 3),zG 14 18]
instance : Live z4p := ⟨[0,1,2,3]⟩
def z4o : List SOp := [zO 8 (.assign (.const (.int .i64 (-1))))]
instance : Live z4o := ⟨[]⟩
def z4n : List SOp := [zM 20 0,zM 21 1,zI 22 22 20 21,zF 23 62 22 0,zL 24 41 23,zM 25 2,zM 26 3,zI 27 22 25 26,zF 28 62 27 0,zL 29 41 28,zO 30 (.binOp .eql 41 (.tmp 24) (.tmp 29) 41),zG 19 30]
instance : Live z4n := ⟨[0,1,2,3]⟩
def z4m : List SOp := [zO 8 (.assign (.const (.int .i64 0)))]
instance : Live z4m := ⟨[]⟩
def z4l : List SOp := [zM 32 0,zM 33 1,zI 34 22 32 33,zF 35 62 34 0,zF 36 41 35 0,zL 37 3 36,zM 38 2,zM 39 3,zI 40 22 38 39,zF 41 62 40 0,zF 42 41 41 0,zL 43 3 42,zO 44 (.binOp .neq 3 (.tmp 37) (.tmp 43) 3),zG 31 44]
instance : Live z4l := ⟨[0,1,2,3]⟩
def z4k : List SOp := [zM 45 0,zM 46 1,zI 47 22 45 46,zF 48 62 47 0,zF 49 41 48 0,zL 50 3 49,zM 51 2,zM 52 3,zI 53 22 51 52,zF 54 62 53 0,zF 55 41 54 0,zL 56 3 55,zO 57 (.binOp .sub 3 (.tmp 50) (.tmp 56) 3),zG 8 57]
instance : Live z4k := ⟨[0,1,2,3]⟩
def qns : List SOp := [zM 58 0,zM 59 1,zI 60 22 58 59,zF 61 62 60 0,zF 62 41 61 1,zL 63 3 62,zM 64 2,zM 65 3,zI 66 22 64 65,zF 67 62 66 0,zF 68 41 67 1,zL 69 3 68,zO 70 (.binOp .sub 3 (.tmp 63) (.tmp 69) 3),zG 8 70]
instance : Live qns := ⟨[0,1,2,3]⟩
def qet : SC :=
 (.seq (.ops false z4s) (.seq (.block 0 (.seq (.ops false z4r) (.cond (.tmp 9) (.seq (.ops false z4q) .ret) (.seq (.ops false z4p) (.cond (.tmp 14) (.seq (.ops false z4o) .ret) (.seq (.ops true z4n) (.cond (.tmp 19) (.seq (.ops false z4m) .ret) (.seq (.ops true z4l) (.cond (.tmp 31) (.seq (.ops true z4k) .ret) .skip))))))))) (.seq (.ops true qns) .ret)))
theorem qdf : FnIs Tryz.prog 112 71 [.tmp 8] qet := ⟨Tryz.f112, _, Tryz.func112, rfl, rfl, rfl, rfl, by kernel_rfl⟩

def ze5 : List SOp := [zO 5 (.box 26 (.tmp 1)),zO 7 (.box 26 (.tmp 3)),zO 8 (.assign (.const (.slice none 0 0))),zO 9 (.assign (.const (.int .i64 0)))]
instance : Live ze5 := ⟨[0,1,2,3]⟩
def ze4 : List SOp := [zM 14 0,zO 15 (.call ⟨.value (.func 53),#[.tmp 14],#[22]⟩),zO 16 (.binOp .neq 32 (.tmp 15) (.const (.int .i64 0)) 32),zM 17 16,⟨some 18,.load 26 (.tmp 5),some ((some 17),false)⟩,⟨some 19,.call ⟨.value (.func 54),#[.tmp 18],#[26]⟩,some ((some 17),false)⟩,⟨some 20,.unOp .not 4 (.tmp 19),some ((some 17),false)⟩,zO 21 (.pick (.tmp 17) (.const (.bool true)) (.tmp 20)),zM 22 21,⟨some 23,.move (.tmp 2),some ((some 22),false)⟩,⟨some 24,.call ⟨.value (.func 53),#[.tmp 23],#[22]⟩,some ((some 22),false)⟩,⟨some 25,.binOp .neq 32 (.tmp 24) (.const (.int .i64 0)) 32,some ((some 22),false)⟩,zO 26 (.pick (.tmp 22) (.const (.bool true)) (.tmp 25)),zM 27 26,⟨some 28,.load 26 (.tmp 7),some ((some 27),false)⟩,⟨some 29,.call ⟨.value (.func 54),#[.tmp 28],#[26]⟩,some ((some 27),false)⟩,⟨some 30,.unOp .not 4 (.tmp 29),some ((some 27),false)⟩,zO 31 (.pick (.tmp 27) (.const (.bool true)) (.tmp 30))]
instance : Live ze4 := ⟨[0,2,5,7]⟩
def ze3 : List SOp := [zO 8 (.assign (.const (.slice none 0 0))),zO 9 (.assign (.const (.int .i64 1)))]
instance : Live ze3 := ⟨[]⟩
def ze2 : List SOp := [zO 10 (.assign (.const (.slice none 0 0)))]
instance : Live ze2 := ⟨[0,2,5,7]⟩
def ze1 : List SOp := [zO 11 (.assign (.const (.int .i64 0))),zO 12 (.assign (.const (.int .i64 0)))]
instance : Live ze1 := ⟨[0,2,5,7,10]⟩
def ze0 : List SOp := [zM 32 11,zM 33 0,zO 34 (.call ⟨.builtin .len,#[.tmp 33],#[22]⟩),zO 35 (.binOp .lss 3 (.tmp 32) (.tmp 34) 3),zM 36 35,⟨some 37,.move (.tmp 12),some ((some 36),false)⟩,⟨some 38,.move (.tmp 2),some ((some 36),false)⟩,⟨some 39,.call ⟨.builtin .len,#[.tmp 38],#[22]⟩,some ((some 36),false)⟩,⟨some 40,.binOp .lss 3 (.tmp 37) (.tmp 39) 3,some ((some 36),false)⟩,zO 41 (.pick (.tmp 36) (.const (.bool true)) (.tmp 40))]
instance : Live ze0 := ⟨[0,2,5,7,10,11,12]⟩
def zdz : List SOp := [zM 42 0,zM 43 11,zM 44 2,zM 45 12,zO 46 (.call ⟨.value (.func 112),#[.tmp 42,.tmp 43,.tmp 44,.tmp 45],#[22,3,22,3]⟩),zG 13 46]
instance : Live zdz := ⟨[0,2,5,7,10,11,12]⟩
def zdy : List SOp := [zM 68 13,zO 69 (.binOp .lss 3 (.tmp 68) (.const (.int .i64 0)) 3),zG 67 69]
instance : Live zdy := ⟨[0,2,5,7,10,11,12,13]⟩
def zdx : List SOp := [zL 70 26 7,zM 71 0,zM 72 11,zI 73 22 71 72,zF 74 62 73 0,zL 75 41 74,zO 76 (.call ⟨.value (.func 51),#[.tmp 70,.tmp 75],#[26,41]⟩),zO 77 (.unOp .not 4 (.tmp 76))]
instance : Live zdx := ⟨[0,2,5,7,10,11,12]⟩
def qtf : List SOp := [zM 78 10,zM 79 0,zM 80 11,zI 81 22 79 80,zL 82 62 81,zO 83 (.buildSlice 22 1 #[(0,.tmp 82)]),zO 84 (.call ⟨.builtin .append,#[.tmp 78,.tmp 83],#[22,22]⟩),zG 10 84]
instance : Live qtf := ⟨[0,2,5,7,10,11,12]⟩
def qte : List SOp := [zM 85 11,zO 86 (.binOp .add 3 (.tmp 85) (.const (.int .i64 1)) 3),zG 11 86]
instance : Live qte := ⟨[0,2,5,7,10,11,12]⟩
def qtd : List SOp := [zM 88 13,zO 89 (.binOp .gtr 3 (.tmp 88) (.const (.int .i64 0)) 3),zG 87 89]
instance : Live qtd := ⟨[0,2,5,7,10,11,12,13]⟩
def qtc : List SOp := [zL 90 26 5,zM 91 2,zM 92 12,zI 93 22 91 92,zF 94 62 93 0,zL 95 41 94,zO 96 (.call ⟨.value (.func 51),#[.tmp 90,.tmp 95],#[26,41]⟩),zO 97 (.unOp .not 4 (.tmp 96))]
instance : Live qtc := ⟨[0,2,5,7,10,11,12]⟩
def qtb : List SOp := [zM 98 10,zM 99 2,zM 100 12,zI 101 22 99 100,zL 102 62 101,zO 103 (.buildSlice 22 1 #[(0,.tmp 102)]),zO 104 (.call ⟨.builtin .append,#[.tmp 98,.tmp 103],#[22,22]⟩),zG 10 104]
instance : Live qtb := ⟨[0,2,5,7,10,11,12]⟩
def qta : List SOp := [zM 105 12,zO 106 (.binOp .add 3 (.tmp 105) (.const (.int .i64 1)) 3),zG 12 106]
instance : Live qta := ⟨[0,2,5,7,10,11,12]⟩
def qt9 : List SOp := [zM 47 0,zM 48 11,zI 49 22 47 48,zL 50 62 49,zM 51 2,zM 52 12,zI 53 22 51 52,zL 54 62 53,zO 55 (.binOp .neq 62 (.tmp 50) (.tmp 54) 62)]
instance : Live qt9 := ⟨[0,2,5,7,10,11,12]⟩
def qt8 : List SOp := [zO 8 (.assign (.const (.slice none 0 0))),zO 9 (.assign (.const (.int .i64 10)))]
instance : Live qt8 := ⟨[]⟩
def qt7 : List SOp := [zM 56 10,zM 57 0,zM 58 11,zI 59 22 57 58,zL 60 62 59,zO 61 (.buildSlice 22 1 #[(0,.tmp 60)]),zO 62 (.call ⟨.builtin .append,#[.tmp 56,.tmp 61],#[22,22]⟩),zG 10 62]
instance : Live qt7 := ⟨[0,2,5,7,10,11,12]⟩
def qt6 : List SOp := [zM 63 11,zO 64 (.binOp .add 3 (.tmp 63) (.const (.int .i64 1)) 3),zM 65 12,zO 66 (.binOp .add 3 (.tmp 65) (.const (.int .i64 1)) 3),zG 11 64,zG 12 66]
instance : Live qt6 := ⟨[0,2,5,7,10,11,12]⟩
def qt5 : List SOp := [zM 107 10,zG 8 107,zO 9 (.assign (.const (.int .i64 0)))]
instance : Live qt5 := ⟨[10]⟩
def qrz : SC :=
 (.seq (.seq (.ops false ze0) (.cond (.tmp 41) .skip (.exit 0))) (.block 1 (.seq (.ops false zdz) (.block 2 (.seq (.ops false zdy) (.cond (.tmp 67) (.seq (.seq (.ops true zdx) (.cond (.tmp 77) (.ops false qtf) .skip)) (.ops false qte)) (.seq (.ops false qtd) (.cond (.tmp 87) (.seq (.seq (.ops true qtc) (.cond (.tmp 97) (.ops false qtb) .skip)) (.ops false qta)) (.seq (.seq (.ops true qt9) (.cond (.tmp 55) (.seq (.ops false qt8) .ret) .skip)) (.seq (.ops false qt7) (.ops false qt6)))))))))))
def t_k65 : SC :=
 (.seq (.ops false ze5) (.seq (.seq (.ops false ze4) (.cond (.tmp 31) (.seq (.ops false ze3) .ret) .skip)) (.seq (.ops false ze2) (.seq (.ops false ze1) (.seq (.block 0 (.loop qrz)) (.seq (.ops false qt5) .ret))))))
theorem it_k65 : FnIs Tryz.prog 65 108 [.tmp 8, .tmp 9] t_k65 := ⟨Tryz.f65, _, Tryz.func65, rfl, rfl, rfl, rfl, by kernel_rfl⟩

theorem z8o (A B : List Ent) (j : Nat) : Ev (En Tryz.prog rfl).P 112 [.sl 4 (q0e A), .int .i64 A.length, .sl 4 (q0e B), .int .i64 j] (.ret (.int .i64 1)) := by
 refine Ev.of_body qdf (by simp) (Run.start ?_)
 unfold qet
 have e1 := q0q A
 have hS := qps
 (have hF := @e1; refine q01 (k:=?_); clear hF)
 exact Fin.tmp' rfl rfl
theorem z8n (A B : List Ent) (i : Nat) (hi : i < A.length) : Ev (En Tryz.prog rfl).P 112 [.sl 4 (q0e A), .int .i64 i, .sl 4 (q0e B), .int .i64 B.length] (.ret (.int .i64 (-1))) := by
 refine Ev.of_body qdf (by simp) (Run.start ?_)
 unfold qet
 have e1 := q0q A
 have e2 := q0q B
 have hS := qps
 have h1 : ¬ (i : Int) = (A.length : Int) := by omega
 (have hF := (aI @e1 (aI @e2 @h1)); refine q01 (k:=?_); clear hF)
 exact Fin.tmp' rfl rfl
theorem ent_ok {e : Ent} (h : q23 e = 0) : 0 ≤ e.rep ∧ e.rep < 16 ∧ 1 ≤ e.num ∧ e.num ≤ 1000000000 := by
 unfold q23 at h
 split at h
 ·cases h
 ·split at h
  ·cases h
  ·omega
theorem zim (A B : List Ent) (i j : Nat) (a b : Ent) (ha : A[i]? = some a) (hb : B[j]? = some b) (oa : q23 a = 0) (ob : q23 b = 0) :
 ∃ c : Int, Ev (En Tryz.prog rfl).P 112 [.sl 4 (q0e A), .int .i64 i, .sl 4 (q0e B), .int .i64 j] (.ret (.int .i64 c)) ∧ (c < 0 ↔ q3b a.dot b.dot = true) ∧ (0 < c ↔ q3b b.dot a.dot = true) := by
 have e1 := q0q A
 have e2 := q0q B
 have hS := qps
 have hi : i < A.length := by
  rcases Nat.lt_or_ge i A.length with h | h
  ·exact h
  ·rw [List.getElem?_eq_none h] at ha; cases ha
 have hj : j < B.length := by
  rcases Nat.lt_or_ge j B.length with h | h
  ·exact h
  ·rw [List.getElem?_eq_none h] at hb; cases hb
 have n1 : ¬ (i : Int) = (A.length : Int) := by omega
 have n2 : ¬ (j : Int) = (B.length : Int) := by omega
 have g1 := q1a ha
 have g2 := q1a hb
 have pa := ent_ok oa
 have pb := ent_ok ob
 by_cases h1 : a.rep = b.rep
 ·by_cases h2 : a.num = b.num
  ·refine ⟨0, ?_, ?_, ?_⟩
   ·refine Ev.of_body qdf (by simp) (Run.start ?_)
    unfold qet
    (have hF := (aI (aI (aI @e1 @e2) (aI @n1 @n2)) (aI (aI @g1 @g2) (aI @h1 @h2))); refine q01 (k:=?_); clear hF)
    exact Fin.tmp' rfl rfl
   ·rw [q41]; simp only [Ent.dot]; omega
   ·rw [q41]; simp only [Ent.dot]; omega
  ·refine ⟨a.num - b.num, ?_, ?_, ?_⟩
   ·have hwr : IntKind.i64.wrap (a.num - b.num) = a.num - b.num := q2l (by omega)
    refine Ev.of_body qdf (by simp) (Run.start ?_)
    unfold qet
    (have hF := (aI (aI (aI @e1 @e2) (aI @n1 @n2)) (aI (aI @g1 @g2) (aI @h1 (aI @h2 @hwr)))); refine q01 (k:=?_); clear hF)
    exact Fin.tmp' rfl rfl
   ·rw [q41]; simp only [Ent.dot]; omega
   ·rw [q41]; simp only [Ent.dot]; omega
 ·refine ⟨a.rep - b.rep, ?_, ?_, ?_⟩
  ·have hwr : IntKind.i64.wrap (a.rep - b.rep) = a.rep - b.rep := q2l (by omega)
   refine Ev.of_body qdf (by simp) (Run.start ?_)
   unfold qet
   (have hF := (aI (aI (aI @e1 @e2) (aI @n1 @n2)) (aI (aI @g1 @g2) (aI @h1 @hwr))); refine q01 (k:=?_); clear hF)
   exact Fin.tmp' rfl rfl
  ·rw [q41]; simp only [Ent.dot]; omega
  ·rw [q41]; simp only [Ent.dot]; omega
def qek : Option (List Ent) → List Ent | none => [] | some l => l
def errO : Option (List Ent) → Int | none => 10 | some _ => 0
def q1m (p : Pst) (e : Ent) : Bool := !q1s p e.dot
def okM (A : List Ent) (ap : Pst) (B : List Ent) (bp : Pst) : Prop := q7d A = true ∧ q1e ap = true ∧ q7d B = true ∧ q1e bp = true
theorem qbk {r : Option (List Ent)} {x out : List Ent} : (r.map (x ++ ·)).map (out ++ ·) = r.map ((out ++ x) ++ ·) := by cases r <;> simp
theorem opt_cons {r : Option (List Ent)} {a : Ent} {out : List Ent} : (r.map (a :: ·)).map (out ++ ·) = r.map ((out ++ [a]) ++ ·) := by cases r <;> simp
theorem q87 {l : List Ent} {i : Nat} {a : Ent} (h : l[i]? = some a) : l.drop i = a :: l.drop (i + 1) := by
 have hlt : i < l.length := by
  rcases Nat.lt_or_ge i l.length with h' | h'
  ·exact h'
  ·rw [List.getElem?_eq_none h'] at h; cases h
 rw [List.drop_eq_getElem_cons hlt]
 simp only [List.getElem?_eq_getElem hlt, Option.some.injEq] at h
 rw [h]
structure MgS where
 i : Nat
 j : Nat
 out : List Ent
theorem ev_k65 (A B : List Ent) (ap bp : Pst) (hA : A.length ≤ 100000000) (hB : B.length ≤ 100000000) (wa : wt ap ≤ 40000000) (wb : wt bp ≤ 40000000) (hok : okM A ap B bp) :
 Ev (En Tryz.prog rfl).P 65 [.sl 4 (q0e A), q0g ap, .sl 4 (q0e B), q0g bp] (.ret (.tup [.sl 4 (q0e (qek (q7i (q1m bp) (q1m ap) (A.length + B.length) A B))), .int .i64 (errO (q7i (q1m bp) (q1m ap) (A.length + B.length) A B))])) := by
 obtain ⟨o1, o2, o3, o4⟩ := hok
 refine Ev.of_body it_k65 (by simp) (Run.start ?_)
 unfold t_k65 q0g
 have e1 := q0q A
 have e2 := q0q B
 have hS := qps
 have c1 := qox A (by omega)
 have c2 := qow ap wa
 have c3 := qox B (by omega)
 have c4 := qow bp wb
 rw [if_pos o1] at c1
 rw [o2] at c2
 rw [if_pos o3] at c3
 rw [o4] at c4
 have hR0 : (q7i (q1m bp) (q1m ap) (A.length + B.length) (A.drop 0) (B.drop 0)).map ([] ++ ·) = q7i (q1m bp) (q1m ap) (A.length + B.length) A B := by
  simp
 generalize q7i (q1m bp) (q1m ap) (A.length + B.length) A B = R at hR0 ⊢
 (have hF := (aI @e1 @e2); refine q01 (k:=?_); clear hF)
 refine q00 [.sl 4 (q0e A)] (he := c1) (k:=?_)
 (have hF := (aI @e1 @e2); refine q01 (k:=?_); clear hF)
 refine q00 [q0g ap] (he := c2) (k:=?_)
 (have hF := (aI @e1 @e2); refine q01 (k:=?_); clear hF)
 refine q00 [.sl 4 (q0e B)] (he := c3) (k:=?_)
 (have hF := (aI @e1 @e2); refine q01 (k:=?_); clear hF)
 refine q00 [q0g bp] (he := c4) (k:=?_)
 (have hF := (aI @e1 @e2); refine q01 (k:=?_); clear hF)
 refine Run.wk (Wk.own_nil 10 84 4 rfl rfl) ?_
 refine Run.while (σ := MgS) (fun z => ⟨tms [(0, .sl 4 (q0e A)), (2, .sl 4 (q0e B)), (5, .ptr 5 0), (7, .ptr 7 0), (10, .os 84 z.out.length), (11, .int .i64 (z.i : Int)), (12, .int .i64 (z.j : Int))], mms [(5, .cells [.sl 1 (q05 ap.vec), .sl 3 (q0d ap.cloud)]), (7, .cells [.sl 1 (q05 bp.vec), .sl 3 (q0d bp.cloud)]), (84, .arr z.out.length 4 (q0e z.out))]⟩)
  (fun z => z.i ≤ A.length ∧ z.j ≤ B.length ∧ z.out.length ≤ z.i + z.j ∧ ∃ n, (A.length - z.i) + (B.length - z.j) ≤ n ∧ (q7i (q1m bp) (q1m ap) n (A.drop z.i) (B.drop z.j)).map (z.out ++ ·) = R) (fun z => (A.length - z.i) + (B.length - z.j)) ⟨0, 0, []⟩ (have hW := @q09; q0h) ⟨Nat.zero_le _, Nat.zero_le _, Nat.le_refl _, _, Nat.le_refl _, hR0⟩ ?_
 rintro ⟨i, j, out⟩ ⟨hi, hj, ho, n, hn, hf⟩
 dsimp only at *
 unfold qrz
 have e3 := q0q out
 by_cases hia : i < A.length
 ·obtain ⟨a, haa⟩ : ∃ a, A[i]? = some a := ⟨A[i], by simp [hia]⟩
  have g1 := q1a haa
  have oa := (qdm.1 o1).1 i a haa
  have k1 := z7m bp a.dot (by omega)
  have hka : q1m bp a = !q1s bp a.dot := rfl
  obtain ⟨n, rfl⟩ : ∃ m, n = m + 1 := ⟨n - 1, by omega⟩
  by_cases hjb : j < B.length
  ·obtain ⟨b, hbb⟩ : ∃ b, B[j]? = some b := ⟨B[j], by simp [hjb]⟩
   have g2 := q1a hbb
   have ob := (qdm.1 o3).1 j b hbb
   have k2 := z7m ap b.dot (by omega)
   have hkb : q1m ap b = !q1s ap b.dot := rfl
   obtain ⟨c, c5, p1, p2⟩ := zim A B i j a b haa hbb oa ob
   rw [q87 haa, q87 hbb] at hf
   unfold q7i at hf
   rw [← q87 haa, ← q87 hbb] at hf
   (have hF := (aI @e1 @e2); refine q01 (k:=?_); clear hF)
   refine q00 [.sl 4 (q0e A), .int .i64 i, .sl 4 (q0e B), .int .i64 j] (he := c5) (k:=?_)
   by_cases hc1 : c < 0
   ·rw [if_pos (p1.1 hc1), qbk, hka] at hf
    (have hF := (aI (aI @e1 (aI @e2 @e3)) (aI @g1 (aI @g2 @hc1))); refine q01 (k:=?_); clear hF)
    refine q00 [q0g bp, q4h a.dot] (he := k1) (k:=?_)
    cases hh : q1s bp a.dot <;> rw [hh] at hf
    ·(have hF := (aI (aI @e1 @e2) (aI @e3 (aI @g1 @g2))); refine q01 (k:=?_); clear hF)
     (refine Fin.nextW (⟨i + 1, j, out ++ [a]⟩) ?_ (have hW := (aI @q09 @q25); q0h); (try dsimp only))
     exact ⟨⟨hia, hj, by simp; omega, n, by omega, hf⟩, by omega⟩
    ·(have hF := (aI (aI @e1 @e2) (aI @e3 (aI @g1 @g2))); refine q01 (k:=?_); clear hF)
     (refine Fin.nextW (⟨i + 1, j, out⟩) ?_ (have hW := (aI @q09 @q25); q0h); (try dsimp only))
     exact ⟨⟨hia, hj, by omega, n, by omega, by simpa [qi1] using hf⟩, by omega⟩
   ·rw [if_neg (fun h => hc1 (p1.2 h))] at hf
    by_cases hc2 : 0 < c
    ·rw [if_pos (p2.1 hc2), qbk, hkb] at hf
     (have hF := (aI (aI @e1 (aI @e2 @e3)) (aI (aI @g1 @g2) (aI @hc1 @hc2))); refine q01 (k:=?_); clear hF)
     refine q00 [q0g ap, q4h b.dot] (he := k2) (k:=?_)
     cases hh : q1s ap b.dot <;> rw [hh] at hf
     ·(have hF := (aI (aI @e1 @e2) (aI @e3 (aI @g1 @g2))); refine q01 (k:=?_); clear hF)
      (refine Fin.nextW (⟨i, j + 1, out ++ [b]⟩) ?_ (have hW := (aI @q09 @q25); q0h); (try dsimp only))
      exact ⟨⟨hi, hjb, by simp; omega, n, by omega, hf⟩, by omega⟩
     ·(have hF := (aI (aI @e1 @e2) (aI @e3 (aI @g1 @g2))); refine q01 (k:=?_); clear hF)
      (refine Fin.nextW (⟨i, j + 1, out⟩) ?_ (have hW := (aI @q09 @q25); q0h); (try dsimp only))
      exact ⟨⟨hi, hjb, by omega, n, by omega, by simpa [qi1] using hf⟩, by omega⟩
    ·rw [if_neg (fun h => hc2 (p2.2 h))] at hf
     by_cases he : a = b
     ·subst he
      rw [if_pos ((qhi a a).2 rfl), opt_cons] at hf
      (have hF := (aI (aI @e1 (aI @e2 @e3)) (aI (aI @g1 @g2) (aI @hc1 @hc2))); refine q01 (k:=?_); clear hF)
      (refine Fin.nextW (⟨i + 1, j + 1, out ++ [a]⟩) ?_ (have hW := (aI @q09 @q25); q0h); (try dsimp only))
      refine ⟨⟨hia, hjb, by simp; omega, n, by omega, hf⟩, by omega⟩
     ·have he' : eqE a b = false := by
       cases h : eqE a b with
       | true => exact absurd ((qhi a b).1 h) he
       | false => rfl
      rw [if_neg (by rw [he']; decide)] at hf
      have hRn : R = none := hf.symm
      rw [hRn]
      have hdd : a.dot = b.dot := zky _ _ (by
       cases h : q3b a.dot b.dot with
       | true => exact absurd (p1.2 h) hc1
       | false => rfl) (by
       cases h : q3b b.dot a.dot with
       | true => exact absurd (p2.2 h) hc2
       | false => rfl)
      have r1 : a.rep = b.rep := congrArg Prod.fst hdd
      have r2 : a.num = b.num := congrArg Prod.snd hdd
      by_cases r3 : a.sku = b.sku
      ·have r4 : ¬ a.qty = b.qty := fun h => he (by cases a; cases b; simp at r1 r2 r3 h ⊢; exact ⟨r1, r2, r3, h⟩)
       (have hF := (aI (aI (aI @e1 @e2) (aI @e3 (aI @g1 @g2))) (aI (aI @hc1 (aI @hc2 @r1)) (aI @r2 (aI @r3 @r4)))); refine q01 (k:=?_); clear hF)
       exact Fin.two (x := .nil) (x' := .int .i64 10) rfl rfl rfl rfl (.inr ⟨rfl, 4, rfl⟩) (.inl rfl)
      ·(have hF := (aI (aI (aI @e1 @e2) (aI @e3 (aI @g1 @g2))) (aI (aI @hc1 @hc2) (aI @r1 (aI @r2 @r3)))); refine q01 (k:=?_); clear hF)
       exact Fin.two (x := .nil) (x' := .int .i64 10) rfl rfl rfl rfl (.inr ⟨rfl, 4, rfl⟩) (.inl rfl)
  ·have hj' : j = B.length := by omega
   subst hj'
   rw [q87 haa, List.drop_length] at hf
   unfold q7i at hf
   rw [qbk, hka] at hf
   have c5 := z8n A B i hia
   (have hF := (aI @e1 @e2); refine q01 (k:=?_); clear hF)
   refine q00 [.sl 4 (q0e A), .int .i64 i, .sl 4 (q0e B), .int .i64 B.length] (he := c5) (k:=?_)
   (have hF := (aI (aI @e1 @e2) (aI @e3 @g1)); refine q01 (k:=?_); clear hF)
   refine q00 [q0g bp, q4h a.dot] (he := k1) (k:=?_)
   cases hh : q1s bp a.dot <;> rw [hh] at hf
   ·(have hF := (aI (aI @e1 @e2) (aI @e3 @g1)); refine q01 (k:=?_); clear hF)
    (refine Fin.nextW (⟨i + 1, B.length, out ++ [a]⟩) ?_ (have hW := (aI @q09 @q25); q0h); (try dsimp only))
    exact ⟨⟨hia, Nat.le_refl _, by simp; omega, n, by omega, by rw [List.drop_length]; exact hf⟩, by omega⟩
   ·(have hF := (aI (aI @e1 @e2) (aI @e3 @g1)); refine q01 (k:=?_); clear hF)
    (refine Fin.nextW (⟨i + 1, B.length, out⟩) ?_ (have hW := (aI @q09 @q25); q0h); (try dsimp only))
    exact ⟨⟨hia, Nat.le_refl _, by omega, n, by omega, by rw [List.drop_length]; simpa [qi1] using hf⟩, by omega⟩
 ·have hi' : i = A.length := by omega
  subst hi'
  by_cases hjb : j < B.length
  ·obtain ⟨b, hbb⟩ : ∃ b, B[j]? = some b := ⟨B[j], by simp [hjb]⟩
   have g2 := q1a hbb
   have k2 := z7m ap b.dot (by omega)
   have hkb : q1m ap b = !q1s ap b.dot := rfl
   obtain ⟨n, rfl⟩ : ∃ m, n = m + 1 := ⟨n - 1, by omega⟩
   rw [q87 hbb, List.drop_length] at hf
   unfold q7i at hf
   rw [qbk, hkb] at hf
   have c5 := z8o A B j
   (have hF := (aI @e1 @e2); refine q01 (k:=?_); clear hF)
   refine q00 [.sl 4 (q0e A), .int .i64 A.length, .sl 4 (q0e B), .int .i64 j] (he := c5) (k:=?_)
   (have hF := (aI (aI @e1 @e2) (aI @e3 @g2)); refine q01 (k:=?_); clear hF)
   refine q00 [q0g ap, q4h b.dot] (he := k2) (k:=?_)
   cases hh : q1s ap b.dot <;> rw [hh] at hf
   ·(have hF := (aI (aI @e1 @e2) (aI @e3 @g2)); refine q01 (k:=?_); clear hF)
    (refine Fin.nextW (⟨A.length, j + 1, out ++ [b]⟩) ?_ (have hW := (aI @q09 @q25); q0h); (try dsimp only))
    exact ⟨⟨Nat.le_refl _, hjb, by simp; omega, n, by omega, by rw [List.drop_length]; exact hf⟩, by omega⟩
   ·(have hF := (aI (aI @e1 @e2) (aI @e3 @g2)); refine q01 (k:=?_); clear hF)
    (refine Fin.nextW (⟨A.length, j + 1, out⟩) ?_ (have hW := (aI @q09 @q25); q0h); (try dsimp only))
    exact ⟨⟨Nat.le_refl _, hjb, by omega, n, by omega, by rw [List.drop_length]; simpa [qi1] using hf⟩, by omega⟩
  ·have hRs : R = some out := by
    rw [List.drop_length, List.drop_eq_nil_of_le (by omega)] at hf
    rw [← hf]
    cases n <;> simp [q7i]
   rw [hRs]
   (have hF := (aI @e1 (aI @e2 @e3)); refine q01 (k:=?_); clear hF)
   exact Fin.two (x := .sl 4 (q0e out)) (by simp [fz, fzc, q5q, upd, tms, mms]) (q09 _) rfl rfl (.inl rfl) (.inl rfl)

open Classical in
noncomputable def leftF (A B : List Ent) (bp : Pst) : List Ent := A.filter fun e => decide (q43 B e.dot) || q1m bp e

open Classical in
noncomputable def mrgP (A : List Ent) (ap : Pst) (B : List Ent) (bp : Pst) : List Ent × Int :=
 if okM A ap B bp then (qek (q7i (q1m bp) (q1m ap) (A.length + B.length) A B), errO (q7i (q1m bp) (q1m ap) (A.length + B.length) A B)) else ([], 1)

structure Swt where
 live : List Ent
 past : Pst
 defer : List Rec
structure Fct where
 adds : List Ent
 gone : Pst
 recs : List Rec
theorem qqs (p : Pst) (r : Nat) (n : Int) : inP p r n ↔ q1s p ((r : Int), n) = true := by
 rw [q1r]
 simp
theorem qdj {p q : Pst} (hp : CanP p) (hq : CanP q) (h : ∀ d, q1s p d = true ↔ q1s q d = true) : p = q :=
 hp.ext hq fun r _ n => by rw [qqs, qqs, h]
theorem q46 {p q : Pst} : q0n p q = true ↔ ∀ d, q1s p d = true → q1s q d = true := by
 constructor
 ·exact fun h d hd => z99 h hd
 ·intro h
  refine q27.2 fun r _ n hn => ?_
  rw [qqs] at hn ⊢
  exact h _ hn
def q5g (l : List Ent) : Pst := ofP (l.map Ent.dot)
theorem canP_of2 (ds : List Rn) : CanP (ofP ds) := qrc _ (ziv ds).1
theorem z9p {e : Ent} (h : q23 e = 0) : 0 ≤ e.rep ∧ e.rep < 16 ∧ 1 ≤ e.num ∧ e.num ≤ 1000000000 := by
 unfold q23 at h
 split at h
 ·omega
 ·split at h
  ·omega
  ·omega
theorem q4g {l : List Ent} (h : ∀ e ∈ l, q23 e = 0) (d : Rn) : q1s (q5g l) d = true ↔ q43 l d := by
 rw [q1r]
 unfold q5g q43
 constructor
 ·rintro ⟨h0, hd⟩
  have := ((ziw _ (q8o hd) _).1 hd).2.2
  obtain ⟨e, he, hed⟩ := List.mem_map.1 this
  refine ⟨e, he, ?_⟩
  rw [hed]
  have : ((d.1.toNat : Nat) : Int) = d.1 := Int.toNat_of_nonneg h0
  rw [this]
 ·rintro ⟨e, he, rfl⟩
  obtain ⟨h1, h2, h3, h4⟩ := z9p (h e he)
  refine ⟨h1, (ziw _ (show e.dot.1.toNat < 16 by show e.rep.toNat < 16; omega) _).2 ⟨h3, h4, ?_⟩⟩
  have : ((e.dot.1.toNat : Nat) : Int) = e.dot.1 := Int.toNat_of_nonneg h1
  rw [this]
  exact List.mem_map.2 ⟨e, he, rfl⟩
theorem q2d {l : List Ent} (h : q77 l) : ∀ e ∈ l, q23 e = 0 := fun e he => by
 obtain ⟨i, hi⟩ := List.mem_iff_getElem?.1 he
 exact h.1 i e hi
structure FormS (s : Swt) : Prop where
 live : q77 s.live
 past : CanP s.past
 defer : q3t s.defer
 dots : q0n (q5g s.live) s.past = true
 waits : ∀ r ∈ s.defer, q0n r.past s.past = false
 bars : ∀ e ∈ s.live, ¬ q5o s.defer e
def goneP (s : Swt) : Pst := q2u s.past (q5g s.live)
def zkn (A B : List Ent) : Option (List Ent) := q7i (fun _ => true) (fun _ => true) (A.length + B.length) A B
theorem q7q {A B : List Ent} (hA : q77 A) (hB : q77 B) : match zkn A B with | none => Clash A B | some L => ¬ Clash A B ∧ za8 L ∧ ∀ e, e ∈ L ↔ e ∈ A ∨ e ∈ B := by
 have h := q57 (fun _ => true) (fun _ => true) _ A B (Nat.le_refl _) (q50 hA.2) (q50 hB.2)
 unfold zkn
 generalize q7i (fun _ => true) (fun _ => true) (A.length + B.length) A B = r at h ⊢
 cases r with
 | none => exact h
 | some L =>
  refine ⟨h.1, h.2.1, fun e => ?_⟩
  rw [h.2.2 e]
  unfold InM
  simp
def q4p (a b : Swt) : List Rec := qa3 (a.defer ++ b.defer)
def q2q (a b : Swt) : Option (List Ent) := q7i (q1m b.past) (q1m a.past) (a.live.length + b.live.length) a.live b.live
noncomputable def q2w (a b : Swt) : Swt := ⟨q3r (q4p a b) (qek (q2q a b)), q1v [a.past, b.past], q16 (q4p a b) (q1v [a.past, b.past])⟩
def qoi (adds : List Ent) (gone : Pst) (recs : List Rec) : List Ent := adds.filter fun e => !q1s gone e.dot && decide (q7u recs e = 0)
theorem q6x {a b : Swt} (ha : FormS a) (hb : FormS b) : MSpec (q1m b.past) (q1m a.past) a.live b.live (q2q a b) :=
 q57 _ _ _ a.live b.live (Nat.le_refl _) (q50 ha.live.2) (q50 hb.live.2)
theorem q4w {a b : Swt} (ha : FormS a) (hb : FormS b) : (q2q a b = none ↔ Clash a.live b.live) ∧ (zkn a.live b.live = none ↔ Clash a.live b.live) := by
 have h1 := q6x ha hb
 have h2 := q7q ha.live hb.live
 constructor
 ·cases hm : q2q a b with
  | none => rw [hm] at h1; exact ⟨fun _ => h1, fun _ => rfl⟩
  | some L => rw [hm] at h1; exact ⟨fun h => (by cases h), fun h => absurd h h1.1⟩
 ·cases hm : zkn a.live b.live with
  | none => rw [hm] at h2; exact ⟨fun _ => h2, fun _ => rfl⟩
  | some L => rw [hm] at h2; exact ⟨fun h => (by cases h), fun h => absurd h h2.1⟩
structure FormF (f : Fct) : Prop where
 adds : q77 f.adds
 gone : CanP f.gone
 recs : q3t f.recs
open Classical in
noncomputable def evErr (f : Fct) : Int := if ¬ FormF f then 1 else match f.adds, f.recs with
 | [e], [] => if lastP f.gone e.rep < e.num then 0 else 2
 | [], [] => 0
 | [], [_] => if q3x f.gone = 0 then 0 else 2
 | _, _ => 2
def evS (f : Fct) : Swt := ⟨f.adds, q1v [q5g f.adds, f.gone], f.recs⟩

open Classical in
noncomputable def formS (s : Swt) : Bool := decide (FormS s)
theorem q82 {s : Swt} (h : FormS s) : formS s = true := by classical exact decide_eq_true h
theorem q8z {s : Swt} (h : ¬ FormS s) : formS s = false := by classical exact decide_eq_false h
theorem q3y {s : Swt} : formS s = true ↔ FormS s := by classical exact decide_eq_true_iff
theorem qai {α : Type} (p : α → Bool) : ∀ l : List α, (l.filter p).length = l.length ↔ ∀ x ∈ l, p x = true
 | [] => by simp
 | x :: l => by
  have ih := qai p l
  have hle := List.length_filter_le p l
  by_cases h : p x = true
  ·rw [List.filter_cons_of_pos h, List.length_cons, List.length_cons, Nat.add_right_cancel_iff, ih]
   simp [h]
  ·rw [List.filter_cons_of_neg h, List.length_cons]
   constructor
   ·intro h'; omega
   ·intro h'; exact absurd (h' x (by simp)) h
theorem qi9 {l : List Rec} {p : Pst} : (q16 l p).length = l.length ↔ ∀ r ∈ l, q0n r.past p = false := by
 unfold q16
 rw [qai]
 simp
theorem z78 {l : List Rec} {es : List Ent} : (q3r l es).length = es.length ↔ ∀ e ∈ es, ¬ q5o l e := by
 unfold q3r
 rw [qai]
 simp only [decide_eq_true_eq, q4c]
theorem qb0 {s : Swt} : FormS s ↔ q7d s.live = true ∧ q1e s.past = true ∧ q3h s.defer = true ∧ q0n (q5g s.live) s.past = true ∧ (q16 s.defer s.past).length = s.defer.length ∧ (q3r s.defer s.live).length = s.live.length := by
 rw [qdm, q3g, q7n, qi9, z78]
 exact ⟨fun h => ⟨h.live, h.past, h.defer, h.dots, h.waits, h.bars⟩, fun h => ⟨h.1, h.2.1, h.2.2.1, h.2.2.2.1, h.2.2.2.2.1, h.2.2.2.2.2⟩⟩
theorem qbn {l : List Ent} (hs : za8 l) (h : ∀ e ∈ l, q23 e = 0) : q77 l := by
 refine ⟨fun i e he => h e (List.mem_of_getElem? he), fun i a b ha hb => ?_⟩
 unfold za8 at hs
 rw [List.getElem?_eq_some_iff] at ha hb
 obtain ⟨h1, rfl⟩ := ha
 obtain ⟨h2, rfl⟩ := hb
 exact List.pairwise_iff_getElem.1 hs i (i + 1) h1 h2 (by omega)
theorem zjj {ka kb : Ent → Bool} {A B : List Ent} {e : Ent} (h : InM ka kb A B e) : e ∈ A ∨ e ∈ B := by
 rcases h with h | h
 ·exact .inl h.1
 ·exact .inr h.1
theorem qf5 {a b : Swt} (ha : FormS a) (hb : FormS b) {M : List Ent} (hM : q2q a b = some M) : q77 M := by
 have h1 := q6x ha hb
 rw [hM] at h1
 exact qbn h1.2.1 fun e he => (zjj ((h1.2.2 e).1 he)).elim (q2d ha.live e) (q2d hb.live e)
theorem qf9 {a b : Swt} (ha : FormS a) (hb : FormS b) : q3t (q4p a b) := qdk ha.defer hb.defer
theorem qae {a b : Swt} (ha : FormS a) (hb : FormS b) {M : List Ent} (hM : q2q a b = some M) : FormS (q2w a b) := by
 have h1 := q6x ha hb
 rw [hM] at h1
 have hMf := qf5 ha hb hM
 have hl : (q2w a b).live = q3r (q4p a b) M := by unfold q2w; rw [hM]; rfl
 have he : ∀ e ∈ q3r (q4p a b) M, e ∈ M ∧ ¬ q5o (q4p a b) e := fun e he => by
  unfold q3r at he
  rw [List.mem_filter, decide_eq_true_eq, q4c] at he
  exact he
 refine ⟨?_, q2f _, qb1 _ (qf9 ha hb), ?_, fun r hr => ?_, fun e hem => ?_⟩
 ·rw [hl]
  exact qbn (h1.2.1.filter _) fun e hem => q2d hMf e (he e hem).1
 ·rw [hl]
  refine q46.2 fun d hd => ?_
  rw [q4g fun e hem => q2d hMf e (he e hem).1] at hd
  obtain ⟨e, hem, rfl⟩ := hd
  show q1s (q1v [a.past, b.past]) e.dot = true
  rw [q4s, Bool.or_eq_true]
  exact (zjj ((h1.2.2 e).1 (he e hem).1)).imp (fun h => q46.1 ha.dots _ ((q4g (q2d ha.live) _).2 ⟨e, h, rfl⟩)) (fun h => q46.1 hb.dots _ ((q4g (q2d hb.live) _).2 ⟨e, h, rfl⟩))
 ·have : r ∈ q16 (q4p a b) (q1v [a.past, b.past]) := hr
  unfold q16 at this
  rw [List.mem_filter] at this
  show q0n r.past (q1v [a.past, b.past]) = false
  simpa using this.2
 ·rw [hl] at hem
  intro hc
  obtain ⟨r, hr, hcv⟩ := hc
  have : r ∈ q16 (q4p a b) (q1v [a.past, b.past]) := hr
  unfold q16 at this
  rw [List.mem_filter] at this
  exact (he e hem).2 ⟨r, this.1, hcv⟩
open Classical in
noncomputable def fate (s : Swt) (d : Rn) : Int := if q1s s.past d = true then (if q43 s.live d then 1 else 2) else 0
open Classical in
noncomputable def q83 (a b : Swt) : Int := if FormS a ∧ FormS b then (if Clash a.live b.live then 10 else 0) else 1
def noS : Swt := ⟨[], ⟨[], []⟩, []⟩
open Classical in
noncomputable def q4r (a b : Swt) : Swt := if q83 a b = 0 then q2w a b else noS
theorem qoz {a b : Swt} : q83 a b = 0 ↔ FormS a ∧ FormS b ∧ ∃ M, q2q a b = some M := by
 unfold q83
 constructor
 ·intro h
  split at h
  ·rename_i hf
   split at h
   ·omega
   ·rename_i hc
    refine ⟨hf.1, hf.2, ?_⟩
    cases hm : q2q a b with
    | none => exact absurd ((q4w hf.1 hf.2).1.1 hm) hc
    | some M => exact ⟨M, rfl⟩
  ·omega
 ·rintro ⟨h1, h2, M, hM⟩
  rw [if_pos ⟨h1, h2⟩, if_neg]
  intro hc
  rw [(q4w h1 h2).1.2 hc] at hM
  cases hM
theorem qg3 {a b : Swt} (h1 : a.live = b.live) (h2 : a.past = b.past) (h3 : a.defer = b.defer) : a = b := by
 cases a; cases b
 simp only at h1 h2 h3
 rw [h1, h2, h3]
theorem z94 {a b : Swt} {M : List Ent} (hM : q2q a b = some M) : (q2w a b).live = q3r (q4p a b) M := by unfold q2w; rw [hM]; rfl
theorem zl1 {a b : Swt} (ha : FormS a) (hb : FormS b) (e : Ent) : q5o (q4p a b) e ↔ q5o a.defer e ∨ q5o b.defer e := by
 unfold q5o q4p
 have hc := qe9 ha.defer hb.defer
 constructor
 ·rintro ⟨r, hr, h⟩
  rw [q4f hc, List.mem_append] at hr
  exact hr.imp (fun x => ⟨r, x, h⟩) (fun x => ⟨r, x, h⟩)
 ·rintro (⟨r, hr, h⟩ | ⟨r, hr, h⟩)
  ·exact ⟨r, (q4f hc r).2 (List.mem_append.2 (.inl hr)), h⟩
  ·exact ⟨r, (q4f hc r).2 (List.mem_append.2 (.inr hr)), h⟩
theorem z74 {a b : Swt} (ha : FormS a) (hb : FormS b) {M : List Ent} (hM : q2q a b = some M) (e : Ent) : e ∈ (q2w a b).live ↔
 ((e ∈ a.live ∧ (q43 b.live e.dot ∨ q1s b.past e.dot = false) ∧ ¬ q5o b.defer e) ∨ (e ∈ b.live ∧ (q43 a.live e.dot ∨ q1s a.past e.dot = false) ∧ ¬ q5o a.defer e)) ∧ ¬ q5o a.defer e ∧ ¬ q5o b.defer e := by
 have h1 := q6x ha hb
 rw [hM] at h1
 rw [z94 hM]
 unfold q3r
 rw [List.mem_filter, decide_eq_true_eq, q4c, zl1 ha hb, h1.2.2 e]
 unfold InM q1m
 rw [Bool.not_eq_true', Bool.not_eq_true']
 constructor
 ·rintro ⟨h | h, hn⟩
  ·exact ⟨.inl ⟨h.1, h.2, fun h' => hn (.inr h')⟩, fun h' => hn (.inl h'), fun h' => hn (.inr h')⟩
  ·exact ⟨.inr ⟨h.1, h.2, fun h' => hn (.inl h')⟩, fun h' => hn (.inl h'), fun h' => hn (.inr h')⟩
 ·rintro ⟨h | h, hn⟩
  ·exact ⟨.inl ⟨h.1, h.2.1⟩, fun h' => h'.elim hn.1 hn.2⟩
  ·exact ⟨.inr ⟨h.1, h.2.1⟩, fun h' => h'.elim hn.1 hn.2⟩


def q1t (f : Fct) : Pst := q1v [q5g f.adds, f.gone]
noncomputable def stF (f : Fct) : Swt := ⟨qoi f.adds f.gone f.recs, q1t f, q16 f.recs (q1t f)⟩
def q6g (f g : Fct) (L : List Ent) : Fct := ⟨L, q1v [f.gone, g.gone], qa3 (f.recs ++ g.recs)⟩
theorem q2v (l : List Ent) (p : Pst) (rs : List Rec) (e : Ent) : e ∈ qoi l p rs ↔ e ∈ l ∧ q1s p e.dot = false ∧ ¬ q5o rs e := by
 unfold qoi
 rw [List.mem_filter, Bool.and_eq_true, Bool.not_eq_true', decide_eq_true_eq, q4c]
theorem q2y (rs : List Rec) (p : Pst) (r : Rec) : r ∈ q16 rs p ↔ r ∈ rs ∧ q0n r.past p = false := by
 unfold q16
 rw [List.mem_filter]
 simp
theorem q2b {f : Fct} (hf : FormF f) (d : Rn) : q1s (q1t f) d = true ↔ q43 f.adds d ∨ q1s f.gone d = true := by
 unfold q1t
 rw [q4s, Bool.or_eq_true, q4g (q2d hf.adds)]
theorem qsh {f : Fct} (hf : FormF f) : za8 (qoi f.adds f.gone f.recs) := (q50 hf.adds.2).filter _
theorem qg9 {f : Fct} (hf : FormF f) : FormS (stF f) := by
 refine ⟨qbn (qsh hf) fun e he => q2d hf.adds e ((q2v _ _ _ e).1 he).1, q2f _, qb1 _ hf.recs, ?_, fun r hr => ((q2y _ _ r).1 hr).2, fun e he hc => ?_⟩
 ·refine q46.2 fun d hd => ?_
  have hd : q1s (q5g (qoi f.adds f.gone f.recs)) d = true := hd
  rw [q4g fun e he => q2d hf.adds e ((q2v _ _ _ e).1 he).1] at hd
  obtain ⟨e, he, rfl⟩ := hd
  exact (q2b hf _).2 (.inl ⟨e, ((q2v _ _ _ e).1 he).1, rfl⟩)
 ·obtain ⟨r, hr, hcv⟩ := hc
  exact ((q2v _ _ _ e).1 he).2.2 ⟨r, ((q2y _ _ r).1 hr).1, hcv⟩
theorem qbx {f g : Fct} (hf : FormF f) (hg : FormF g) {L : List Ent} (hL : zkn f.adds g.adds = some L) : FormF (q6g f g L) := by
 have h := q7q hf.adds hg.adds
 rw [hL] at h
 exact ⟨qbn h.2.1 fun e he => ((h.2.2 e).1 he).elim (q2d hf.adds e) (q2d hg.adds e), q2f _, qdk hf.recs hg.recs⟩
theorem cov_ord {a b : List Rec} (ha : q3t a) (hb : q3t b) (e : Ent) : q5o (qa3 (a ++ b)) e ↔ q5o a e ∨ q5o b e := by
 unfold q5o
 have hc := qe9 ha hb
 constructor
 ·rintro ⟨r, hr, h⟩
  rw [q4f hc, List.mem_append] at hr
  exact hr.imp (fun x => ⟨r, x, h⟩) (fun x => ⟨r, x, h⟩)
 ·rintro (⟨r, hr, h⟩ | ⟨r, hr, h⟩)
  ·exact ⟨r, (q4f hc r).2 (List.mem_append.2 (.inl hr)), h⟩
  ·exact ⟨r, (q4f hc r).2 (List.mem_append.2 (.inr hr)), h⟩
theorem z7r {f : Fct} {e : Ent} (h : ¬ q5o (q16 f.recs (q1t f)) e) (hd : q1s (q1t f) e.dot = false) : ¬ q5o f.recs e := by
 rintro ⟨r, hr, hc⟩
 cases hw : q0n r.past (q1t f) with
 | false => exact h ⟨r, (q2y _ _ r).2 ⟨hr, hw⟩, hc⟩
 | true =>
  have := q46.1 hw e.dot ((q74 r e).1 hc).2
  rw [hd] at this
  cases this
theorem qq5 {f g : Fct} (h : ¬ Clash f.adds g.adds) : ¬ Clash (stF f).live (stF g).live := by
 rintro ⟨a, ha, b, hb, hd, hne⟩
 exact h ⟨a, ((q2v _ _ _ a).1 ha).1, b, ((q2v _ _ _ b).1 hb).1, hd, hne⟩
theorem stF_join {f g : Fct} (hf : FormF f) (hg : FormF g) {L : List Ent} (hL : zkn f.adds g.adds = some L) :
 (∃ M, q2q (stF f) (stF g) = some M) ∧ q2w (stF f) (stF g) = stF (q6g f g L) := by
 have h := q7q hf.adds hg.adds
 rw [hL] at h
 obtain ⟨hnc, hs, hm⟩ := h
 have sf := qg9 hf
 have sg := qg9 hg
 have hu := qbx hf hg hL
 obtain ⟨M, hM⟩ : ∃ M, q2q (stF f) (stF g) = some M := by
  cases hq : q2q (stF f) (stF g) with
  | none => exact absurd ((q4w sf sg).1.1 hq) (qq5 hnc)
  | some M => exact ⟨M, rfl⟩
 refine ⟨⟨M, hM⟩, ?_⟩
 have hjf := qae sf sg hM
 have hsame : ∀ {a b : Ent}, a ∈ f.adds → b ∈ g.adds → a.dot = b.dot → a = b := fun {a b} ha hb hd => Classical.byContradiction fun hne => hnc ⟨a, ha, b, hb, hd, hne⟩
 refine qg3 ?_ ?_ ?_
 ·refine qga (q50 hjf.live.2) (qsh hu) fun e => ?_
  rw [z74 sf sg hM]
  show _ ↔ e ∈ qoi L (q1v [f.gone, g.gone]) (qa3 (f.recs ++ g.recs))
  rw [q2v]
  show _ ↔ e ∈ L ∧ q1s (q1v [f.gone, g.gone]) e.dot = false ∧ ¬ q5o (qa3 (f.recs ++ g.recs)) e
  rw [hm e, q4s, Bool.or_eq_false_iff, cov_ord hf.recs hg.recs]
  have lf : e ∈ (stF f).live ↔ e ∈ f.adds ∧ q1s f.gone e.dot = false ∧ ¬ q5o f.recs e := q2v _ _ _ e
  have lg : e ∈ (stF g).live ↔ e ∈ g.adds ∧ q1s g.gone e.dot = false ∧ ¬ q5o g.recs e := q2v _ _ _ e
  have pf : q1s (stF f).past e.dot = false → ¬ q43 f.adds e.dot ∧ q1s f.gone e.dot = false := fun h => by
   have := (q2b hf e.dot)
   rw [show q1s (q1t f) e.dot = false from h] at this
   exact ⟨fun h' => absurd (this.2 (.inl h')) (by simp), by cases hh : q1s f.gone e.dot with | false => rfl | true => exact absurd (this.2 (.inr hh)) (by simp)⟩
  have pg : q1s (stF g).past e.dot = false → ¬ q43 g.adds e.dot ∧ q1s g.gone e.dot = false := fun h => by
   have := (q2b hg e.dot)
   rw [show q1s (q1t g) e.dot = false from h] at this
   exact ⟨fun h' => absurd (this.2 (.inl h')) (by simp), by cases hh : q1s g.gone e.dot with | false => rfl | true => exact absurd (this.2 (.inr hh)) (by simp)⟩
  constructor
  ·rintro ⟨h1 | h1, c1, c2⟩
   ·obtain ⟨a1, a2, a3⟩ := lf.1 h1.1
    rcases h1.2.1 with hd | hd
    ·obtain ⟨x, hx, hxd⟩ := hd
     obtain ⟨b1, b2, b3⟩ := (q2v _ _ _ x).1 hx
     have := hsame a1 b1 hxd.symm
     subst this
     exact ⟨.inl a1, ⟨a2, b2⟩, fun h => h.elim a3 b3⟩
    ·obtain ⟨b1, b2⟩ := pg hd
     exact ⟨.inl a1, ⟨a2, b2⟩, fun h => h.elim a3 (z7r c2 hd)⟩
   ·obtain ⟨a1, a2, a3⟩ := lg.1 h1.1
    rcases h1.2.1 with hd | hd
    ·obtain ⟨x, hx, hxd⟩ := hd
     obtain ⟨b1, b2, b3⟩ := (q2v _ _ _ x).1 hx
     have := hsame b1 a1 hxd
     subst this
     exact ⟨.inr a1, ⟨b2, a2⟩, fun h => h.elim b3 a3⟩
    ·obtain ⟨b1, b2⟩ := pf hd
     exact ⟨.inr a1, ⟨b2, a2⟩, fun h => h.elim (z7r c1 hd) a3⟩
  ·rintro ⟨h1, ⟨g1, g2⟩, hc⟩
   have c1 : ¬ q5o f.recs e := fun h => hc (.inl h)
   have c2 : ¬ q5o g.recs e := fun h => hc (.inr h)
   have w1 : ¬ q5o (stF f).defer e := fun ⟨r, hr, h⟩ => c1 ⟨r, ((q2y _ _ r).1 hr).1, h⟩
   have w2 : ¬ q5o (stF g).defer e := fun ⟨r, hr, h⟩ => c2 ⟨r, ((q2y _ _ r).1 hr).1, h⟩
   refine ⟨?_, w1, w2⟩
   rcases h1 with h1 | h1
   ·refine .inl ⟨lf.2 ⟨h1, g1, c1⟩, ?_, w2⟩
    cases hp : q1s (stF g).past e.dot with
    | false => exact .inr rfl
    | true =>
     rcases (q2b hg e.dot).1 hp with ⟨x, hx, hxd⟩ | h2
     ·have := hsame h1 hx hxd.symm
      subst this
      exact .inl ⟨e, lg.2 ⟨hx, g2, c2⟩, rfl⟩
     ·rw [g2] at h2; cases h2
   ·refine .inr ⟨lg.2 ⟨h1, g2, c2⟩, ?_, w1⟩
    cases hp : q1s (stF f).past e.dot with
    | false => exact .inr rfl
    | true =>
     rcases (q2b hf e.dot).1 hp with ⟨x, hx, hxd⟩ | h2
     ·have := hsame hx h1 hxd
      subst this
      exact .inl ⟨x, lf.2 ⟨hx, g1, c1⟩, rfl⟩
     ·rw [g1] at h2; cases h2
 ·refine qdj (q2f _) (q2f _) fun d => ?_
  show q1s (q1v [q1t f, q1t g]) d = true ↔ q1s (q1t (q6g f g L)) d = true
  rw [q4s, Bool.or_eq_true, q2b hf, q2b hg, q2b hu]
  show _ ↔ q43 L d ∨ q1s (q1v [f.gone, g.gone]) d = true
  rw [q4s, Bool.or_eq_true]
  have : q43 L d ↔ q43 f.adds d ∨ q43 g.adds d := by
   unfold q43
   constructor
   ·rintro ⟨e, he, hd⟩
    exact ((hm e).1 he).imp (fun h => ⟨e, h, hd⟩) (fun h => ⟨e, h, hd⟩)
   ·rintro (⟨e, he, hd⟩ | ⟨e, he, hd⟩)
    ·exact ⟨e, (hm e).2 (.inl he), hd⟩
    ·exact ⟨e, (hm e).2 (.inr he), hd⟩
  rw [this]
  exact or_or_or_comm
 ·have hp : q1v [q1t f, q1t g] = q1t (q6g f g L) := by
   refine qdj (q2f _) (q2f _) fun d => ?_
   rw [q4s, Bool.or_eq_true, q2b hf, q2b hg, q2b hu]
   show _ ↔ q43 L d ∨ q1s (q1v [f.gone, g.gone]) d = true
   rw [q4s, Bool.or_eq_true]
   have : q43 L d ↔ q43 f.adds d ∨ q43 g.adds d := by
    unfold q43
    constructor
    ·rintro ⟨e, he, hd⟩
     exact ((hm e).1 he).imp (fun h => ⟨e, h, hd⟩) (fun h => ⟨e, h, hd⟩)
    ·rintro (⟨e, he, hd⟩ | ⟨e, he, hd⟩)
     ·exact ⟨e, (hm e).2 (.inl he), hd⟩
     ·exact ⟨e, (hm e).2 (.inr he), hd⟩
   rw [this]
   exact or_or_or_comm
  refine SrtR.ext (q9o hjf.defer) ((qbj _).filter _) fun r => ?_
  show r ∈ q16 (qa3 (q16 f.recs (q1t f) ++ q16 g.recs (q1t g))) (q1v [q1t f, q1t g]) ↔ r ∈ q16 (qa3 (f.recs ++ g.recs)) (q1t (q6g f g L))
  rw [hp, q2y, q2y, q4f (qe9 hf.recs hg.recs), q4f (show ∀ y ∈ q16 f.recs (q1t f) ++ q16 g.recs (q1t g), qbb y from qe9 sf.defer sg.defer), List.mem_append, List.mem_append, q2y, q2y]
  have wf : q0n (q1t f) (q1t (q6g f g L)) = true := by rw [← hp]; exact qi8 _ _
  have wg : q0n (q1t g) (q1t (q6g f g L)) = true := by rw [← hp]; exact qi7 _ _
  constructor
  ·rintro ⟨h1, h2⟩
   exact ⟨h1.imp And.left And.left, h2⟩
  ·rintro ⟨h1, h2⟩
   refine ⟨h1.imp (fun h => ⟨h, ?_⟩) (fun h => ⟨h, ?_⟩), h2⟩
   ·cases hw : q0n r.past (q1t f) with
    | false => rfl
    | true => rw [qat hw wf] at h2; cases h2
   ·cases hw : q0n r.past (q1t g) with
    | false => rfl
    | true => rw [qat hw wg] at h2; cases h2

def Wkn (x y : AVal) : Prop := ∀ (D : Nat → Nat → Prop) (G : Gh) (B : Nat → Prop) (w : World) (v : Value), VR D G B w x v → VR D G B w y v
theorem Wkn.refl (x : AVal) : Wkn x x := fun _ _ _ _ _ h => h
theorem Wkn.nil (sz : Nat) : Wkn .nil (.sl sz []) := fun D G B w v h => by
 cases h
 exact .slnil sz
def Wkns : List AVal → List AVal → Prop
 | [], [] => True
 | a :: l, b :: m => Wkn a b ∧ Wkns l m
 | _, _ => False
theorem Wkns.len : ∀ {l m : List AVal}, Wkns l m → l.length = m.length
 | [], [], _ => rfl
 | a :: l, b :: m, h => by rw [List.length_cons, List.length_cons, Wkns.len h.2]
 | [], _ :: _, h => h.elim
 | _ :: _, [], h => h.elim
theorem Wkns.get : ∀ {l m : List AVal}, Wkns l m → ∀ (i : Nat) (y : AVal), m[i]? = some y → ∃ x, l[i]? = some x ∧ Wkn x y
 | [], [], _, i, y, h => by simp at h
 | a :: l, b :: m, hw, 0, y, h => by
  simp only [List.getElem?_cons_zero, Option.some.injEq] at h
  subst h
  exact ⟨a, rfl, hw.1⟩
 | a :: l, b :: m, hw, i + 1, y, h => by
  obtain ⟨x, hx, hxy⟩ := Wkns.get hw.2 i y (by simpa using h)
  exact ⟨x, by simpa using hx, hxy⟩
 | [], _ :: _, h, _, _, _ => h.elim
 | _ :: _, [], h, _, _, _ => h.elim
theorem Wkns.refl : ∀ l : List AVal, Wkns l l
 | [] => trivial
 | a :: l => ⟨Wkn.refl a, Wkns.refl l⟩
theorem Wkn.agg {l m : List AVal} (h : Wkns l m) : Wkn (.agg l) (.agg m) := fun D G B w v hv => by
 cases hv with
 | agg cs vs hl hh =>
  refine .agg m vs (by rw [hl, h.len]) fun n x u hx hu => ?_
  obtain ⟨y, hy, hyx⟩ := h.get n x hx
  exact hyx D G B w u (hh n y u hy hu)

theorem Wkn.sl {sz : Nat} {xs ys : List AVal} (hl : xs.length = ys.length) (hf : Wkns (flat xs) (flat ys)) (h1 : ∀ x ∈ flat ys, x.one = true) (h2 : ∀ x ∈ ys, x.cells.length = sz) : Wkn (.sl sz xs) (.sl sz ys) := fun D G B w v h => by
 cases h with
 | slnil =>
  have : ys = [] := List.length_eq_zero_iff.1 hl.symm
  subst this
  exact .slnil sz
 | slemp _ a cap =>
  have : ys = [] := List.length_eq_zero_iff.1 hl.symm
  subst this
  exact .slemp sz a cap
 | sl _ _ b off cap f hcap hB hone hsz hc hv =>
  have hne : flat ys ≠ [] → flat xs ≠ [] := fun h h' => h (List.length_eq_zero_iff.1 (by rw [← hf.len, h']; rfl))
  have hg := fun n y (hy : (flat ys)[n]? = some y) => hf.get n y hy
  rw [hl]
  refine .sl sz ys b off cap f (by omega) (fun h => hB (hne h)) h1 h2 (fun n y hy => ?_) (fun n y hy => ?_)
  ·obtain ⟨x, hx, _⟩ := hg n y hy
   exact hc n x hx
  ·obtain ⟨x, hx, hxy⟩ := hg n y hy
   exact hxy D G B w _ (hv n x hx)
def sA : ByteArray := ⟨#[65]⟩
def sa : ByteArray := ⟨#[97]⟩
theorem good_A : q7b sA = true := by decide +kernel

theorem qpb : Tryz.prog.cellsOf 9 = 1 := by kernel_rfl
theorem qpc : Tryz.prog.cellsOf 91 = 3 := by kernel_rfl
theorem qpd : Tryz.prog.cellsOf 62 = 4 := by kernel_rfl
theorem z9t : Tryz.prog.cellsOf 27 = 1 := by kernel_rfl
theorem z9v : Tryz.prog.cellsOf 22 = 1 := by kernel_rfl
theorem op_str : Opens Tryz.prog 9 ByteArray (fun _ => True) (fun s => [.str s]) (fun s => s.size + 1) := Opens.string Tryz.underlying9
def okK (r : Rec) : Prop := okP r.past
def cellsK (r : Rec) : List AVal := [.str r.sku, .sl 1 (q05 r.past.vec), .sl 3 (q0d r.past.cloud)]
theorem op_Rec : Opens Tryz.prog 91 Rec okK cellsK wtK :=
 (Opens.struct Tryz.underlying91 qpc (OpensF.cons (k := 1) op_str (fun _ => rfl) qpb rfl (OpensF.cons (k := 2) ziq (fun _ => rfl) qap rfl (OpensF.nil _)))).map
  (fun x => ⟨x.1, x.2.1⟩) (fun x h => h.2.1) (fun _ => rfl) (fun x => by show wt x.2.1 + 1 ≤ x.1.size + 1 + (wt x.2.1 + 0) + 1; omega)
theorem op_recs : Opens Tryz.prog 27 (List Rec) (fun l => ∀ x ∈ l, okK x) (fun l => [.sl 3 (q08 l)]) (wtL wtK) :=
 Opens.slice (mk := q4i) Tryz.underlying27 op_Rec qpc (by decide) (fun _ => rfl) (fun _ => rfl) (fun x y hy => by simp [cellsK] at hy; rcases hy with rfl | rfl | rfl <;> rfl)
def okE (e : Ent) : Prop := True
def cellsE (e : Ent) : List AVal := [.int .i64 e.rep, .int .i64 e.num, .str e.sku, .int .i64 e.qty]
theorem op_Ent : Opens Tryz.prog 62 Ent okE cellsE (fun _ => 1) :=
 (Opens.struct Tryz.underlying62 qpd (OpensF.cons (k := 2) op_Dot (fun _ => rfl) qpe rfl (OpensF.cons (k := 1) op_str (fun _ => rfl) qpb rfl (OpensF.cons (k := 1) qcy (fun _ => rfl) q5i rfl (OpensF.nil _))))).map
  (fun x => ⟨x.1.1, x.1.2, x.2.1, x.2.2.1⟩) (fun x h => trivial) (fun _ => rfl) (fun _ => Nat.le_add_left _ _)
theorem op_ents : Opens Tryz.prog 22 (List Ent) (fun l => ∀ x ∈ l, okE x) (fun l => [.sl 4 (q0e l)]) (wtL fun _ => 1) :=
 Opens.slice (mk := qam) Tryz.underlying22 op_Ent qpd (by decide) (fun _ => rfl) (fun _ => rfl) (fun x y hy => by simp [cellsE] at hy; rcases hy with rfl | rfl | rfl | rfl <;> rfl)
structure CasK where
 r : List Rec
 q : List Rec
 a : List Ent
 b : List Ent
 p : Pst
 o : Pst

theorem qaa : ∀ (ka kb : Ent → Bool) (n : Nat) (A B : List Ent), (qek (q7i ka kb n A B)).length ≤ A.length + B.length
 | ka, kb, 0, A, B => by simp [q7i, qek]
 | ka, kb, n + 1, [], [] => by simp [q7i, qek]
 | ka, kb, n + 1, a :: A, [] => by
  have ih := qaa ka kb n A []
  unfold q7i
  cases h : q7i ka kb n A [] with
  | none => simp [qek]
  | some L => rw [h] at ih; simp only [qek, Option.map_some, List.length_append, List.length_cons, List.length_nil, qi1] at *; split <;> simp at * <;> omega
 | ka, kb, n + 1, [], b :: B => by
  have ih := qaa ka kb n [] B
  unfold q7i
  cases h : q7i ka kb n [] B with
  | none => simp [qek]
  | some L => rw [h] at ih; simp only [qek, Option.map_some, List.length_append, List.length_cons, List.length_nil, qi1] at *; split <;> simp at * <;> omega
 | ka, kb, n + 1, a :: A, b :: B => by
  unfold q7i
  split
  ·have ih := qaa ka kb n A (b :: B)
   cases h : q7i ka kb n A (b :: B) with
   | none => simp [qek]
   | some L => rw [h] at ih; simp only [qek, Option.map_some, List.length_append, List.length_cons, qi1] at *; split <;> simp at * <;> omega
  ·split
   ·have ih := qaa ka kb n (a :: A) B
    cases h : q7i ka kb n (a :: A) B with
    | none => simp [qek]
    | some L => rw [h] at ih; simp only [qek, Option.map_some, List.length_append, List.length_cons, qi1] at *; split <;> simp at * <;> omega
   ·split
    ·have ih := qaa ka kb n A B
     cases h : q7i ka kb n A B with
     | none => simp [qek]
     | some L => rw [h] at ih; simp only [qek, Option.map_some, List.length_cons] at *; omega
    ·simp [qek]

theorem ordR_id {l : List Rec} (h : q3t l) : qa3 l = l := (qcw (fun r hr => (q3z h r hr).1) (q9o h) fun x => Iff.rfl).symm
def expF (s : Swt) : Fct := ⟨s.live, goneP s, s.defer⟩
theorem q4o {s : Swt} (h : FormS s) : FormF (expF s) := ⟨h.live, qfu _ _, h.defer⟩
theorem q3m {a b : Swt} (h : q83 a b = 0) : q4r a b = q2w a b := if_pos h
theorem q7l {a b : Swt} (h : ¬ q83 a b = 0) : q4r a b = noS := if_neg h
def wtS (s : Swt) : Nat := s.live.length + wt s.past + q6e s.defer
theorem qpw (p : Rec → Bool) (l : List Rec) : q6e (l.filter p) ≤ q6e l := qg5 ((List.filter_sublist (p := p) (l := l)).map wtK)
theorem z6y (ka kb : Ent → Bool) {A B : List Ent} : ∀ n, (qek (q7i ka kb n A B)).length ≤ A.length + B.length := fun n => qaa ka kb n A B
theorem z79 (a b : Swt) : wtS (q2w a b) ≤ 16 + wtS a + wtS b := by
 unfold wtS q2w
 have h1 : (q3r (q4p a b) (qek (q2q a b))).length ≤ a.live.length + b.live.length := Nat.le_trans (List.length_filter_le _ _) (z6y _ _ _)
 have h2 := q9m [a.past, b.past]
 have h3 : q6e (q16 (q4p a b) (q1v [a.past, b.past])) ≤ q6e a.defer + q6e b.defer := by
  refine Nat.le_trans (qpw _ _) (Nat.le_trans (qfz _) ?_)
  rw [qrl]
  exact Nat.le_refl _
 simp only [List.map_cons, List.map_nil, List.sum_cons, List.sum_nil] at h2
 simp only
 omega

def zeb : List SOp := [zO 2 (.assign (.const (.slice none 0 0)))]
instance : Live zeb := ⟨[0]⟩
def zea : List SOp := [zM 3 0,zO 4 (.binOp .eql 22 (.tmp 3) (.const (.slice none 0 0)) 22)]
instance : Live zea := ⟨[0]⟩
def ze9 : List SOp := [zO 2 (.assign (.const (.slice none 0 0)))]
instance : Live ze9 := ⟨[]⟩
def ze8 : List SOp := [zO 5 (.buildSlice 22 0 #[]),zM 6 0,zO 7 (.call ⟨.builtin .append,#[.tmp 5,.tmp 6],#[22,22]⟩),zG 2 7]
instance : Live ze8 := ⟨[0]⟩
def t_k63 : SC :=
 (.seq (.ops false zeb) (.seq (.seq (.ops false zea) (.cond (.tmp 4) (.seq (.ops false ze9) .ret) .skip)) (.seq (.ops false ze8) .ret)))
theorem it_k63 : FnIs Tryz.prog 63 8 [.tmp 2] t_k63 := ⟨Tryz.f63, _, Tryz.func63, rfl, rfl, rfl, rfl, by kernel_rfl⟩

def zcl : List SOp := [zO 2 (.assign (.const (.slice none 0 0)))]
instance : Live zcl := ⟨[0]⟩
def zck : List SOp := [zM 3 0,zO 4 (.binOp .eql 27 (.tmp 3) (.const (.slice none 0 0)) 27)]
instance : Live zck := ⟨[0]⟩
def zcj : List SOp := [zO 2 (.assign (.const (.slice none 0 0)))]
instance : Live zcj := ⟨[]⟩
def zci : List SOp := [zO 5 (.buildSlice 27 0 #[]),zM 6 0,zO 7 (.call ⟨.builtin .append,#[.tmp 5,.tmp 6],#[27,27]⟩),zG 2 7]
instance : Live zci := ⟨[0]⟩
def t_k95 : SC :=
 (.seq (.ops false zcl) (.seq (.seq (.ops false zck) (.cond (.tmp 4) (.seq (.ops false zcj) .ret) .skip)) (.seq (.ops false zci) .ret)))
theorem it_k95 : FnIs Tryz.prog 95 8 [.tmp 2] t_k95 := ⟨Tryz.f95, _, Tryz.func95, rfl, rfl, rfl, rfl, by kernel_rfl⟩

def zgs : List SOp := [zO 2 (.alloc 26),zO 3 (.assign (.const (.int .i64 0)))]
instance : Live zgs := ⟨[0]⟩
def zgr : List SOp := [zM 7 0,zO 8 (.call ⟨.value (.func 53),#[.tmp 7],#[22]⟩),zO 9 (.binOp .neq 32 (.tmp 8) (.const (.int .i64 0)) 32)]
instance : Live zgr := ⟨[0,2]⟩
def zgq : List SOp := [zO 10 (.build 26 #[]),⟨none,.store 26 (.tmp 2) (.tmp 10),none⟩,zO 3 (.assign (.const (.int .i64 1)))]
instance : Live zgq := ⟨[2]⟩
def zgp : List SOp := [zM 11 0,zO 12 (.call ⟨.builtin .len,#[.tmp 11],#[22]⟩),zO 13 (.makeSlice 38 (.tmp 12) (.tmp 12)),zG 4 13]
instance : Live zgp := ⟨[0,2]⟩
def zgo : List SOp := [zM 14 0,zO 15 (.call ⟨.builtin .len,#[.tmp 14],#[22]⟩),zO 16 (.move (.const (.int .i64 0)))]
instance : Live zgo := ⟨[0,2,4]⟩
def zgn : List SOp := [zO 17 (.binOp .lss 3 (.tmp 16) (.tmp 15) 3)]
instance : Live zgn := ⟨[2,4,14,15,16]⟩
def zgm : List SOp := [zM 18 16,zI 19 22 14 16,zL 20 62 19,zO 6 (.alloc 62),zG 5 18,⟨none,.store 62 (.tmp 6) (.tmp 20),none⟩]
instance : Live zgm := ⟨[2,4,14,15,16]⟩
def zgl : List SOp := [zM 21 4,zM 22 5,zF 23 62 6 0,zL 24 41 23,zI 25 38 21 22,⟨none,.store 41 (.tmp 25) (.tmp 24),none⟩]
instance : Live zgl := ⟨[2,4,5,6,14,15,16]⟩
def zgk : List SOp := [zO 26 (.binOp .add 3 (.tmp 16) (.const (.int .i64 1)) 3),zM 16 26]
instance : Live zgk := ⟨[2,4,14,15,16]⟩
def qtt : List SOp := [zM 27 4,zO 28 (.call ⟨.value (.func 94),#[.tmp 27],#[38]⟩),⟨none,.store 26 (.tmp 2) (.tmp 28),none⟩,zO 3 (.assign (.const (.int .i64 0)))]
instance : Live qtt := ⟨[2,4]⟩
def qs7 : SC :=
 (.seq (.ops false zgn) (.seq (.cond (.tmp 17) .skip (.exit 0)) (.seq (.block 1 (.seq (.ops false zgm) (.ops false zgl))) (.ops false zgk))))
def t_k47 : SC :=
 (.seq (.ops false zgs) (.seq (.seq (.ops false zgr) (.cond (.tmp 9) (.seq (.ops false zgq) .ret) .skip)) (.seq (.ops false zgp) (.seq (.seq (.ops false zgo) (.block 0 (.loop qs7))) (.seq (.ops false qtt) .ret)))))
theorem it_k47 : FnIs Tryz.prog 47 29 [.cell 2 26, .tmp 3] t_k47 := ⟨Tryz.f47, _, Tryz.func47, rfl, rfl, rfl, rfl, by kernel_rfl⟩

def zgj : List SOp := [zO 1 (.box 31 (.tmp 0)),zO 2 (.alloc 31)]
instance : Live zgj := ⟨[0]⟩
def zgi : List SOp := [zF 6 31 1 0,zL 7 22 6,zO 8 (.call ⟨.value (.func 63),#[.tmp 7],#[22]⟩),zF 9 31 1 1,zL 10 26 9,zO 11 (.call ⟨.value (.func 64),#[.tmp 10],#[26]⟩),zF 12 31 1 2,zL 13 27 12,zO 14 (.call ⟨.value (.func 95),#[.tmp 13],#[27]⟩),zO 15 (.build 31 #[(0,.tmp 8),(1,.tmp 11),(2,.tmp 14)]),zO 3 (.alloc 31),⟨none,.store 31 (.tmp 3) (.tmp 15),none⟩]
instance : Live zgi := ⟨[1,2]⟩
def zgh : List SOp := [zF 16 31 3 2,zL 17 27 16,zO 18 (.call ⟨.builtin .len,#[.tmp 17],#[27]⟩),zO 19 (.move (.const (.int .i64 0)))]
instance : Live zgh := ⟨[2,3]⟩
def zgg : List SOp := [zO 20 (.binOp .lss 3 (.tmp 19) (.tmp 18) 3)]
instance : Live zgg := ⟨[2,3,17,18,19]⟩
def zgf : List SOp := [zM 21 19,zI 22 27 17 19,zL 23 91 22,zO 5 (.alloc 91),zG 4 21,⟨none,.store 91 (.tmp 5) (.tmp 23),none⟩]
instance : Live zgf := ⟨[2,3,17,18,19]⟩
def zge : List SOp := [zF 24 31 3 2,zL 25 27 24,zM 26 4,zF 27 91 5 1,zL 28 26 27,zO 29 (.call ⟨.value (.func 64),#[.tmp 28],#[26]⟩),zI 30 27 25 26,zF 31 91 30 1,⟨none,.store 26 (.tmp 31) (.tmp 29),none⟩]
instance : Live zge := ⟨[2,3,4,5,17,18,19]⟩
def zgd : List SOp := [zO 32 (.binOp .add 3 (.tmp 19) (.const (.int .i64 1)) 3),zM 19 32]
instance : Live zgd := ⟨[2,3,17,18,19]⟩
def zgc : List SOp := [zL 33 31 3,⟨none,.store 31 (.tmp 2) (.tmp 33),none⟩]
instance : Live zgc := ⟨[2,3]⟩
def qs6 : SC :=
 (.seq (.ops false zgg) (.seq (.cond (.tmp 20) .skip (.exit 0)) (.seq (.block 1 (.seq (.ops false zgf) (.ops true zge))) (.ops false zgd))))
def t_k48 : SC :=
 (.seq (.ops false zgj) (.seq (.ops true zgi) (.seq (.seq (.ops false zgh) (.block 0 (.loop qs6))) (.seq (.ops false zgc) .ret))))
theorem it_k48 : FnIs Tryz.prog 48 34 [.cell 2 31] t_k48 := ⟨Tryz.f48, _, Tryz.func48, rfl, rfl, rfl, rfl, by kernel_rfl⟩

end Go.Proofs.YthejoeiecenjkaaGreat.Avm
