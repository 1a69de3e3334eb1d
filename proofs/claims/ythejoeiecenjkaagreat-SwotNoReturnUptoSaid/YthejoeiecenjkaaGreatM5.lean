/- Part 5 of the proof: lemmas. -/
import Derived.Test.YthejoeiecenjkaaGreatM4
import Derived.Test.YthejoeiecenjkaaGreatProg
import Derived.KernelRfl
import Derived.Shelf.SlSortCmp.NoneTotal
set_option maxRecDepth 100000
set_option maxHeartbeats 4000000
set_option linter.unusedVariables false
set_option linter.unusedSimpArgs false
set_option linter.unusedSectionVars false
set_option linter.defProp false
namespace Go.Proofs.YthejoeiecenjkaaGreat.Avm
open Go.Proofs
theorem ev_k101 (e : Ent) : Ev (En Tryz.prog rfl).P 101 [q93 e] (.ret (.int .i64 (q25 e))) := by
 refine Ev.of_body it_k101 (by simp) (Run.start ?_)
 unfold t_k101 q93 q25
 have c1 := qrf e.sku
 generalize q7j e.sku = v at c1 ⊢
 by_cases h1 : e.rep < 0 ∨ 16 ≤ e.rep
 ·rw [if_pos h1]
  rcases h1 with h1 | h1
  all_goals
   (have hF := True.intro; refine q01 (k:=?_); clear hF)
  all_goals first | exact Fin.tmp' rfl rfl | (exfalso; omega)
 ·rw [if_neg h1]
  by_cases h2 : e.num < 1 ∨ 1000000000 < e.num
  ·rw [if_pos h2]
   rcases h2 with h2 | h2
   all_goals
    (have hF := True.intro; refine q01 (k:=?_); clear hF)
   all_goals first | exact Fin.tmp' rfl rfl | (exfalso; omega)
  ·rw [if_neg h2]
   (have hF := True.intro; refine q01 (k:=?_); clear hF)
   all_goals
    refine q00 [.str e.sku] (he := c1) (k:=?_)
    cases v
    case' false =>
     rw [if_pos rfl]
     (have hF := True.intro; refine q01 (k:=?_); clear hF)
     exact Fin.tmp' rfl rfl
    case' true =>
     rw [if_neg (by decide)]
     by_cases h3 : e.qty < 1 ∨ 1000000 < e.qty
     ·rw [if_pos h3]
      rcases h3 with h3 | h3
      all_goals
       (have hF := True.intro; refine q01 (k:=?_); clear hF)
      all_goals first | exact Fin.tmp' rfl rfl | (exfalso; omega)
     ·rw [if_neg h3]
      (have hF := True.intro; refine q01 (k:=?_); clear hF)
      all_goals first | exact Fin.tmp' rfl rfl | (exfalso; omega)
theorem ev_k102 (a b : Rn) : Ev (En Tryz.prog rfl).P 102 [q37 a, q37 b] (.ret (.bool (q2y a b))) := by
 refine Ev.of_body it_k102 (by simp) (Run.start ?_)
 unfold t_k102 q37 q2y
 by_cases h1 : a.1 < b.1
 ·rw [show (decide (a.1 < b.1) || (decide (a.1 = b.1) && decide (a.2 < b.2))) = true by simp [h1]]
  (have hF := True.intro; refine q01 (k:=?_); clear hF)
  exact Fin.tmp' rfl rfl
 ·by_cases h2 : a.1 = b.1
  ·rw [show (decide (a.1 < b.1) || (decide (a.1 = b.1) && decide (a.2 < b.2))) = decide (a.2 < b.2) by simp [h1, h2]]
   (have hF := True.intro; refine q01 (k:=?_); clear hF)
   exact Fin.tmp' rfl rfl
  ·rw [show (decide (a.1 < b.1) || (decide (a.1 = b.1) && decide (a.2 < b.2))) = false by simp [h1, h2]]
   (have hF := True.intro; refine q01 (k:=?_); clear hF)
   exact Fin.tmp' rfl rfl
theorem zlk (d : Rn) : Ev (En Tryz.prog rfl).P 111 [q37 d] (.ret (.bool (q3u d.1 d.2))) := by
 refine Ev.of_body it_k111 (by simp) (Run.start ?_)
 unfold t_k111 q37 q3u
 by_cases h1 : 0 ≤ d.1 <;> by_cases h2 : d.1 < 16 <;> by_cases h3 : 1 ≤ d.2 <;> by_cases h4 : d.2 ≤ 1000000000
 all_goals
  simp only [h1, h2, h3, h4, decide_true, decide_false, Bool.and_true, Bool.and_false, Bool.true_and, Bool.false_and]
  (have hF := True.intro; refine q01 (k:=?_); clear hF)
  all_goals first | exact Fin.tmp' rfl rfl | (exfalso; omega)
theorem qfx {l : List Ent} {i : Nat} {r : Ent} (hr : l[i]? = some r) (hI : (∀ (j : Nat) q, j < i → l[j]? = some q → q25 q = 0) ∧ ∀ (j : Nat) a b, j + 1 < i → l[j]? = some a → l[j + 1]? = some b → q2y a.dot b.dot = true) (h0 : q25 r = 0)
 (h1 : ∀ q, 0 < i → l[i - 1]? = some q → q2y q.dot r.dot = true) : (∀ (j : Nat) q, j < i + 1 → l[j]? = some q → q25 q = 0) ∧ ∀ (j : Nat) a b, j + 1 < i + 1 → l[j]? = some a → l[j + 1]? = some b → q2y a.dot b.dot = true := by
 refine ⟨fun j q hj hq => ?_, fun j a b hj ha hb => ?_⟩
 ·by_cases e : j = i
  ·subst e; rw [hr] at hq; cases hq; exact h0
  ·exact hI.1 j q (by omega) hq
 ·by_cases e : j + 1 = i
  ·subst e
   rw [hr] at hb
   cases hb
   exact h1 a (by omega) (by simpa using ha)
  ·exact hI.2 j a b (by omega) ha hb
theorem qp5 {l : List Ent} {i : Nat} (hi : l.length ≤ i) (hI : (∀ (j : Nat) q, j < i → l[j]? = some q → q25 q = 0) ∧ ∀ (j : Nat) a b, j + 1 < i → l[j]? = some a → l[j + 1]? = some b → q2y a.dot b.dot = true) : q6z l :=
 ⟨fun j q hq => hI.1 j q (by
  rcases Nat.lt_or_ge j l.length with h | h
  ·omega
  ·rw [List.getElem?_eq_none h] at hq; cases hq) hq, fun j a b ha hb => hI.2 j a b (by
  rcases Nat.lt_or_ge (j + 1) l.length with h | h
  ·omega
  ·rw [List.getElem?_eq_none h] at hb; cases hb) ha hb⟩
theorem qpd (l : List Ent) (hl : l.length ≤ 1000000000) : Ev (En Tryz.prog rfl).P 53 [.sl 4 (q0e l)] (.ret (.int .i64 (if q7k l = true then 0 else 1))) := by
 refine Ev.of_body it_k53 (by simp) (Run.start ?_)
 unfold t_k53
 have e1 := q0m l
 have hS := qq9
 (have hF := @e1; refine q01 (k:=?_); clear hF)
 refine Run.while (σ := Nat) (fun i => ⟨tms [(0, .sl 4 (q0e l)), (5, .sl 4 (q0e l)), (6, .int .i64 (l.length : Int)), (7, .int .i64 (i : Int))], mms []⟩)
  (fun i => i ≤ l.length ∧ (∀ (j : Nat) q, j < i → l[j]? = some q → q25 q = 0) ∧ ∀ (j : Nat) a b, j + 1 < i → l[j]? = some a → l[j + 1]? = some b → q2y a.dot b.dot = true) (fun i => l.length - i) 0 (have hW := @q06; q0f) ⟨Nat.zero_le _, fun j q hj => absurd hj (Nat.not_lt_zero _), fun j a b hj => by omega⟩ ?_
 rintro i ⟨hi, hI⟩
 unfold qsp
 by_cases hlt : i < l.length
 ·obtain ⟨r, hr⟩ : ∃ r, l[i]? = some r := ⟨l[i], by simp [hlt]⟩
  have g1 := q0u hr
  have c1 := ev_k101 r
  have hst := fun h0 h1 => qfx hr hI h0 h1
  have hbad : q25 r ≠ 0 → ¬ q6z l := fun h hf => h (hf.1 i r hr)
  generalize q25 r = v at c1 hst hbad
  (have hF := (aI @e1 @g1); refine q01 (k:=?_); clear hF)
  refine q00 [q93 r] (he := c1) (k:=?_)
  by_cases hv : v = 0
  ·by_cases h0 : i = 0
   ·have hst := hst hv (fun q hq => by omega)
    have h0' : (i : Int) = 0 := by omega
    (have hF := (aI (aI @e1 @g1) (aI @hv @h0')); refine q01 (k:=?_); clear hF)
    have hi1 : ((0 : Int) + 1) = ((i + 1 : Nat) : Int) := by omega
    (refine Fin.nextW (i + 1) ?_ (have hW := (aI @q06 @hi1); q0f); (try dsimp only))
    exact ⟨⟨hlt, hst⟩, by omega⟩
   ·obtain ⟨q, hq⟩ : ∃ q, l[i - 1]? = some q := ⟨l[i - 1]'(by omega), by simp [show i - 1 < l.length by omega]⟩
    have g2 := q0u hq
    have hpw : IntKind.i64.wrap ((i : Int) - 1) = ((i - 1 : Nat) : Int) := by rw [q2o (by omega)]; omega
    have c2 := ev_k102 q.dot r.dot
    have hst := hst hv
    have hbad2 : q2y q.dot r.dot = false → ¬ q6z l := fun h hf => by
     have := hf.2 (i - 1) q r hq (by rw [show i - 1 + 1 = i by omega]; exact hr)
     rw [h] at this
     cases this
    have hst : q2y q.dot r.dot = true → _ := fun h => hst (fun q' _ hq' => by rw [hq] at hq'; cases hq'; exact h)
    generalize q2y q.dot r.dot = u at c2 hst hbad2
    (have hF := (aI (aI @e1 @g1) (aI @g2 (aI @hv @hpw))); refine q01 (k:=?_); clear hF)
    refine q00 [q37 q.dot, q37 r.dot] (he := c2) (k:=?_)
    cases u
    ·rw [q7a (hbad2 rfl)]
     (have hF := (aI @e1 @g1); refine q01 (k:=?_); clear hF)
     exact Fin.tmp' rfl rfl
    ·have hst := hst rfl
     (have hF := (aI @e1 @g1); refine q01 (k:=?_); clear hF)
     (refine Fin.nextW (i + 1) ?_ (have hW := @q06; q0f); (try dsimp only))
     exact ⟨⟨hlt, hst⟩, by omega⟩
  ·rw [q7a (hbad hv)]
   (have hF := (aI @e1 (aI @g1 @hv)); refine q01 (k:=?_); clear hF)
   exact Fin.tmp' rfl rfl
 ·rw [q50 (qp5 (by omega) hI)]
  (have hF := @e1; refine q01 (k:=?_); clear hF)
  exact Fin.tmp' rfl rfl
theorem z9p (e : Ent) : q25 e = 0 ↔ q3u e.rep e.num = true ∧ q7j e.sku = true ∧ ¬ e.qty < 1 ∧ ¬ 1000000 < e.qty := by
 rw [qa9]
 unfold q25
 split
 ·constructor
  ·intro h; simp at h
  ·intro h; omega
 ·split
  ·constructor
   ·intro h; simp at h
   ·intro h; omega
  ·split
   ·rename_i h
    constructor
    ·intro h; simp at h
    ·intro h'; rw [h] at h'; simp at h'
   ·rename_i h
    split
    ·constructor
     ·intro h; simp at h
     ·intro h; omega
    ·constructor
     ·intro _; exact ⟨by omega, by simpa using h, by omega, by omega⟩
     ·intro _; rfl

def zeq : List SOp := [⟨some 2,.box 26 (.tmp 0),none⟩,⟨some 3,.box 41 (.tmp 1),none⟩,⟨some 4,.assign (.const (.bool false)),none⟩]
instance : Live zeq := ⟨[0,1]⟩
def zep : List SOp := [⟨some 7,.load 41 (.tmp 3),none⟩,⟨some 8,.call ⟨.value (.func 111),#[.tmp 7],#[41]⟩,none⟩,⟨some 9,.unOp .not 4 (.tmp 8),none⟩]
instance : Live zep := ⟨[2,3]⟩
def zeo : List SOp := [⟨some 4,.assign (.const (.bool false)),none⟩]
instance : Live zeo := ⟨[]⟩
def zen : List SOp := [⟨some 10,.fieldAddr 41 (.tmp 3) 0,none⟩,⟨some 11,.load 3 (.tmp 10),none⟩,⟨some 12,.fieldAddr 26 (.tmp 2) 0,none⟩,⟨some 13,.load 23 (.tmp 12),none⟩,⟨some 14,.call ⟨.builtin .len,#[.tmp 13],#[23]⟩,none⟩,⟨some 15,.binOp .lss 3 (.tmp 11) (.tmp 14) 3,none⟩,⟨some 16,.move (.tmp 15),none⟩,⟨some 17,.fieldAddr 41 (.tmp 3) 1,some ((some 16),true)⟩,⟨some 18,.load 3 (.tmp 17),some ((some 16),true)⟩,⟨some 19,.fieldAddr 26 (.tmp 2) 0,some ((some 16),true)⟩,⟨some 20,.load 23 (.tmp 19),some ((some 16),true)⟩,⟨some 21,.fieldAddr 41 (.tmp 3) 0,some ((some 16),true)⟩,⟨some 22,.load 3 (.tmp 21),some ((some 16),true)⟩,⟨some 23,.indexAddr 23 (.tmp 20) (.tmp 22),some ((some 16),true)⟩,⟨some 24,.load 3 (.tmp 23),some ((some 16),true)⟩,⟨some 25,.binOp .leq 3 (.tmp 18) (.tmp 24) 3,some ((some 16),true)⟩,⟨some 26,.pick (.tmp 16) (.tmp 25) (.const (.bool false)),none⟩]
instance : Live zen := ⟨[2,3]⟩
def zem : List SOp := [⟨some 4,.assign (.const (.bool true)),none⟩]
instance : Live zem := ⟨[]⟩
def zel : List SOp := [⟨some 5,.assign (.const (.int .i64 0)),none⟩]
instance : Live zel := ⟨[2,3]⟩
def zek : List SOp := [⟨some 27,.move (.tmp 5),none⟩,⟨some 28,.fieldAddr 26 (.tmp 2) 1,none⟩,⟨some 29,.load 24 (.tmp 28),none⟩,⟨some 30,.call ⟨.builtin .len,#[.tmp 29],#[24]⟩,none⟩,⟨some 31,.binOp .lss 3 (.tmp 27) (.tmp 30) 3,none⟩]
instance : Live zek := ⟨[2,3,5]⟩
def zej : List SOp := [⟨some 34,.fieldAddr 26 (.tmp 2) 1,none⟩,⟨some 35,.load 24 (.tmp 34),none⟩,⟨some 36,.move (.tmp 5),none⟩,⟨some 37,.indexAddr 24 (.tmp 35) (.tmp 36),none⟩,⟨some 38,.load 127 (.tmp 37),none⟩,⟨some 6,.alloc 127,none⟩,⟨none,.store 127 (.tmp 6) (.tmp 38),none⟩]
instance : Live zej := ⟨[2,3,5]⟩
def zei : List SOp := [⟨some 39,.fieldAddr 127 (.tmp 6) 0,none⟩,⟨some 40,.load 3 (.tmp 39),none⟩,⟨some 41,.fieldAddr 41 (.tmp 3) 0,none⟩,⟨some 42,.load 3 (.tmp 41),none⟩,⟨some 43,.binOp .eql 3 (.tmp 40) (.tmp 42) 3,none⟩,⟨some 44,.move (.tmp 43),none⟩,⟨some 45,.fieldAddr 127 (.tmp 6) 1,some ((some 44),true)⟩,⟨some 46,.load 3 (.tmp 45),some ((some 44),true)⟩,⟨some 47,.fieldAddr 41 (.tmp 3) 1,some ((some 44),true)⟩,⟨some 48,.load 3 (.tmp 47),some ((some 44),true)⟩,⟨some 49,.binOp .leq 3 (.tmp 46) (.tmp 48) 3,some ((some 44),true)⟩,⟨some 50,.pick (.tmp 44) (.tmp 49) (.const (.bool false)),none⟩,⟨some 51,.move (.tmp 50),none⟩,⟨some 52,.fieldAddr 41 (.tmp 3) 1,some ((some 51),true)⟩,⟨some 53,.load 3 (.tmp 52),some ((some 51),true)⟩,⟨some 54,.fieldAddr 127 (.tmp 6) 2,some ((some 51),true)⟩,⟨some 55,.load 3 (.tmp 54),some ((some 51),true)⟩,⟨some 56,.binOp .leq 3 (.tmp 53) (.tmp 55) 3,some ((some 51),true)⟩,⟨some 57,.pick (.tmp 51) (.tmp 56) (.const (.bool false)),none⟩]
instance : Live zei := ⟨[2,3,5,6]⟩
def qu6 : List SOp := [⟨some 4,.assign (.const (.bool true)),none⟩]
instance : Live qu6 := ⟨[]⟩
def qu5 : List SOp := [⟨some 32,.move (.tmp 5),none⟩,⟨some 33,.binOp .add 3 (.tmp 32) (.const (.int .i64 1)) 3,none⟩,⟨some 5,.assign (.tmp 33),none⟩]
instance : Live qu5 := ⟨[2,3,5]⟩
def qu4 : List SOp := [⟨some 4,.assign (.const (.bool false)),none⟩]
instance : Live qu4 := ⟨[]⟩
def qsk : SC :=
 (.seq (.seq (.ops false zek) (.cond (.tmp 31) .skip (.exit 0))) (.seq (.block 1 (.seq (.ops false zej) (.seq (.ops false zei) (.cond (.tmp 57) (.seq (.ops false qu6) .ret) .skip)))) (.ops false qu5)))
def t_k62 : SC :=
 (.seq (.ops false zeq) (.seq (.seq (.ops false zep) (.cond (.tmp 9) (.seq (.ops false zeo) .ret) .skip)) (.seq (.seq (.ops true zen) (.cond (.tmp 26) (.seq (.ops false zem) .ret) .skip)) (.seq (.seq (.ops false zel) (.block 0 (.loop qsk))) (.seq (.ops false qu4) .ret)))))
theorem it_k62 : FnIs Tryz.prog 62 58 [.tmp 4] t_k62 := ⟨Tryz.f62, _, Tryz.func62, rfl, rfl, rfl, rfl, by kernel_rfl⟩

def z1a : List SOp := [⟨some 2,.box 91 (.tmp 0),none⟩,⟨some 3,.box 62 (.tmp 1),none⟩,⟨some 4,.assign (.const (.bool false)),none⟩]
instance : Live z1a := ⟨[0,1]⟩
def z19 : List SOp := [⟨some 5,.fieldAddr 91 (.tmp 2) 0,none⟩,⟨some 6,.load 9 (.tmp 5),none⟩,⟨some 7,.binOp .eql 9 (.tmp 6) (.const (.string ⟨#[]⟩)) 9,none⟩,⟨some 8,.move (.tmp 7),none⟩,⟨some 9,.fieldAddr 91 (.tmp 2) 0,some ((some 8),false)⟩,⟨some 10,.load 9 (.tmp 9),some ((some 8),false)⟩,⟨some 11,.fieldAddr 62 (.tmp 3) 1,some ((some 8),false)⟩,⟨some 12,.load 9 (.tmp 11),some ((some 8),false)⟩,⟨some 13,.binOp .eql 9 (.tmp 10) (.tmp 12) 9,some ((some 8),false)⟩,⟨some 14,.pick (.tmp 8) (.const (.bool true)) (.tmp 13),none⟩,⟨some 15,.move (.tmp 14),none⟩,⟨some 16,.fieldAddr 91 (.tmp 2) 1,some ((some 15),true)⟩,⟨some 17,.load 26 (.tmp 16),some ((some 15),true)⟩,⟨some 18,.fieldAddr 62 (.tmp 3) 0,some ((some 15),true)⟩,⟨some 19,.load 41 (.tmp 18),some ((some 15),true)⟩,⟨some 20,.call ⟨.value (.func 51),#[.tmp 17,.tmp 19],#[26,41]⟩,some ((some 15),true)⟩,⟨some 21,.pick (.tmp 15) (.tmp 20) (.const (.bool false)),none⟩,⟨some 4,.assign (.tmp 21),none⟩]
instance : Live z19 := ⟨[2,3]⟩
def t_k141 : SC :=
 (.seq (.ops false z1a) (.seq (.ops false z19) .ret))
theorem it_k141 : FnIs Tryz.prog 141 22 [.tmp 4] t_k141 := ⟨Tryz.f141, _, Tryz.func141, rfl, rfl, rfl, rfl, by kernel_rfl⟩

def z58 : List SOp := [⟨some 3,.box 62 (.tmp 1),none⟩,⟨some 4,.assign (.const (.int .i64 0)),none⟩]
instance : Live z58 := ⟨[0,1]⟩
def z57 : List SOp := [⟨some 5,.assign (.const (.int .i64 0)),none⟩]
instance : Live z57 := ⟨[0,3]⟩
def z56 : List SOp := [⟨some 8,.move (.tmp 0),none⟩,⟨some 9,.call ⟨.builtin .len,#[.tmp 8],#[27]⟩,none⟩,⟨some 10,.move (.const (.int .i64 0)),none⟩]
instance : Live z56 := ⟨[0,3,5]⟩
def z54 : List SOp := [⟨some 11,.binOp .lss 3 (.tmp 10) (.tmp 9) 3,none⟩]
instance : Live z54 := ⟨[3,5,8,9,10]⟩
def z52 : List SOp := [⟨some 12,.indexAddr 27 (.tmp 8) (.tmp 10),none⟩,⟨some 13,.load 91 (.tmp 12),none⟩,⟨some 7,.alloc 91,none⟩,⟨none,.store 91 (.tmp 7) (.tmp 13),none⟩]
instance : Live z52 := ⟨[3,5,8,9,10]⟩
def z51 : List SOp := [⟨some 14,.load 91 (.tmp 7),none⟩,⟨some 15,.load 62 (.tmp 3),none⟩,⟨some 16,.call ⟨.value (.func 141),#[.tmp 14,.tmp 15],#[91,62]⟩,none⟩]
instance : Live z51 := ⟨[3,5,7,8,9,10]⟩
def z4z : List SOp := [⟨some 17,.move (.tmp 5),none⟩,⟨some 18,.binOp .add 3 (.tmp 17) (.const (.int .i64 1)) 3,none⟩,⟨some 5,.assign (.tmp 18),none⟩]
instance : Live z4z := ⟨[3,5,8,9,10]⟩
def z4y : List SOp := [⟨some 19,.binOp .add 3 (.tmp 10) (.const (.int .i64 1)) 3,none⟩,⟨some 10,.move (.tmp 19),none⟩]
instance : Live z4y := ⟨[3,5,8,9,10]⟩
def z4x : List SOp := [⟨some 20,.move (.tmp 5),none⟩,⟨some 4,.assign (.tmp 20),none⟩]
instance : Live z4x := ⟨[5]⟩
def qjx : SC :=
 (.seq (.ops false z54) (.seq (.cond (.tmp 11) .skip (.exit 0)) (.seq (.block 1 (.seq (.ops false z52) (.seq (.ops false z51) (.cond (.tmp 16) (.ops false z4z) .skip)))) (.ops false z4y))))
def t_k110 : SC :=
 (.seq (.ops false z58) (.seq (.ops false z57) (.seq (.seq (.ops false z56) (.block 0 (.loop qjx))) (.seq (.ops false z4x) .ret))))
theorem it_k110 : FnIs Tryz.prog 110 21 [.tmp 4] t_k110 := ⟨Tryz.f110, _, Tryz.func110, rfl, rfl, rfl, rfl, by kernel_rfl⟩

def z5j : List SOp := [⟨some 1,.box 91 (.tmp 0),none⟩,⟨some 2,.alloc 91,none⟩]
instance : Live z5j := ⟨[0]⟩
def z5i : List SOp := [⟨some 3,.fieldAddr 91 (.tmp 1) 0,none⟩,⟨some 4,.load 9 (.tmp 3),none⟩,⟨some 5,.fieldAddr 91 (.tmp 1) 1,none⟩,⟨some 6,.load 26 (.tmp 5),none⟩,⟨some 7,.call ⟨.value (.func 64),#[.tmp 6],#[26]⟩,none⟩,⟨some 8,.build 91 #[(0,.tmp 4),(1,.tmp 7)],none⟩,⟨none,.store 91 (.tmp 2) (.tmp 8),none⟩]
instance : Live z5i := ⟨[1,2]⟩
def t_k108 : SC :=
 (.seq (.ops false z5j) (.seq (.ops true z5i) .ret))
theorem it_k108 : FnIs Tryz.prog 108 9 [.cell 2 91] t_k108 := ⟨Tryz.f108, _, Tryz.func108, rfl, rfl, rfl, rfl, by kernel_rfl⟩

theorem any_take {α : Type} {l : List α} {f : α → Bool} (i : Nat) (h : ∀ x ∈ l.take i, f x = false) (hi : l.length ≤ i) : l.any f = false := by
 rw [List.any_eq_false]
 intro x hx
 rw [List.take_of_length_le hi] at h
 simp [h x hx]
theorem q4w {α : Type} {l : List α} {q : α → Prop} {i : Nat} {x : α} (hx : l[i]? = some x) (h : ∀ y ∈ l.take i, q y) (hq : q x) : ∀ y ∈ l.take (i + 1), q y := by
 intro y hy
 rw [List.take_add_one, hx] at hy
 rcases List.mem_append.1 hy with hy | hy
 ·exact h y hy
 ·simp at hy; subst hy; exact hq
theorem ev_k62 (p : Pst) (d : Rn) (hw : wt p ≤ 900000000) : Ev (En Tryz.prog rfl).P 62 [q0h p, q37 d] (.ret (.bool (q1c p d))) := by
 refine Ev.of_body it_k62 (by simp) (Run.start ?_)
 have hwt : wt p = p.vec.length + p.cloud.length := rfl
 have e0 : (q05 p.vec).length = p.vec.length := q0g _
 have e9 : (q0c p.cloud).length = p.cloud.length := q1h _
 unfold t_k62 q0h q37
 have c1 := zlk d
 generalize hv : q1c p d = v
 unfold q1c at hv
 (have hF := (aI @e0 @e9); refine q01 (k:=?_); clear hF)
 refine q00 [q37 d] (he := c1) (k:=?_)
 cases c0 : q3u d.1 d.2
 ·rw [c0, Bool.false_and] at hv
  subst hv
  (have hF := (aI @e0 @e9); refine q01 (k:=?_); clear hF)
  exact Fin.tmp' rfl rfl
 ·have hd : 0 ≤ d.1 ∧ d.1 < 16 := by simp [q3u] at c0; omega
  rw [c0, Bool.true_and] at hv
  obtain ⟨r, hr⟩ : ∃ r : Nat, d.1 = r := ⟨d.1.toNat, by omega⟩
  cases c2 : (decide (d.1 < p.vec.length) && decide (d.2 ≤ q1o p.vec d.1.toNat))
  case' true =>
   rw [c2, Bool.true_or] at hv
   subst hv
   simp only [Bool.and_eq_true, decide_eq_true_eq] at c2
   have hrl : r < p.vec.length := by omega
   have e1 : (q05 p.vec)[r]? = some (.int .i64 (q1o p.vec r)) := q0y (by simp [q1o, hrl])
   have c3 := c2.2
   rw [hr, Int.toNat_natCast] at c3
   rw [hr]
   (have hF := (aI (aI @e0 @e9) (aI @e1 (aI @hrl @c3))); refine q01 (k:=?_); clear hF)
   exact Fin.tmp' rfl rfl
  case' false =>
   rw [c2, Bool.false_or] at hv
   rw [hr] at c2 ⊢
   rw [Int.toNat_natCast] at c2
   by_cases h1 : (r : Int) < (p.vec.length : Int)
   case' pos =>
    have hrl : r < p.vec.length := by omega
    have e1 : (q05 p.vec)[r]? = some (.int .i64 (q1o p.vec r)) := q0y (by simp [q1o, hrl])
    have c3 : ¬ d.2 ≤ q1o p.vec r := by simpa [h1] using c2
    (have hF := (aI (aI @e0 @e9) (aI @e1 (aI @h1 @c3))); refine q01 (k:=?_); clear hF)
   case' neg =>
    (have hF := (aI @e0 (aI @e9 @h1)); refine q01 (k:=?_); clear hF)
   all_goals
    refine Run.while (σ := Nat) (fun i => ⟨tms [(2, .ptr 2 0), (3, .ptr 3 0), (5, .int .i64 (i : Int))], mms [(2, .cells [.sl 1 (q05 p.vec), .sl 3 (q0c p.cloud)]), (3, .cells [.int .i64 r, .int .i64 d.2])]⟩)
     (fun i => i ≤ p.cloud.length ∧ ∀ s ∈ p.cloud.take i, zaf d s = false) (fun i => p.cloud.length - i) 0 (have hW := True.intro; q0f) ⟨Nat.zero_le _, by simp⟩ ?_
    rintro i ⟨hi, hI⟩
    unfold qsk
    by_cases hlt : i < p.cloud.length
    ·obtain ⟨s, hs⟩ : ∃ s, p.cloud[i]? = some s := ⟨p.cloud[i], by simp [hlt]⟩
     have g1 : (q0c p.cloud)[i]? = some (.agg [.int .i64 s.1, .int .i64 s.2.1, .int .i64 s.2.2]) := q2h hs
     by_cases k1 : s.1 = r
     ·by_cases k2 : s.2.1 ≤ d.2
      ·by_cases k3 : d.2 ≤ s.2.2
       ·have hu : v = true := by
         rw [← hv, List.any_eq_true]
         exact ⟨s, List.mem_of_getElem? hs, by simp [zaf, hr, k1, k2, k3]⟩
        rw [hu]
        (have hF := (aI (aI @e0 (aI @e9 @g1)) (aI @k1 (aI @k2 @k3))); refine q01 (k:=?_); clear hF)
        exact Fin.tmp' rfl rfl
       ·(have hF := (aI (aI @e0 (aI @e9 @g1)) (aI @k1 (aI @k2 @k3))); refine q01 (k:=?_); clear hF)
        (refine Fin.nextW (i + 1) ?_ (have hW := True.intro; q0f); (try dsimp only))
        exact ⟨⟨hlt, q4w hs hI (by simp [zaf, hr, k1, k2, k3])⟩, by omega⟩
      ·(have hF := (aI (aI @e0 @e9) (aI @g1 (aI @k1 @k2))); refine q01 (k:=?_); clear hF)
       (refine Fin.nextW (i + 1) ?_ (have hW := True.intro; q0f); (try dsimp only))
       exact ⟨⟨hlt, q4w hs hI (by simp [zaf, hr, k1, k2])⟩, by omega⟩
     ·(have hF := (aI (aI @e0 @e9) (aI @g1 @k1)); refine q01 (k:=?_); clear hF)
      (refine Fin.nextW (i + 1) ?_ (have hW := True.intro; q0f); (try dsimp only))
      exact ⟨⟨hlt, q4w hs hI (by simp [zaf, hr, k1])⟩, by omega⟩
    ·have hu : v = false := by
      rw [← hv]
      exact any_take i hI (by omega)
     rw [hu]
     (have hF := (aI @e0 @e9); refine q01 (k:=?_); clear hF)
     exact Fin.tmp' rfl rfl
def qb8 (r : Rec) (e : Ent) : Bool := (decide (r.sku.size = 0) || decide (r.sku = e.sku)) && q1c r.past e.dot
theorem ev_k141 (r : Rec) (e : Ent) (hw : wt r.past ≤ 900000000) : Ev (En Tryz.prog rfl).P 141 [q5n r, q93 e] (.ret (.bool (qb8 r e))) := by
 refine Ev.of_body it_k141 (by simp) (Run.start ?_)
 unfold t_k141 q5n q93 qb8
 have es := q7p r.sku
 have c1 := qpe r.past e.dot hw
 generalize q1c r.past e.dot = v at c1 ⊢
 by_cases h0 : r.sku.size = 0
 ·rw [decide_eq_true h0, Bool.true_or, Bool.true_and]
  rw [eq_true h0] at es
  (have hF := @es; refine q01 (k:=?_); clear hF)
  refine q00 [q0h r.past, q37 e.dot] (he := c1) (k:=?_)
  (have hF := True.intro; refine q01 (k:=?_); clear hF)
  exact Fin.tmp' rfl rfl
 ·rw [decide_eq_false h0, Bool.false_or]
  rw [eq_false h0] at es
  by_cases h1 : r.sku = e.sku
  ·rw [decide_eq_true h1, Bool.true_and]
   have es2 := es
   rw [h1] at es2
   (have hF := (aI @es (aI @h1 @es2)); refine q01 (k:=?_); clear hF)
   refine q00 [q0h r.past, q37 e.dot] (he := c1) (k:=?_)
   (have hF := True.intro; refine q01 (k:=?_); clear hF)
   exact Fin.tmp' rfl rfl
  ·rw [decide_eq_false h1, Bool.false_and]
   (have hF := (aI @es @h1); refine q01 (k:=?_); clear hF)
   exact Fin.tmp' rfl rfl
def q88 (l : List Rec) (e : Ent) : Nat := (l.filter fun r => qb8 r e).length
theorem za4 {l : List Rec} {i : Nat} {r : Rec} (h : l[i]? = some r) (e : Ent) : q88 (l.take (i + 1)) e = q88 (l.take i) e + if qb8 r e = true then 1 else 0 := by
 unfold q88
 rw [List.take_add_one, h, List.filter_append]
 cases hc : qb8 r e <;> simp [hc]
theorem z7z (l : List Rec) (e : Ent) : q88 l e ≤ l.length := List.length_filter_le _ _
theorem ev_k110 (l : List Rec) (e : Ent) (hl : l.length ≤ 900000000) (hw : ∀ r ∈ l, wt r.past ≤ 900000000) : Ev (En Tryz.prog rfl).P 110 [.sl 3 (q09 l), q93 e] (.ret (.int .i64 (q88 l e))) := by
 refine Ev.of_body it_k110 (by simp) (Run.start ?_)
 unfold t_k110 q93
 have e1 := q0p l
 have hS := qq9
 (have hF := @e1; refine q01 (k:=?_); clear hF)
 refine Run.while (σ := Nat) (fun i => ⟨tms [(3, .ptr 3 0), (5, .int .i64 (q88 (l.take i) e : Nat)), (8, .sl 3 (q09 l)), (9, .int .i64 l.length), (10, .int .i64 (i : Int))], mms [(3, .cells [.int .i64 e.rep, .int .i64 e.num, .str e.sku, .int .i64 e.qty])]⟩)
  (fun i => i ≤ l.length) (fun i => l.length - i) 0 (have hW := @q02; q0f) (Nat.zero_le _) ?_
 intro i hi
 unfold qjx
 by_cases hlt : i < l.length
 ·obtain ⟨r, hr⟩ : ∃ r, l[i]? = some r := ⟨l[i], by simp [hlt]⟩
  have g1 := q15 hr
  have c1 := ev_k141 r e (hw r (List.mem_of_getElem? hr))
  have hn := za4 hr e
  have hle := z7z (l.take i) e
  have hlt' : (l.take i).length ≤ l.length := by rw [List.length_take]; omega
  generalize q88 (l.take i) e = n at hn hle ⊢
  cases hc : qb8 r e <;> rw [hc] at hn c1 <;> simp only [if_true, Bool.false_eq_true, if_false] at hn
  ·(have hF := (aI @e1 @g1); refine q01 (k:=?_); clear hF)
   refine q00 [q5n r, q93 e] (he := c1) (k:=?_)
   (have hF := (aI @e1 @g1); refine q01 (k:=?_); clear hF)
   (refine Fin.nextW (i + 1) ?_ (have hW := (aI @q02 @hn); q0f); (try dsimp only))
   omega
  ·(have hF := (aI @e1 @g1); refine q01 (k:=?_); clear hF)
   refine q00 [q5n r, q93 e] (he := c1) (k:=?_)
   (have hF := (aI @e1 @g1); refine q01 (k:=?_); clear hF)
   (refine Fin.nextW (i + 1) ?_ (have hW := (aI @q02 @hn); q0f); (try dsimp only))
   omega
 ·have : l.take i = l := List.take_of_length_le (by omega)
  rw [this]
  (have hF := @e1; refine q01 (k:=?_); clear hF)
  exact Fin.tmp' rfl rfl
theorem qrg (r : Rec) (hw : wt r.past ≤ 50000000) : Ev (En Tryz.prog rfl).P 108 [q5n r] (.ret (q5n ⟨r.sku, q1a r.past⟩)) := by
 refine Ev.of_body it_k108 (by simp) (Run.start ?_)
 unfold t_k108 q5n
 have c1 := qfz r.past hw
 have hS := qq9
 (have hF := True.intro; refine q01 (k:=?_); clear hF)
 refine q00 [q0h r.past] (he := c1) (k:=?_)
 unfold q0h
 (have hF := True.intro; refine q01 (k:=?_); clear hF)
 exact Fin.all rfl (by simp [q0j, AVal.stb, q03, q04, fzc, q5w]) rfl

def z5h : List SOp := [⟨some 2,.assign (.const (.slice none 0 0)),none⟩,⟨some 3,.assign (.const (.int .i64 0)),none⟩]
instance : Live z5h := ⟨[0]⟩
def z5g : List SOp := [⟨some 10,.move (.tmp 0),none⟩,⟨some 11,.call ⟨.value (.func 55),#[.tmp 10],#[27]⟩,none⟩,⟨some 12,.binOp .neq 32 (.tmp 11) (.const (.int .i64 0)) 32,none⟩]
instance : Live z5g := ⟨[0]⟩
def z5f : List SOp := [⟨some 2,.assign (.const (.slice none 0 0)),none⟩,⟨some 3,.assign (.const (.int .i64 1)),none⟩]
instance : Live z5f := ⟨[]⟩
def z5e : List SOp := [⟨some 4,.alloc 26,none⟩]
instance : Live z5e := ⟨[0]⟩
def z5d : List SOp := [⟨some 5,.assign (.const (.slice none 0 0)),none⟩]
instance : Live z5d := ⟨[0,4]⟩
def z5c : List SOp := [⟨some 6,.assign (.const (.int .i64 0)),none⟩]
instance : Live z5c := ⟨[0,4,5]⟩
def z5b : List SOp := [⟨some 13,.move (.tmp 6),none⟩,⟨some 14,.move (.tmp 0),none⟩,⟨some 15,.call ⟨.builtin .len,#[.tmp 14],#[27]⟩,none⟩,⟨some 16,.binOp .lss 3 (.tmp 13) (.tmp 15) 3,none⟩]
instance : Live z5b := ⟨[0,4,5,6]⟩
def z5a : List SOp := [⟨some 17,.move (.tmp 6),none⟩,⟨some 7,.assign (.tmp 17),none⟩]
instance : Live z5a := ⟨[0,4,5,6]⟩
def z59 : List SOp := [⟨some 8,.assign (.const (.slice none 0 0)),none⟩]
instance : Live z59 := ⟨[0,4,5,6,7]⟩
def qoj : List SOp := [⟨some 18,.move (.tmp 7),none⟩,⟨some 19,.move (.tmp 0),none⟩,⟨some 20,.call ⟨.builtin .len,#[.tmp 19],#[27]⟩,none⟩,⟨some 21,.binOp .lss 3 (.tmp 18) (.tmp 20) 3,none⟩,⟨some 22,.move (.tmp 21),none⟩,⟨some 23,.move (.tmp 0),some ((some 22),true)⟩,⟨some 24,.move (.tmp 7),some ((some 22),true)⟩,⟨some 25,.indexAddr 27 (.tmp 23) (.tmp 24),some ((some 22),true)⟩,⟨some 26,.fieldAddr 91 (.tmp 25) 0,some ((some 22),true)⟩,⟨some 27,.load 9 (.tmp 26),some ((some 22),true)⟩,⟨some 28,.move (.tmp 0),some ((some 22),true)⟩,⟨some 29,.move (.tmp 6),some ((some 22),true)⟩,⟨some 30,.indexAddr 27 (.tmp 28) (.tmp 29),some ((some 22),true)⟩,⟨some 31,.fieldAddr 91 (.tmp 30) 0,some ((some 22),true)⟩,⟨some 32,.load 9 (.tmp 31),some ((some 22),true)⟩,⟨some 33,.binOp .eql 9 (.tmp 27) (.tmp 32) 9,some ((some 22),true)⟩,⟨some 34,.pick (.tmp 22) (.tmp 33) (.const (.bool false)),none⟩]
instance : Live qoj := ⟨[0,4,5,6,7,8]⟩
def qoi : List SOp := [⟨some 35,.move (.tmp 8),none⟩,⟨some 36,.move (.tmp 0),none⟩,⟨some 37,.move (.tmp 7),none⟩,⟨some 38,.indexAddr 27 (.tmp 36) (.tmp 37),none⟩,⟨some 39,.fieldAddr 91 (.tmp 38) 1,none⟩,⟨some 40,.load 26 (.tmp 39),none⟩,⟨some 41,.buildSlice 116 1 #[(0,.tmp 40)],none⟩,⟨some 42,.call ⟨.builtin .append,#[.tmp 35,.tmp 41],#[116,116]⟩,none⟩,⟨some 8,.assign (.tmp 42),none⟩]
instance : Live qoi := ⟨[0,4,5,6,7,8]⟩
def qoh : List SOp := [⟨some 43,.move (.tmp 7),none⟩,⟨some 44,.binOp .add 3 (.tmp 43) (.const (.int .i64 1)) 3,none⟩,⟨some 7,.assign (.tmp 44),none⟩]
instance : Live qoh := ⟨[0,4,5,6,7,8]⟩
def qog : List SOp := [⟨some 45,.move (.tmp 0),none⟩,⟨some 46,.move (.tmp 6),none⟩,⟨some 47,.indexAddr 27 (.tmp 45) (.tmp 46),none⟩,⟨some 48,.fieldAddr 91 (.tmp 47) 0,none⟩,⟨some 49,.load 9 (.tmp 48),none⟩,⟨some 50,.move (.tmp 8),none⟩,⟨some 51,.call ⟨.value (.func 49),#[.tmp 50],#[116]⟩,none⟩,⟨some 52,.build 91 #[(0,.tmp 49),(1,.tmp 51)],none⟩,⟨some 9,.alloc 91,none⟩,⟨none,.store 91 (.tmp 9) (.tmp 52),none⟩]
instance : Live qog := ⟨[0,4,5,6,7,8]⟩
def qof : List SOp := [⟨some 53,.fieldAddr 91 (.tmp 9) 0,none⟩,⟨some 54,.load 9 (.tmp 53),none⟩,⟨some 55,.binOp .eql 9 (.tmp 54) (.const (.string ⟨#[]⟩)) 9,none⟩]
instance : Live qof := ⟨[0,4,5,7,9]⟩
def qoe : List SOp := [⟨some 56,.fieldAddr 91 (.tmp 9) 1,none⟩,⟨some 57,.load 26 (.tmp 56),none⟩,⟨none,.store 26 (.tmp 4) (.tmp 57),none⟩]
instance : Live qoe := ⟨[0,4,5,7,9]⟩
def qod : List SOp := [⟨some 58,.fieldAddr 91 (.tmp 9) 1,none⟩,⟨some 59,.load 26 (.tmp 58),none⟩,⟨some 60,.load 26 (.tmp 4),none⟩,⟨some 61,.call ⟨.value (.func 140),#[.tmp 59,.tmp 60],#[26,26]⟩,none⟩,⟨some 62,.fieldAddr 91 (.tmp 9) 1,none⟩,⟨none,.store 26 (.tmp 62) (.tmp 61),none⟩]
instance : Live qod := ⟨[0,4,5,7,9]⟩
def qoc : List SOp := [⟨some 63,.fieldAddr 91 (.tmp 9) 1,none⟩,⟨some 64,.load 26 (.tmp 63),none⟩,⟨some 65,.call ⟨.value (.func 92),#[.tmp 64],#[26]⟩,none⟩,⟨some 66,.unOp .not 4 (.tmp 65),none⟩]
instance : Live qoc := ⟨[0,4,5,7,9]⟩
def qob : List SOp := [⟨some 67,.move (.tmp 5),none⟩,⟨some 68,.load 91 (.tmp 9),none⟩,⟨some 69,.buildSlice 27 1 #[(0,.tmp 68)],none⟩,⟨some 70,.call ⟨.builtin .append,#[.tmp 67,.tmp 69],#[27,27]⟩,none⟩,⟨some 5,.assign (.tmp 70),none⟩]
instance : Live qob := ⟨[0,4,5,7,9]⟩
def qoa : List SOp := [⟨some 71,.move (.tmp 7),none⟩,⟨some 6,.assign (.tmp 71),none⟩]
instance : Live qoa := ⟨[0,4,5,7]⟩
def qo9 : List SOp := [⟨some 72,.move (.tmp 5),none⟩,⟨some 73,.call ⟨.builtin .len,#[.tmp 72],#[27]⟩,none⟩,⟨some 74,.binOp .gtr 3 (.tmp 73) (.const (.int .i64 0)) 3,none⟩,⟨some 75,.move (.tmp 74),none⟩,⟨some 76,.move (.tmp 5),some ((some 75),true)⟩,⟨some 77,.indexAddr 27 (.tmp 76) (.const (.int .i64 0)),some ((some 75),true)⟩,⟨some 78,.fieldAddr 91 (.tmp 77) 0,some ((some 75),true)⟩,⟨some 79,.load 9 (.tmp 78),some ((some 75),true)⟩,⟨some 80,.binOp .eql 9 (.tmp 79) (.const (.string ⟨#[]⟩)) 9,some ((some 75),true)⟩,⟨some 81,.pick (.tmp 75) (.tmp 80) (.const (.bool false)),none⟩]
instance : Live qo9 := ⟨[5]⟩
def qo8 : List SOp := [⟨some 82,.move (.tmp 5),none⟩,⟨some 83,.move (.tmp 5),none⟩,⟨some 84,.indexAddr 27 (.tmp 83) (.const (.int .i64 0)),none⟩,⟨some 85,.load 91 (.tmp 84),none⟩,⟨some 86,.call ⟨.value (.func 108),#[.tmp 85],#[91]⟩,none⟩,⟨some 87,.indexAddr 27 (.tmp 82) (.const (.int .i64 0)),none⟩,⟨none,.store 91 (.tmp 87) (.tmp 86),none⟩]
instance : Live qo8 := ⟨[5]⟩
def qo7 : List SOp := [⟨some 88,.move (.tmp 5),none⟩,⟨some 2,.assign (.tmp 88),none⟩,⟨some 3,.assign (.const (.int .i64 0)),none⟩]
instance : Live qo7 := ⟨[5]⟩
def qjy : SC :=
 (.seq (.seq (.ops true qoj) (.cond (.tmp 34) .skip (.exit 2))) (.block 3 (.seq (.ops false qoi) (.ops false qoh))))
def qjz : SC :=
 (.seq (.seq (.ops false z5b) (.cond (.tmp 16) .skip (.exit 0))) (.block 1 (.seq (.ops false z5a) (.seq (.ops false z59) (.seq (.block 2 (.loop qjy)) (.seq (.ops true qog) (.seq (.seq (.ops false qof) (.cond (.tmp 55) (.ops false qoe) (.ops false qod))) (.seq (.seq (.ops false qoc) (.cond (.tmp 66) (.ops false qob) .skip)) (.ops false qoa)))))))))
def t_k109 : SC :=
 (.seq (.ops false z5h) (.seq (.seq (.ops false z5g) (.cond (.tmp 12) (.seq (.ops false z5f) .ret) .skip)) (.seq (.ops false z5e) (.seq (.ops false z5d) (.seq (.seq (.ops false z5c) (.block 0 (.loop qjz))) (.seq (.seq (.ops false qo9) (.cond (.tmp 81) (.ops false qo8) .skip)) (.seq (.ops false qo7) .ret)))))))
theorem it_k109 : FnIs Tryz.prog 109 89 [.tmp 2, .tmp 3] t_k109 := ⟨Tryz.f109, _, Tryz.func109, rfl, rfl, rfl, rfl, by kernel_rfl⟩

def q12 (s : ByteArray) (r : Rec) : Bool := decide (r.sku = s)
def z99 (l : List Rec) : List Rec := match l with | [] => [] | r :: t => l.takeWhile (q12 r.sku)
def q2p (l : List Rec) : Pst := q1t ((z99 l).map (·.past))
def z6y (all : Pst) (s : ByteArray) (p : Pst) : Pst := if s.size = 0 then p else q2t p all
def za7 (all : Pst) (s : ByteArray) (p : Pst) : Pst := if s.size = 0 then p else all
def qik (s : ByteArray) (p : Pst) : List Rec := if q3i p = 0 then [] else [⟨s, p⟩]
def q5j : Nat → List Rec → Pst → List Rec
 | 0, _, _ => []
 | n + 1, [], _ => []
 | n + 1, r :: l, all => qik r.sku (z6y all r.sku (q2p (r :: l))) ++ q5j n ((r :: l).dropWhile (q12 r.sku)) (za7 all r.sku (q2p (r :: l)))
def qho : List Rec → List Rec
 | [] => []
 | r :: l => if r.sku.size = 0 then ⟨r.sku, q1a r.past⟩ :: l else r :: l
def q9f (l : List Rec) : List Rec := qho (q5j l.length l ⟨[], []⟩)
theorem q6b {α : Type} {p : α → Bool} : ∀ {l : List α} {m : Nat}, (∀ x ∈ l.take m, p x = true) → (∀ x, l[m]? = some x → p x = false) → l.takeWhile p = l.take m ∧ l.dropWhile p = l.drop m
 | [], m, _, _ => by simp
 | x :: l, 0, _, h => by
  have := h x rfl
  simp [List.takeWhile, List.dropWhile, this]
 | x :: l, m + 1, h, h' => by
  have hx : p x = true := h x (by simp)
  have ih := q6b (l := l) (m := m) (fun y hy => h y (by simp [hy])) (fun y hy => h' y (by simpa using hy))
  simp [List.takeWhile, List.dropWhile, hx, ih]
theorem qgo {l m : List Nat} (h : l.Sublist m) : l.sum ≤ m.sum := by
 induction h with
 | slnil => exact Nat.le_refl _
 | cons a h ih => simp only [List.sum_cons]; omega
 | cons_cons a h ih => simp only [List.sum_cons]; omega
theorem wts_le {l m : List Rec} (h : l.Sublist m) : ((l.map (·.past)).map wt).sum ≤ q6m m := by
 have h1 : ∀ l : List Rec, ((l.map (·.past)).map wt).sum ≤ q6m l := by
  intro l
  induction l with
  | nil => exact Nat.le_refl _
  | cons r l ih => unfold q6m at *; simp only [List.map_cons, List.sum_cons, wtK] at *; omega
 exact Nat.le_trans (h1 l) (qgo (h.map wtK))
theorem qrp (l : List Pst) (v : List Int) (c : List Sn) : q1r l ++ [.agg [.sl 1 (q05 v), .sl 3 (q0c c)]] = q1r (l ++ [⟨v, c⟩]) := by simp [q1r, q0h]
theorem Wk.give {n u k e sz : Nat} {xs : List AVal} {l1 : List (Nat × AVal)} {m1 : List (Nat × ABlk)} (hn : qq5 (fun j => j == k) l1) (hb : qrx (fun j => j == k) m1) (h0 : mms m1 k = none) (hx : q0j xs = true) :
 Wk n ⟨tms ((u, .os k e) :: l1), mms ((k, .arr e sz xs) :: m1)⟩ ⟨tms ((u, .sl sz xs) :: l1), mms m1⟩ := by
 intro B G a w hR
 have hM1 : (fun j => if (j == k) = true then none else mms ((k, .arr e sz xs) :: m1) j) = mms m1 := by
  funext j
  by_cases hj : j = k
  ·subst hj; simp [h0]
  ·simp [hj, mms, q18]
 have hblk : ∀ {l : List (Nat × ABlk)}, qrx (fun j => j == k) l → ∀ j blk, mms l j = some blk → blk.no (fun j => j == k) = true := by
  intro l
  induction l with
  | nil => intro _ j blk h; cases h
  | cons p l ih =>
   obtain ⟨q, v⟩ := p
   intro h j blk hj
   simp only [mms] at hj
   by_cases hjq : j = q
   ·subst hjq; rw [q0a] at hj; cases hj; exact h.1
   ·rw [q18 _ _ hjq] at hj; exact ih h.2 j blk hj
 have htm := zaq (qif hn)
 refine ⟨G.without fun j => j == k, ⟨hR.size, hR.defers, fun t => ?_, fun j blk hj => ?_, fun b hb => ⟨(hR.fr b hb).1, q13 (hR.fr b hb).2⟩, fun b hb => hR.ol b fun hn => hb (q13 hn)⟩,
  ⟨⟨rfl, Nat.le_refl _⟩, rfl, rfl, Nat.le_refl _, fun b _ ho => ⟨rfl, q13 ho⟩⟩⟩
 ·have hv := hR.temps t
  simp only [tms] at hv ⊢
  rw [← hM1]
  by_cases ht : t = u
  ·subst ht
   rw [q0a] at hv ⊢
   have h1 := qrc (K := fun j => j == k) hR.mem hv
   have h2 : fz (fun j => j == k) (mms ((k, .arr e sz xs) :: m1)) (.os k e) = .sl sz xs := by
    simp [fz, fzc, mms, q0a]
   rw [h2] at h1
   exact h1.stable (fun b _ hb ho => ⟨rfl, hb, ho⟩) hx
  ·rw [q18 _ _ ht] at hv ⊢
   exact hv.drop (htm t)
 ·change mms m1 j = some blk at hj
  have hjk : j ≠ k := fun h => by subst h; rw [h0] at hj; cases hj
  have hj' : mms ((k, .arr e sz xs) :: m1) j = some blk := by simp only [mms]; rw [q18 _ _ hjk]; exact hj
  have h0' := hR.mem j blk hj'
  have hno := hblk hb j blk hj
  have hK' : (j == k) = false := by simp [hjk]
  rw [← hM1]
  cases blk with
  | cells cs =>
   obtain ⟨c, el, b1, b2, b3, b4, b5⟩ := h0'
   refine ⟨c, el, by simp [Gh.without, b1, OKey.of, hjk], b2, b3, b4, fun i x hx => ?_⟩
   obtain ⟨u, hu, hr⟩ := b5 i x hx
   exact ⟨u, hu, hr.drop hK' (List.all_eq_true.1 hno x (List.mem_of_getElem? hx))⟩
  | arr e sz xs =>
   rcases h0' with h | ⟨b, o, cap, c, el, h1, h2, h3, h4, h5, h6, h7, h7', h8⟩
   ·exact .inl h
   ·exact .inr ⟨b, o, cap, c, el, h1, h2, by simp [Gh.without, h3, OKey.of, hjk], h4, h5, h6, h7, h7', fun n y hy => let ⟨u, hu, hr⟩ := h8 n y hy; ⟨u, hu, hr.drop (List.all_eq_true.1 hno y (List.mem_of_getElem? hy))⟩⟩
  | dead => trivial
  | map es =>
   obtain ⟨es', clock, b1, b2, b3, b4, b5⟩ := h0'
   refine ⟨es', clock, by simp [Gh.without, b1, OKey.of, hjk], b2, b3, b4, fun i p hp => ?_⟩
   obtain ⟨q, hq, r1, r2⟩ := b5 i p hp
   have := List.all_eq_true.1 hno p (List.mem_of_getElem? hp)
   rw [Bool.and_eq_true] at this
   exact ⟨q, hq, r1.drop this.1, r2.drop this.2⟩
structure FoS where
 i : Nat
 all : Pst
 out : List Rec
theorem qpb (l : List Rec) (W : Nat) (hW : W ≤ 5000000) (hl : l.length ≤ 5000000) (hwr : ∀ r ∈ l, wt r.past ≤ W) (hg0 : ∀ (i m : Nat) (s : ByteArray), (∀ x ∈ (l.drop i).take m, q12 s x = true) → ((((l.drop i).take m).map (·.past)).map wt).sum ≤ W) : Ev (En Tryz.prog rfl).P 109 [.sl 3 (q09 l)] (.ret (.tup [.sl 3 (q09 (if q3m l = true then q9f l else [])), .int .i64 (if q3m l = true then 0 else 1)])) := by
 refine Ev.of_body it_k109 (by simp) (Run.start ?_)
 unfold t_k109
 have e1 := q0p l
 have hS := qq9
 have c1 := q35 l (by omega) (fun r hr => by have := hwr r hr; omega)
 (have hF := @e1; refine q01 (k:=?_); clear hF)
 refine q00 [.sl 3 (q09 l)] (he := c1) (k:=?_)
 by_cases hform : q3m l = true
 case' neg =>
  simp only [if_neg hform]
  (have hF := @e1; refine q01 (k:=?_); clear hF)
  exact Fin.two (x := .nil) (x' := .int .i64 1) rfl rfl rfl rfl (.inr ⟨rfl, 3, rfl⟩) (.inl rfl)
 case' pos =>
  simp only [if_pos hform]
  have hfk : q9f l = qho (q5j l.length l ⟨[], []⟩) := rfl
  have hR0 : [] ++ q5j l.length (l.drop 0) ⟨[], []⟩ = q5j l.length l ⟨[], []⟩ := rfl
  generalize q5j l.length l ⟨[], []⟩ = R at hfk hR0
  (have hF := @e1; refine q01 (k:=?_); clear hF)
  refine Run.wk (Wk.trans (Wk.own_nil 5 70 3 rfl rfl) (Wk.trans (Wk.own_cells (k := 4) (cs' := [.own 1 [], .own 3 []]) rfl rfl ?_) (Wk.freeze (k := 4) (cs := [.own 1 [], .own 3 []]) rfl))) ?_
  ·intro i x y hx hy
   match i with
   | 0 => simp at hx hy; subst hx; subst hy; exact .inr ⟨rfl, 1, rfl⟩
   | 1 => simp at hx hy; subst hx; subst hy; exact .inr ⟨rfl, 3, rfl⟩
   | i + 2 => simp at hx
  refine Run.while (σ := FoS) (fun z => ⟨tms [(0, .sl 3 (q09 l)), (4, .ptr 4 0), (5, .os 70 z.out.length), (6, .int .i64 (z.i : Int))], mms [(4, .cells [.sl 1 (q05 z.all.vec), .sl 3 (q0c z.all.cloud)]), (70, .arr z.out.length 3 (q09 z.out))]⟩)
   (fun z => z.i ≤ l.length ∧ z.out.length ≤ z.i ∧ wt z.all ≤ 16 + W ∧ (∃ n, l.length - z.i ≤ n ∧ z.out ++ q5j n (l.drop z.i) z.all = R) ∧ ∀ r ∈ z.out, wt r.past ≤ 64 + 2 * W) (fun z => l.length - z.i) ⟨0, ⟨[], []⟩, []⟩ (have hW := @q02; q0f) ⟨Nat.zero_le _, Nat.le_refl _, Nat.zero_le _, ⟨l.length, Nat.le_refl _, hR0⟩, fun r hr => absurd hr (by simp)⟩ ?_
  rintro ⟨i, all, out⟩ ⟨hi, ho, ha, ⟨n, hn, hf⟩, hwo⟩
  dsimp only at *
  unfold qjz
  have e2 := q0p out
  by_cases hlt : i < l.length
  ·obtain ⟨r, hr⟩ : ∃ r, l[i]? = some r := ⟨l[i], by simp [hlt]⟩
   have g1 := q15 hr
   (have hF := (aI @e1 (aI @e2 @g1)); refine q01 (k:=?_); clear hF)
   refine Run.wk (Wk.own_nil 8 42 2 rfl rfl) ?_
   refine Run.while (σ := Nat) (fun m => ⟨tms [(0, .sl 3 (q09 l)), (4, .ptr 4 0), (5, .os 70 out.length), (6, .int .i64 (i : Int)), (7, .int .i64 ((i + m : Nat) : Int)), (8, .os 42 m)], mms [(4, .cells [.sl 1 (q05 all.vec), .sl 3 (q0c all.cloud)]), (42, .arr m 2 (q1r (((l.drop i).take m).map (·.past)))), (70, .arr out.length 3 (q09 out))]⟩)
    (fun m => i + m ≤ l.length ∧ ∀ x ∈ (l.drop i).take m, q12 r.sku x = true) (fun m => l.length - i - m) 0 (have hW := @q02; q0f) ⟨by omega, fun x hx => absurd hx (by simp)⟩ ?_
   rintro m ⟨hm, hg⟩
   unfold qjy
   have hdr : (l.drop i)[m]? = l[i + m]? := by rw [List.getElem?_drop]
   have hrd : l.drop i = r :: l.drop (i + 1) := by
    have := List.drop_eq_getElem_cons hlt
    rw [this]
    simp only [List.getElem?_eq_getElem hlt, Option.some.injEq] at hr
    rw [hr]
   have hpl : (((l.drop i).take m).map (·.past)).length = m := by simp; omega
   have e3 := qaf (((l.drop i).take m).map (·.past))
   rw [hpl] at e3
   have hwp := hg0 i m r.sku hg
   by_cases hex : ∃ q, l[i + m]? = some q ∧ q.sku = r.sku
   ·obtain ⟨q, hq, hsk⟩ := hex
    have hjl : i + m < l.length := by
     rcases Nat.lt_or_ge (i + m) l.length with h | h
     ·exact h
     ·rw [List.getElem?_eq_none h] at hq; cases hq
    have g2 := q15 hq
    have hsn : ((l.drop i).take (m + 1)).map (·.past) = ((l.drop i).take m).map (·.past) ++ [q.past] := by
     rw [List.take_add_one, hdr, hq]
     simp
    (have hF := (aI (aI @e1 @e3) (aI @g1 (aI @g2 @hsk))); refine q01 (k:=?_); clear hF)
    (refine Fin.nextW (m + 1) ?_ (have hW := (aI @q02 (aI @hsn @qrp)); q0f); (try dsimp only))
    refine ⟨⟨hjl, q4w (by rw [hdr, hq]) hg (by simp [q12, hsk])⟩, by omega⟩
   refine Run.wk (Wk.trans (Wk.toL [(8, .os 42 m), (0, .sl 3 (q09 l)), (4, .ptr 4 0), (5, .os 70 out.length), (6, .int .i64 (i : Int)), (7, .int .i64 ((i + m : Nat) : Int))] [(42, .arr m 2 (q1r (((l.drop i).take m).map (·.past)))), (4, .cells [.sl 1 (q05 all.vec), .sl 3 (q0c all.cloud)]), (70, .arr out.length 3 (q09 out))] ⟨rfl, rfl, rfl, rfl, rfl, rfl, trivial⟩ ⟨rfl, rfl, rfl, trivial⟩ ⟨rfl, q1f (q02 l), rfl, rfl, rfl, rfl, trivial⟩ ⟨qge (q0b _), qal _ (by simp [q0j, AVal.stb, q03, q04]), qge (q02 _), trivial⟩) (Wk.give ⟨q1f (q02 l), rfl, rfl, rfl, rfl, trivial⟩ ⟨qal _ (by simp [q0j, AVal.stb, q03, q04]), qge (q02 _), trivial⟩ rfl (q0b _))) ?_
   have htw := q6b (p := q12 r.sku) hg (fun x hx => by rw [hdr] at hx; exact decide_eq_false fun h => hex ⟨x, hx, h⟩)
   by_cases hjl : i + m < l.length
   case' pos =>
    obtain ⟨q, hq⟩ : ∃ q, l[i + m]? = some q := ⟨l[i + m], by simp [hjl]⟩
    have g2 := q15 hq
    have hsk : ¬ q.sku = r.sku := fun h => hex ⟨q, hq, h⟩
    (have hF := (aI (aI @e1 @e3) (aI @g1 (aI @g2 @hsk))); refine q01 (k:=?_); clear hF)
   case' neg =>
    (have hF := (aI @e1 (aI @e3 @g1)); refine q01 (k:=?_); clear hF)
   all_goals
    have hm1 : 1 ≤ m := by
     rcases Nat.eq_zero_or_pos m with h0 | h0
     ·exfalso
      have := htw.1
      rw [h0, hrd] at this
      simp [List.takeWhile, q12] at this
     ·exact h0
    have hjg : q2p (r :: l.drop (i + 1)) = q1t (((l.drop i).take m).map (·.past)) := by
     unfold q2p z99
     rw [← hrd]
     have h2 := htw.1
     rw [hrd] at h2 ⊢
     simp only
     rw [h2]
    obtain ⟨n', rfl⟩ : ∃ n', n = n' + 1 := ⟨n - 1, by omega⟩
    rw [hrd] at hf
    unfold q5j at hf
    rw [hjg, ← hrd, htw.2, List.drop_drop] at hf
    have hjw := qa6 (((l.drop i).take m).map (·.past))
    generalize ((l.drop i).take m).map (·.past) = ps at *
    have c2 := ev_k49 ps (by omega) (by omega)
    refine q00 [.sl 2 (q1r ps)] (he := c2) (k:=?_)
    generalize q1t ps = p at *
    unfold q0h
    have es := q7p r.sku
    by_cases hz : r.sku.size = 0
    ·have hng : z6y all r.sku p = p := if_pos hz
     have hal : za7 all r.sku p = p := if_pos hz
     rw [hng, hal] at hf
     rw [eq_true hz] at es
     have c3 := z7l p (by omega)
     (have hF := (aI @e2 @es); refine q01 (k:=?_); clear hF)
     refine q00 [q0h p] (he := c3) (k:=?_)
     by_cases hs : q3i p = 0
     ·have hog : qik r.sku p = [] := if_pos hs
      rw [hog, List.nil_append] at hf
      rw [decide_eq_true hs]
      (have hF := @e2; refine q01 (k:=?_); clear hF)
      (refine Fin.nextW (⟨i + m, p, out⟩) ?_ (have hW := @q02; q0f); (try dsimp only))
      exact ⟨⟨hm, by omega, by omega, ⟨n', by omega, hf⟩, hwo⟩, by omega⟩
     ·have hog : qik r.sku p = [⟨r.sku, p⟩] := if_neg hs
      rw [hog, ← List.append_assoc] at hf
      rw [decide_eq_false hs]
      (have hF := @e2; refine q01 (k:=?_); clear hF)
      (refine Fin.nextW (⟨i + m, p, out ++ [⟨r.sku, p⟩]⟩) ?_ (have hW := (aI @q02 @q8k); q0f); (try dsimp only))
      refine ⟨⟨hm, by simp; omega, by omega, ⟨n', by omega, hf⟩, fun x hx => ?_⟩, by omega⟩
      rcases List.mem_append.1 hx with hx | hx
      ·exact hwo x hx
      ·simp at hx; subst hx; dsimp only; omega
    ·have hng : z6y all r.sku p = q2t p all := if_neg hz
     have hal : za7 all r.sku p = all := if_neg hz
     rw [hng, hal] at hf
     rw [eq_false hz] at es
     have c3 := ev_k140 p all (by omega) (by omega)
     have hmw := qdq p all
     (have hF := (aI @e2 @es); refine q01 (k:=?_); clear hF)
     refine q00 [q0h p, q0h all] (he := c3) (k:=?_)
     generalize q2t p all = p2 at *
     have c4 := z7l p2 (by omega)
     unfold q0h
     (have hF := @e2; refine q01 (k:=?_); clear hF)
     refine q00 [q0h p2] (he := c4) (k:=?_)
     by_cases hs : q3i p2 = 0
     ·have hog : qik r.sku p2 = [] := if_pos hs
      rw [hog, List.nil_append] at hf
      rw [decide_eq_true hs]
      (have hF := @e2; refine q01 (k:=?_); clear hF)
      (refine Fin.nextW (⟨i + m, all, out⟩) ?_ (have hW := @q02; q0f); (try dsimp only))
      exact ⟨⟨hm, by omega, by omega, ⟨n', by omega, hf⟩, hwo⟩, by omega⟩
     ·have hog : qik r.sku p2 = [⟨r.sku, p2⟩] := if_neg hs
      rw [hog, ← List.append_assoc] at hf
      rw [decide_eq_false hs]
      (have hF := @e2; refine q01 (k:=?_); clear hF)
      (refine Fin.nextW (⟨i + m, all, out ++ [⟨r.sku, p2⟩]⟩) ?_ (have hW := (aI @q02 @q8k); q0f); (try dsimp only))
      refine ⟨⟨hm, by simp; omega, by omega, ⟨n', by omega, hf⟩, fun x hx => ?_⟩, by omega⟩
      rcases List.mem_append.1 hx with hx | hx
      ·exact hwo x hx
      ·simp at hx; subst hx; dsimp only; omega
  ·have hfo : out = R := by
    rw [List.drop_eq_nil_of_le (by omega)] at hf
    rw [← hf]
    cases n <;> simp [q5j]
   rw [hfk, ← hfo]
   cases out with
   | nil =>
    (have hF := (aI @e1 @e2); refine q01 (k:=?_); clear hF)
    exact Fin.two (x := .sl 3 (q09 [])) rfl rfl rfl rfl (.inl rfl) (.inl rfl)
   | cons x out =>
    have es := q7p x.sku
    have g1 : (q09 (x :: out))[0]? = some (.agg [.str x.sku, .sl 1 (q05 x.past.vec), .sl 3 (q0c x.past.cloud)]) := rfl
    by_cases hz : x.sku.size = 0
    ·rw [show qho (x :: out) = ⟨x.sku, q1a x.past⟩ :: out from if_pos hz]
     rw [eq_true hz] at es
     have c4 := qrg x (by have := hwo x (by simp); omega)
     (have hF := (aI @e2 (aI @es @g1)); refine q01 (k:=?_); clear hF)
     refine q00 [q5n x] (he := c4) (k:=?_)
     (have hF := (aI @e2 (aI @es @g1)); refine q01 (k:=?_); clear hF)
     exact Fin.two (x := .sl 3 (q09 (⟨x.sku, q1a x.past⟩ :: out))) (by simp [fz, fzc, q5w, upd, tms, mms, q09, q5n]) (q02 _) rfl rfl (.inl rfl) (.inl rfl)
    ·rw [show qho (x :: out) = x :: out from if_neg hz]
     rw [eq_false hz] at es
     (have hF := (aI @e2 (aI @es @g1)); refine q01 (k:=?_); clear hF)
     exact Fin.two (x := .sl 3 (q09 (x :: out))) (by simp [fz, fzc, q5w, upd, tms, mms, q09, q5n]) (q02 _) rfl rfl (.inl rfl) (.inl rfl)
theorem ev_k109 (l : List Rec) (hw : q6m l ≤ 5000000) : Ev (En Tryz.prog rfl).P 109 [.sl 3 (q09 l)] (.ret (.tup [.sl 3 (q09 (if q3m l = true then q9f l else [])), .int .i64 (if q3m l = true then 0 else 1)])) := by
 have hlw := q8b l
 refine qpb l (q6m l) hw (by omega) (fun r hr => by have := qin hr; unfold wtK at this; omega) (fun i m s _ => ?_)
 exact Nat.le_trans (wts_le (List.take_sublist m (l.drop i))) (qgo ((List.drop_sublist i l).map wtK))

theorem q91 {p : Pst} {r : Nat} {n : Int} (h : inP p r n) : r < 16 := h.1
theorem has_norm (p : Pst) (d : Rn) : q1c (q1a p) d = q1c p d := qbc (by
 rw [q1s, q1s]
 exact ⟨fun h => ⟨h.1, (qhb p (q91 h.2) _).1 h.2⟩, fun h => ⟨h.1, (qhb p (q91 h.2) _).2 h.2⟩⟩)
theorem q4m (p q : Pst) (d : Rn) : q1c (q1t [p, q]) d = (q1c p d || q1c q d) := qbc (by
 rw [Bool.or_eq_true, q1s, q1s, q1s]
 constructor
 ·intro h
  have := (q65 [p, q] (q91 h.2) _).1 h.2
  simp only [List.mem_cons, List.not_mem_nil, or_false, exists_eq_or_imp, exists_eq_left] at this
  exact this.imp (fun x => ⟨h.1, x⟩) (fun x => ⟨h.1, x⟩)
 ·rintro (h | h)
  ·exact ⟨h.1, (q65 _ (q91 h.2) _).2 ⟨p, by simp, h.2⟩⟩
  ·exact ⟨h.1, (q65 _ (q91 h.2) _).2 ⟨q, by simp, h.2⟩⟩)
theorem z9b {p : Pst} {d : Rn} : (!q1c p d) = true ↔ ¬ (0 ≤ d.1 ∧ inP p d.1.toNat d.2) := by
 rw [← q1s]
 cases q1c p d <;> simp
theorem qaa (p q : Pst) (d : Rn) : q1c (q2t p q) d = (q1c p d && !q1c q d) := qbc (by
 rw [Bool.and_eq_true, q1s, q1s, z9b]
 constructor
 ·intro h
  have := (q7s p q (q91 h.2) _).1 h.2
  exact ⟨⟨h.1, this.1⟩, fun h' => this.2 h'.2⟩
 ·rintro ⟨h, h'⟩
  exact ⟨h.1, (q7s p q (q91 h.2) _).2 ⟨h.2, fun x => h' ⟨h.1, x⟩⟩⟩)
theorem z9a {p q : Pst} {d : Rn} (hw : q0n p q = true) (h : q1c p d = true) : q1c q d = true := by
 have h' := (q1s p d).1 h
 exact (q1s q d).2 ⟨h'.1, q2d.1 hw _ (q91 h'.2) _ h'.2⟩
theorem z7d {p : Pst} {d : Rn} (h : q1c p d = true) : 1 ≤ q3i p := by
 have h' := (q1s p d).1 h
 rw [qfh]
 have := qes h'.2.2.1 h'.2.2.2.1 h'.2 (q91 h'.2)
 omega

def SrtK (l : List Rec) : Prop := ∀ (i : Nat) a b, l[i]? = some a → l[i + 1]? = some b → q4b a b < 0
theorem SrtK.tail {t l : List Rec} (h : SrtK (t ++ l)) : SrtK l := fun i a b ha hb =>
 h (t.length + i) a b (by rw [List.getElem?_append_right (by omega)]; simpa using ha) (by rw [List.getElem?_append_right (by omega)]; rw [show t.length + i + 1 - t.length = i + 1 by omega]; exact hb)
theorem zmj (s : ByteArray) : (bs s).length = s.size := by simp [bs]
theorem sku_step {a b : Rec} (h : q4b a b < 0) (ha : a.sku.size ≠ 0) : b.sku.size ≠ 0 := by
 intro hb
 have h1 : bs b.sku = [] := by
  have := zmj b.sku
  rw [hb] at this
  exact List.length_eq_zero_iff.1 this
 have h2 : q9j a.sku b.sku = 1 := by
  unfold q9j
  rw [h1]
  cases h3 : bs a.sku with
  | nil =>
   have := zmj a.sku
   rw [h3] at this
   exact absurd this.symm ha
  | cons x l => rfl
 unfold q4b at h
 rw [h2] at h
 simp at h
theorem qqr : ∀ {l : List Rec} {r : Rec}, SrtK (r :: l) → r.sku.size ≠ 0 → ∀ x ∈ r :: l, x.sku.size ≠ 0
 | [], r, _, h, x, hx => by simp at hx; subst hx; exact h
 | q :: l, r, hs, h, x, hx => by
  rcases List.mem_cons.1 hx with rfl | hx
  ·exact h
  ·exact qqr (SrtK.tail (t := [r]) hs) (sku_step (hs 0 r q rfl rfl) h) x hx
theorem zkq (ps : List Pst) (d : Rn) : q1c (q1t ps) d = true ↔ ∃ p ∈ ps, q1c p d = true := by
 rw [q1s]
 constructor
 ·rintro ⟨h0, h⟩
  obtain ⟨p, hp, hi⟩ := (q65 ps h.1 _).1 h
  exact ⟨p, hp, (q1s p d).2 ⟨h0, hi⟩⟩
 ·rintro ⟨p, hp, h⟩
  obtain ⟨h0, hi⟩ := (q1s p d).1 h
  exact ⟨h0, (q65 ps hi.1 _).2 ⟨p, hp, hi⟩⟩
theorem zkp (d : Rn) : q1c ⟨[], []⟩ d = false := by
 unfold q1c
 simp
 intro h h1
 simp [q3u] at h
 omega
def q4u (l : List Rec) (e : Ent) : Prop := ∃ r ∈ l, qb8 r e = true
theorem q4h (l : List Rec) (e : Ent) : q88 l e = 0 ↔ ¬ q4u l e := by
 unfold q88 q4u
 rw [List.length_eq_zero_iff, List.filter_eq_nil_iff]
 constructor
 ·rintro h ⟨r, hr, hc⟩; exact h r hr hc
 ·intro h r hr hc; exact h ⟨r, hr, hc⟩
theorem qih (l m : List Rec) (e : Ent) : q4u (l ++ m) e ↔ q4u l e ∨ q4u m e := by
 unfold q4u
 constructor
 ·rintro ⟨r, hr, hc⟩
  rcases List.mem_append.1 hr with hr | hr
  ·exact .inl ⟨r, hr, hc⟩
  ·exact .inr ⟨r, hr, hc⟩
 ·rintro (⟨r, hr, hc⟩ | ⟨r, hr, hc⟩)
  ·exact ⟨r, by simp [hr], hc⟩
  ·exact ⟨r, by simp [hr], hc⟩
theorem q7c (r : Rec) (e : Ent) : qb8 r e = true ↔ (r.sku.size = 0 ∨ r.sku = e.sku) ∧ q1c r.past e.dot = true := by
 unfold qb8
 simp [Bool.and_eq_true, Bool.or_eq_true]
theorem z89 (s : ByteArray) (p : Pst) (e : Ent) : q4u (qik s p) e ↔ (s.size = 0 ∨ s = e.sku) ∧ q1c p e.dot = true := by
 unfold qik
 split
 ·rename_i h
  constructor
  ·rintro ⟨r, hr, _⟩; cases hr
  ·rintro ⟨_, h2⟩
   have := z7d h2
   omega
 ·constructor
  ·rintro ⟨r, hr, hc⟩
   simp at hr
   subst hr
   exact (q7c _ e).1 hc
  ·intro h
   exact ⟨⟨s, p⟩, by simp, (q7c _ e).2 h⟩
theorem qq7 {r : Rec} {l : List Rec} (e : Ent) : q4u ((r :: l).takeWhile (q12 r.sku)) e ↔ (r.sku.size = 0 ∨ r.sku = e.sku) ∧ q1c (q2p (r :: l)) e.dot = true := by
 have hall : ∀ x ∈ (r :: l).takeWhile (q12 r.sku), x.sku = r.sku := fun x hx => of_decide_eq_true (List.all_eq_true.1 (List.all_takeWhile (p := q12 r.sku)) x hx)
 unfold q2p z99
 rw [zkq]
 simp only [List.mem_map]
 constructor
 ·rintro ⟨x, hx, hc⟩
  have h := (q7c x e).1 hc
  rw [hall x hx] at h
  exact ⟨h.1, x.past, ⟨x, hx, rfl⟩, h.2⟩
 ·rintro ⟨h1, _, ⟨x, hx, rfl⟩, h2⟩
  exact ⟨x, hx, (q7c x e).2 ⟨by rw [hall x hx]; exact h1, h2⟩⟩
theorem qgh (r : Rec) (l : List Rec) (e : Ent) : q4u (r :: l) e ↔ q4u ((r :: l).takeWhile (q12 r.sku)) e ∨ q4u ((r :: l).dropWhile (q12 r.sku)) e := by
 rw [← qih, List.takeWhile_append_dropWhile]
theorem qi9 (r : Rec) (l : List Rec) : ((r :: l).dropWhile (q12 r.sku)).length ≤ l.length := by
 rw [List.dropWhile_cons_of_pos (by simp [q12])]
 exact (List.dropWhile_suffix _).length_le
theorem qea : ∀ (n : Nat) (L : List Rec) (all : Pst) (e : Ent), L.length ≤ n → (∀ x ∈ L, x.sku.size ≠ 0) → ((q4u (q5j n L all) e ∨ q1c all e.dot = true) ↔ (q4u L e ∨ q1c all e.dot = true))
 | 0, L, all, e, h, _ => by
  have : L = [] := List.length_eq_zero_iff.1 (by omega)
  subst this
  exact Iff.rfl
 | n + 1, [], all, e, _, _ => Iff.rfl
 | n + 1, r :: l, all, e, h, hne => by
  have hz := hne r (by simp)
  have hdl := qi9 r l
  have ih := qea n ((r :: l).dropWhile (q12 r.sku)) all e (by simp at h; omega) (fun x hx => hne x ((List.dropWhile_sublist _).subset hx))
  show (q4u (qik r.sku (z6y all r.sku (q2p (r :: l))) ++ q5j n ((r :: l).dropWhile (q12 r.sku)) (za7 all r.sku (q2p (r :: l)))) e ∨ _) ↔ _
  rw [show z6y all r.sku (q2p (r :: l)) = q2t (q2p (r :: l)) all from if_neg hz, show za7 all r.sku (q2p (r :: l)) = all from if_neg hz]
  rw [qih, z89, qgh, qq7, qaa]
  by_cases ha : q1c all e.dot = true
  ·simp [ha]
  ·have ha' : q1c all e.dot = false := by simpa using ha
   rw [ha'] at ih
   simp only [Bool.false_eq_true, or_false] at ih
   rw [ha', ih]
   simp
theorem zkv {l : List Rec} (hs : SrtK l) (e : Ent) : q4u (q9f l) e ↔ q4u l e := by
 have hh : ∀ m : List Rec, q4u (qho m) e ↔ q4u m e := by
  intro m
  cases m with
  | nil => exact Iff.rfl
  | cons r m =>
   show q4u (if r.sku.size = 0 then ⟨r.sku, q1a r.past⟩ :: m else r :: m) e ↔ _
   split
   ·have hc : qb8 ⟨r.sku, q1a r.past⟩ e = qb8 r e := by unfold qb8; simp only [has_norm]
    unfold q4u
    simp [hc]
   ·exact Iff.rfl
 unfold q9f
 rw [hh]
 cases l with
 | nil => exact Iff.rfl
 | cons r l =>
  by_cases hz : r.sku.size = 0
  ·have hdl := qi9 r l
   have hd : ∀ x ∈ (r :: l).dropWhile (q12 r.sku), x.sku.size ≠ 0 := by
    have h1 := SrtK.tail (t := (r :: l).takeWhile (q12 r.sku)) (l := (r :: l).dropWhile (q12 r.sku)) (by rw [List.takeWhile_append_dropWhile]; exact hs)
    have h2 := List.head?_dropWhile_not (q12 r.sku) (r :: l)
    generalize (r :: l).dropWhile (q12 r.sku) = D at h1 h2 ⊢
    cases D with
    | nil => intro x hx; cases hx
    | cons q D =>
     refine qqr h1 ?_
     intro hq
     simp [q12] at h2
     exact h2 (by rw [q58.2 hq, q58.2 hz])
   have ih := qea l.length ((r :: l).dropWhile (q12 r.sku)) (q2p (r :: l)) e hdl hd
   show q4u (qik r.sku (z6y ⟨[], []⟩ r.sku (q2p (r :: l))) ++ q5j l.length ((r :: l).dropWhile (q12 r.sku)) (za7 ⟨[], []⟩ r.sku (q2p (r :: l)))) e ↔ _
   rw [show z6y ⟨[], []⟩ r.sku (q2p (r :: l)) = q2p (r :: l) from if_pos hz, show za7 ⟨[], []⟩ r.sku (q2p (r :: l)) = q2p (r :: l) from if_pos hz]
   rw [qih, z89, qgh, qq7]
   simp only [hz, true_or, true_and]
   rw [or_comm, ih, or_comm]
  ·have h := qea (r :: l).length (r :: l) ⟨[], []⟩ e (Nat.le_refl _) (qqr hs hz)
   rw [zkp] at h
   simpa using h
theorem z7i : ∀ (n : Nat) (L : List Rec) (all : Pst) (W : Nat), q6m L ≤ W → wt all ≤ 16 + W → (q5j n L all).length ≤ L.length ∧ ∀ r ∈ q5j n L all, wt r.past ≤ 64 + 2 * W
 | 0, L, all, W, _, _ => ⟨Nat.zero_le _, fun r hr => absurd hr (by simp [q5j])⟩
 | n + 1, [], all, W, _, _ => ⟨Nat.le_refl _, fun r hr => absurd hr (by simp [q5j])⟩
 | n + 1, r :: l, all, W, h, ha => by
  have hdl := qi9 r l
  have hj : wt (q2p (r :: l)) ≤ 16 + W := by
   have h1 := qa6 ((z99 (r :: l)).map (·.past))
   have h2 := wts_le (l := z99 (r :: l)) (m := r :: l) (List.takeWhile_sublist _)
   unfold q2p
   omega
  have hmw := qdq (q2p (r :: l)) all
  have hD : q6m ((r :: l).dropWhile (q12 r.sku)) ≤ W := Nat.le_trans (qgo ((List.dropWhile_sublist _).map wtK)) h
  have ih := z7i n ((r :: l).dropWhile (q12 r.sku)) (za7 all r.sku (q2p (r :: l))) W hD (by unfold za7; split <;> omega)
  have ho : ∀ p, (qik r.sku p).length ≤ 1 := fun p => by unfold qik; split <;> simp
  refine ⟨?_, fun x hx => ?_⟩
  ·show (qik r.sku _ ++ q5j n _ _).length ≤ _
   rw [List.length_append]
   have := ho (z6y all r.sku (q2p (r :: l)))
   simp only [List.length_cons]
   omega
  ·rcases List.mem_append.1 (show x ∈ qik r.sku _ ++ q5j n _ _ from hx) with hx | hx
   ·unfold qik at hx
    split at hx
    ·cases hx
    ·simp at hx
     subst hx
     show wt (z6y all r.sku (q2p (r :: l))) ≤ _
     unfold z6y
     split <;> omega
   ·exact ih.2 x hx
theorem foldK_wt (l : List Rec) : (q9f l).length ≤ l.length ∧ ∀ r ∈ q9f l, wt r.past ≤ 96 + 2 * q6m l := by
 have h := z7i l.length l ⟨[], []⟩ (q6m l) (Nat.le_refl _) (Nat.zero_le _)
 unfold q9f
 generalize q5j l.length l ⟨[], []⟩ = m at h ⊢
 cases m with
 | nil => exact ⟨h.1, fun x hx => absurd hx (by simp [qho])⟩
 | cons r m =>
  have h1 : ∀ x ∈ r :: m, wt x.past ≤ 96 + 2 * q6m l := fun x hx => by have := h.2 x hx; omega
  by_cases hz : r.sku.size = 0
  ·rw [show qho (r :: m) = ⟨r.sku, q1a r.past⟩ :: m from if_pos hz]
   refine ⟨h.1, fun x hx => ?_⟩
   rcases List.mem_cons.1 hx with rfl | hx
   ·have h2 := q62 r.past
    have h3 := h.2 r (by simp)
    show wt (q1a r.past) ≤ _
    omega
   ·exact h1 x (by simp [hx])
  ·rw [show qho (r :: m) = r :: m from if_neg hz]
   exact ⟨h.1, h1⟩

def zfe : List SOp := [⟨some 4,.assign (.const (.slice none 0 0)),none⟩,⟨some 5,.assign (.const (.int .i64 0)),none⟩]
instance : Live zfe := ⟨[0,1]⟩
def zfd : List SOp := [⟨some 11,.move (.tmp 0),none⟩,⟨some 12,.call ⟨.value (.func 53),#[.tmp 11],#[22]⟩,none⟩,⟨some 13,.binOp .neq 32 (.tmp 12) (.const (.int .i64 0)) 32,none⟩,⟨some 14,.move (.tmp 13),none⟩,⟨some 15,.move (.tmp 1),some ((some 14),false)⟩,⟨some 16,.call ⟨.value (.func 55),#[.tmp 15],#[27]⟩,some ((some 14),false)⟩,⟨some 17,.binOp .neq 32 (.tmp 16) (.const (.int .i64 0)) 32,some ((some 14),false)⟩,⟨some 18,.pick (.tmp 14) (.const (.bool true)) (.tmp 17),none⟩]
instance : Live zfd := ⟨[0,1]⟩
def zfc : List SOp := [⟨some 4,.assign (.const (.slice none 0 0)),none⟩,⟨some 5,.assign (.const (.int .i64 1)),none⟩]
instance : Live zfc := ⟨[]⟩
def zfb : List SOp := [⟨some 20,.move (.tmp 1),none⟩,⟨some 21,.call ⟨.value (.func 109),#[.tmp 20],#[27]⟩,none⟩,⟨some 19,.move (.tmp 21),none⟩,⟨some 22,.extract (.tmp 19) 0,none⟩,⟨some 23,.extract (.tmp 19) 1,none⟩,⟨some 6,.assign (.tmp 22),none⟩,⟨some 7,.assign (.tmp 23),none⟩]
instance : Live zfb := ⟨[0,1]⟩
def zfa : List SOp := [⟨some 8,.assign (.const (.slice none 0 0)),none⟩]
instance : Live zfa := ⟨[0,6]⟩
def zf9 : List SOp := [⟨some 24,.move (.tmp 0),none⟩,⟨some 25,.call ⟨.builtin .len,#[.tmp 24],#[22]⟩,none⟩,⟨some 26,.move (.const (.int .i64 0)),none⟩]
instance : Live zf9 := ⟨[0,6,8]⟩
def zf8 : List SOp := [⟨some 27,.binOp .lss 3 (.tmp 26) (.tmp 25) 3,none⟩]
instance : Live zf8 := ⟨[6,8,24,25,26]⟩
def zf7 : List SOp := [⟨some 28,.indexAddr 22 (.tmp 24) (.tmp 26),none⟩,⟨some 29,.load 62 (.tmp 28),none⟩,⟨some 10,.alloc 62,none⟩,⟨none,.store 62 (.tmp 10) (.tmp 29),none⟩]
instance : Live zf7 := ⟨[6,8,24,25,26]⟩
def zf6 : List SOp := [⟨some 30,.move (.tmp 6),none⟩,⟨some 31,.load 62 (.tmp 10),none⟩,⟨some 32,.call ⟨.value (.func 110),#[.tmp 30,.tmp 31],#[27,62]⟩,none⟩,⟨some 33,.binOp .eql 3 (.tmp 32) (.const (.int .i64 0)) 3,none⟩]
instance : Live zf6 := ⟨[6,8,10,24,25,26]⟩
def qu9 : List SOp := [⟨some 34,.move (.tmp 8),none⟩,⟨some 35,.load 62 (.tmp 10),none⟩,⟨some 36,.buildSlice 22 1 #[(0,.tmp 35)],none⟩,⟨some 37,.call ⟨.builtin .append,#[.tmp 34,.tmp 36],#[22,22]⟩,none⟩,⟨some 8,.assign (.tmp 37),none⟩]
instance : Live qu9 := ⟨[6,8,10,24,25,26]⟩
def qu8 : List SOp := [⟨some 38,.binOp .add 3 (.tmp 26) (.const (.int .i64 1)) 3,none⟩,⟨some 26,.move (.tmp 38),none⟩]
instance : Live qu8 := ⟨[6,8,24,25,26]⟩
def qu7 : List SOp := [⟨some 39,.move (.tmp 8),none⟩,⟨some 4,.assign (.tmp 39),none⟩,⟨some 5,.assign (.const (.int .i64 0)),none⟩]
instance : Live qu7 := ⟨[8]⟩
def qsl : SC :=
 (.seq (.ops false zf8) (.seq (.cond (.tmp 27) .skip (.exit 0)) (.seq (.block 1 (.seq (.ops false zf7) (.seq (.ops false zf6) (.cond (.tmp 33) (.ops false qu9) .skip)))) (.ops false qu8))))
def t_k58 : SC :=
 (.seq (.ops false zfe) (.seq (.seq (.ops false zfd) (.cond (.tmp 18) (.seq (.ops false zfc) .ret) .skip)) (.seq (.ops false zfb) (.seq (.ops false zfa) (.seq (.seq (.ops false zf9) (.block 0 (.loop qsl))) (.seq (.ops false qu7) .ret))))))
theorem it_k58 : FnIs Tryz.prog 58 40 [.tmp 4, .tmp 5] t_k58 := ⟨Tryz.f58, _, Tryz.func58, rfl, rfl, rfl, rfl, by kernel_rfl⟩

def q3j (l : List Rec) (es : List Ent) : List Ent := es.filter fun e => decide (q88 l e = 0)
theorem z8y {es : List Ent} {i : Nat} {e : Ent} (h : es[i]? = some e) (l : List Rec) : q3j l (es.take (i + 1)) = q3j l (es.take i) ++ if q88 l e = 0 then [e] else [] := by
 unfold q3j
 rw [List.take_add_one, h, List.filter_append]
 by_cases hc : q88 l e = 0 <;> simp [hc]
theorem zk8 (l : List Rec) (es : List Ent) : (q3j l es).length ≤ es.length := List.length_filter_le _ _
theorem z8z {l : List Rec} (h : q3y l) (es : List Ent) : q3j (q9f l) es = q3j l es := by
 unfold q3j
 congr 1
 funext e
 refine qbc ?_
 rw [decide_eq_true_iff, decide_eq_true_iff, q4h, q4h, zkv h.2]
theorem zl9 (es : List Ent) (l : List Rec) (hl : es.length ≤ 100000000)
 (c2 : Ev (En Tryz.prog rfl).P 55 [.sl 3 (q09 l)] (.ret (.int .i64 (if q3m l = true then 0 else 1))))
 (c3 : Ev (En Tryz.prog rfl).P 109 [.sl 3 (q09 l)] (.ret (.tup [.sl 3 (q09 (if q3m l = true then q9f l else [])), .int .i64 (if q3m l = true then 0 else 1)])))
 (hfl : (q9f l).length ≤ 900000000) (hfw : ∀ r ∈ q9f l, wt r.past ≤ 900000000) : Ev (En Tryz.prog rfl).P 58 [.sl 4 (q0e es), .sl 3 (q09 l)] (.ret (.tup [.sl 4 (q0e (if q7k es = true ∧ q3m l = true then q3j l es else [])), .int .i64 (if q7k es = true ∧ q3m l = true then 0 else 1)])) := by
 refine Ev.of_body it_k58 (by simp) (Run.start ?_)
 unfold t_k58
 have e1 := q0m es
 have hS := qq9
 have c1 := qpd es (by omega)
 (have hF := @e1; refine q01 (k:=?_); clear hF)
 refine q00 [.sl 4 (q0e es)] (he := c1) (k:=?_)
 by_cases h1 : q7k es = true
 ·rw [if_pos h1]
  by_cases h2 : q3m l = true
  ·simp only [h2, if_true, and_true, h1] at c2 c3 ⊢
   have hlf := z8z (q7w.1 h2) es
   (have hF := @e1; refine q01 (k:=?_); clear hF)
   refine q00 [.sl 3 (q09 l)] (he := c2) (k:=?_)
   (have hF := @e1; refine q01 (k:=?_); clear hF)
   refine q00 [.sl 3 (q09 l)] (he := c3) (k:=?_)
   rw [← hlf]
   generalize q9f l = F at *
   (have hF := @e1; refine q01 (k:=?_); clear hF)
   refine Run.wk (Wk.own_nil 8 37 4 rfl rfl) ?_
   refine Run.while (σ := Nat) (fun i => ⟨tms [(6, .sl 3 (q09 F)), (8, .os 37 (q3j F (es.take i)).length), (24, .sl 4 (q0e es)), (25, .int .i64 es.length), (26, .int .i64 (i : Int))], mms [(37, .arr (q3j F (es.take i)).length 4 (q0e (q3j F (es.take i))))]⟩)
    (fun i => i ≤ es.length) (fun i => es.length - i) 0 (have hW := (aI @q02 @q06); q0f) (Nat.zero_le _) ?_
   intro i hi
   unfold qsl
   by_cases hlt : i < es.length
   ·obtain ⟨e, he⟩ : ∃ e, es[i]? = some e := ⟨es[i], by simp [hlt]⟩
    have g1 := q0u he
    have c4 := ev_k110 F e (by omega) hfw
    have hst := z8y he F
    have hle := zk8 F (es.take i)
    have hle2 : (es.take i).length ≤ es.length := by rw [List.length_take]; omega
    have hbl := z7z F e
    generalize q3j F (es.take i) = out at hst hle ⊢
    have e2 := q0m out
    (have hF := (aI @e1 (aI @e2 @g1)); refine q01 (k:=?_); clear hF)
    refine q00 [.sl 3 (q09 F), q93 e] (he := c4) (k:=?_)
    by_cases hb : q88 F e = 0
    ·rw [if_pos hb] at hst
     rw [hb]
     (have hF := (aI @e1 @e2); refine q01 (k:=?_); clear hF)
     (refine Fin.nextW (i + 1) ?_ (have hW := (aI (aI @q02 @q06) (aI @hst @q2b)); q0f); (try dsimp only))
     omega
    ·rw [if_neg hb, List.append_nil] at hst
     have hb' : ¬ ((q88 F e : Nat) : Int) = 0 := by omega
     (have hF := (aI @e1 (aI @e2 @hb')); refine q01 (k:=?_); clear hF)
     (refine Fin.nextW (i + 1) ?_ (have hW := (aI (aI @q02 @q06) (aI @hst @q2b)); q0f); (try dsimp only))
     omega
   ·rw [List.take_of_length_le (show es.length ≤ i by omega)]
    (have hF := @e1; refine q01 (k:=?_); clear hF)
    exact Fin.two (x := .sl 4 (q0e (q3j F es))) (by simp [fz, fzc, q5w, upd, tms, mms]) (q06 _) rfl rfl (.inl rfl) (.inl rfl)
  ·simp only [h2, Bool.false_eq_true, if_false, and_false] at c2 ⊢
   (have hF := @e1; refine q01 (k:=?_); clear hF)
   refine q00 [.sl 3 (q09 l)] (he := c2) (k:=?_)
   (have hF := @e1; refine q01 (k:=?_); clear hF)
   exact Fin.two (x := .nil) (x' := .int .i64 1) rfl rfl rfl rfl (.inr ⟨rfl, 4, rfl⟩) (.inl rfl)
 ·simp only [h1, Bool.false_eq_true, if_false, false_and]
  (have hF := @e1; refine q01 (k:=?_); clear hF)
  exact Fin.two (x := .nil) (x' := .int .i64 1) rfl rfl rfl rfl (.inr ⟨rfl, 4, rfl⟩) (.inl rfl)
theorem ev_k58 (es : List Ent) (l : List Rec) (hl : es.length ≤ 100000000) (hw : q6m l ≤ 5000000) : Ev (En Tryz.prog rfl).P 58 [.sl 4 (q0e es), .sl 3 (q09 l)] (.ret (.tup [.sl 4 (q0e (if q7k es = true ∧ q3m l = true then q3j l es else [])), .int .i64 (if q7k es = true ∧ q3m l = true then 0 else 1)])) := by
 have hlw := q8b l
 have h := foldK_wt l
 exact zl9 es l hl (ev_k55 l (by omega)) (ev_k109 l hw) (by omega) (fun r hr => by have := h.2 r hr; omega)

def qvz : List SOp := [⟨some 2,.assign (.const (.int .i64 0)),none⟩]
instance : Live qvz := ⟨[0]⟩
def qvy : List SOp := [⟨some 3,.move (.tmp 0),none⟩,⟨some 4,.binOp .geq 79 (.tmp 3) (.const (.int .u64 4294967296)) 79,none⟩]
instance : Live qvy := ⟨[0,2]⟩
def qvx : List SOp := [⟨some 5,.move (.tmp 0),none⟩,⟨some 6,.binOp .shr 79 (.tmp 5) (.const (.int .u64 32)) 204,none⟩,⟨some 0,.assign (.tmp 6),none⟩]
instance : Live qvx := ⟨[0]⟩
def qvw : List SOp := [⟨some 2,.assign (.const (.int .i64 32)),none⟩]
instance : Live qvw := ⟨[0]⟩
def qvv : List SOp := [⟨some 7,.move (.tmp 0),none⟩,⟨some 8,.binOp .geq 79 (.tmp 7) (.const (.int .u64 65536)) 79,none⟩]
instance : Live qvv := ⟨[0,2]⟩
def qvu : List SOp := [⟨some 9,.move (.tmp 0),none⟩,⟨some 10,.binOp .shr 79 (.tmp 9) (.const (.int .u64 16)) 204,none⟩,⟨some 0,.assign (.tmp 10),none⟩]
instance : Live qvu := ⟨[0,2]⟩
def qvt : List SOp := [⟨some 11,.move (.tmp 2),none⟩,⟨some 12,.binOp .add 3 (.tmp 11) (.const (.int .i64 16)) 3,none⟩,⟨some 2,.assign (.tmp 12),none⟩]
instance : Live qvt := ⟨[0,2]⟩
def qvs : List SOp := [⟨some 13,.move (.tmp 0),none⟩,⟨some 14,.binOp .geq 79 (.tmp 13) (.const (.int .u64 256)) 79,none⟩]
instance : Live qvs := ⟨[0,2]⟩
def qvr : List SOp := [⟨some 15,.move (.tmp 0),none⟩,⟨some 16,.binOp .shr 79 (.tmp 15) (.const (.int .u64 8)) 204,none⟩,⟨some 0,.assign (.tmp 16),none⟩]
instance : Live qvr := ⟨[0,2]⟩
def qkc : List SOp := [⟨some 17,.move (.tmp 2),none⟩,⟨some 18,.binOp .add 3 (.tmp 17) (.const (.int .i64 8)) 3,none⟩,⟨some 2,.assign (.tmp 18),none⟩]
instance : Live qkc := ⟨[0,2]⟩
def qkb : List SOp := [⟨some 19,.move (.tmp 2),none⟩,⟨some 20,.move (.tmp 0),none⟩,⟨some 21,.convert 79 5 (.tmp 20),none⟩,⟨some 22,.index 9 (.const (.string ⟨List.toArray ([0,1,2,2,3,3,3,3,4,4,4,4,4,4,4,4,5,5,5,5,5,5,5,5,5,5,5,5,5,5,5,5,6,6,6,6,6,6,6,6,6,6,6,6,6,6,6,6,6,6,6,6,6,6,6,6,6,6,6,6,6,6,6,6,7,7,7,7,7,7,7,7,7,7,7,7,7,7,7,7,7,7,7,7,7,7,7,7,7,7,7,7,7,7,7,7,7,7,7,7,7,7,7,7,7,7,7,7,7,7,7,7,7,7,7,7,7,7,7,7,7,7,7,7,7,7,7,7] ++ [8,8,8,8,8,8,8,8,8,8,8,8,8,8,8,8,8,8,8,8,8,8,8,8,8,8,8,8,8,8,8,8,8,8,8,8,8,8,8,8,8,8,8,8,8,8,8,8,8,8,8,8,8,8,8,8,8,8,8,8,8,8,8,8,8,8,8,8,8,8,8,8,8,8,8,8,8,8,8,8,8,8,8,8,8,8,8,8,8,8,8,8,8,8,8,8,8,8,8,8,8,8,8,8,8,8,8,8,8,8,8,8,8,8,8,8,8,8,8,8,8,8,8,8,8,8,8,8])⟩)) (.tmp 21),none⟩,⟨some 23,.convert 5 3 (.tmp 22),none⟩,⟨some 24,.binOp .add 3 (.tmp 19) (.tmp 23) 3,none⟩,⟨some 2,.assign (.tmp 24),none⟩]
instance : Live qkb := ⟨[0,2]⟩
def t_k183 : SC :=
 (.seq (.ops false qvz) (.seq (.seq (.ops false qvy) (.cond (.tmp 4) (.seq (.ops false qvx) (.ops false qvw)) .skip)) (.seq (.seq (.ops false qvv) (.cond (.tmp 8) (.seq (.ops false qvu) (.ops false qvt)) .skip)) (.seq (.seq (.ops false qvs) (.cond (.tmp 14) (.seq (.ops false qvr) (.ops false qkc)) .skip)) (.seq (.ops false qkb) .ret)))))
theorem it_k183 : FnIs Tryz.prog 183 25 [.tmp 2] t_k183 := ⟨Tryz.f183, _, Tryz.func183, rfl, rfl, rfl, rfl, by kernel_rfl⟩

def qxb : List SOp := [⟨some 2,.assign (.const (.int .i64 0)),none⟩]
instance : Live qxb := ⟨[0]⟩
def qxa : List SOp := [⟨some 3,.move (.tmp 0),none⟩,⟨some 4,.convert 204 220 (.tmp 3),none⟩,⟨some 5,.call ⟨.value (.func 182),#[.tmp 4],#[220]⟩,none⟩,⟨some 2,.assign (.tmp 5),none⟩]
instance : Live qxa := ⟨[0]⟩
def qx9 : List SOp := [⟨some 6,.move (.tmp 0),none⟩,⟨some 7,.call ⟨.value (.func 183),#[.tmp 6],#[79]⟩,none⟩,⟨some 2,.assign (.tmp 7),none⟩]
instance : Live qx9 := ⟨[0]⟩
def t_k164 : SC :=
 (.seq (.ops false qxb) (.seq (.cond (.const (.bool false)) (.seq (.ops false qxa) .ret) .skip) (.seq (.ops false qx9) .ret)))
theorem it_k164 : FnIs Tryz.prog 164 8 [.tmp 2] t_k164 := ⟨Tryz.f164, _, Tryz.func164, rfl, rfl, rfl, rfl, by kernel_rfl⟩

def qw5 : List SOp := [⟨some 10,.move (.tmp 1),none⟩,⟨some 11,.binOp .add 3 (.tmp 10) (.const (.int .i64 1)) 3,none⟩,⟨some 8,.assign (.tmp 11),none⟩]
instance : Live qw5 := ⟨[0,1,2,3]⟩
def qw4 : List SOp := [⟨some 12,.move (.tmp 8),none⟩,⟨some 13,.move (.tmp 2),none⟩,⟨some 14,.binOp .lss 3 (.tmp 12) (.tmp 13) 3,none⟩]
instance : Live qw4 := ⟨[0,1,2,3,8]⟩
def qw3 : List SOp := [⟨some 17,.move (.tmp 8),none⟩,⟨some 9,.assign (.tmp 17),none⟩]
instance : Live qw3 := ⟨[0,1,2,3,8]⟩
def qw2 : List SOp := [⟨some 18,.move (.tmp 9),none⟩,⟨some 19,.move (.tmp 1),none⟩,⟨some 20,.binOp .gtr 3 (.tmp 18) (.tmp 19) 3,none⟩,⟨some 21,.move (.tmp 20),none⟩,⟨some 22,.move (.tmp 3),some ((some 21),true)⟩,⟨some 23,.move (.tmp 0),some ((some 21),true)⟩,⟨some 24,.move (.tmp 9),some ((some 21),true)⟩,⟨some 25,.indexAddr 27 (.tmp 23) (.tmp 24),some ((some 21),true)⟩,⟨some 26,.load 91 (.tmp 25),some ((some 21),true)⟩,⟨some 27,.move (.tmp 0),some ((some 21),true)⟩,⟨some 28,.move (.tmp 9),some ((some 21),true)⟩,⟨some 29,.binOp .sub 3 (.tmp 28) (.const (.int .i64 1)) 3,some ((some 21),true)⟩,⟨some 30,.indexAddr 27 (.tmp 27) (.tmp 29),some ((some 21),true)⟩,⟨some 31,.load 91 (.tmp 30),some ((some 21),true)⟩,⟨some 32,.call ⟨.value (.tmp 22),#[.tmp 26,.tmp 31],#[91,91]⟩,some ((some 21),true)⟩,⟨some 33,.binOp .lss 3 (.tmp 32) (.const (.int .i64 0)) 3,some ((some 21),true)⟩,⟨some 34,.pick (.tmp 21) (.tmp 33) (.const (.bool false)),none⟩]
instance : Live qw2 := ⟨[0,1,2,3,8,9]⟩
def qgz : List SOp := [⟨some 37,.move (.tmp 0),none⟩,⟨some 38,.move (.tmp 9),none⟩,⟨some 39,.move (.tmp 0),none⟩,⟨some 40,.move (.tmp 9),none⟩,⟨some 41,.binOp .sub 3 (.tmp 40) (.const (.int .i64 1)) 3,none⟩,⟨some 42,.move (.tmp 0),none⟩,⟨some 43,.move (.tmp 9),none⟩,⟨some 44,.binOp .sub 3 (.tmp 43) (.const (.int .i64 1)) 3,none⟩,⟨some 45,.indexAddr 27 (.tmp 42) (.tmp 44),none⟩,⟨some 46,.load 91 (.tmp 45),none⟩,⟨some 47,.move (.tmp 0),none⟩,⟨some 48,.move (.tmp 9),none⟩,⟨some 49,.indexAddr 27 (.tmp 47) (.tmp 48),none⟩,⟨some 50,.load 91 (.tmp 49),none⟩,⟨some 51,.indexAddr 27 (.tmp 37) (.tmp 38),none⟩,⟨none,.store 91 (.tmp 51) (.tmp 46),none⟩,⟨some 52,.indexAddr 27 (.tmp 39) (.tmp 41),none⟩,⟨none,.store 91 (.tmp 52) (.tmp 50),none⟩]
instance : Live qgz := ⟨[0,1,2,3,8,9]⟩
instance : Rd qgz := ⟨fun j => false⟩
def qw1 : List SOp := [⟨some 35,.move (.tmp 9),none⟩,⟨some 36,.binOp .sub 3 (.tmp 35) (.const (.int .i64 1)) 3,none⟩,⟨some 9,.assign (.tmp 36),none⟩]
instance : Live qw1 := ⟨[0,1,2,3,8,9]⟩
def qw0 : List SOp := [⟨some 15,.move (.tmp 8),none⟩,⟨some 16,.binOp .add 3 (.tmp 15) (.const (.int .i64 1)) 3,none⟩,⟨some 8,.assign (.tmp 16),none⟩]
instance : Live qw0 := ⟨[0,1,2,3,8]⟩
def zav : SC :=
 (.seq (.seq (.ops true qw2) (.cond (.tmp 34) .skip (.exit 2))) (.seq (.block 3 (.opsW [] qgz)) (.ops false qw1)))
def qiy : SC :=
 (.seq (.seq (.ops false qw4) (.cond (.tmp 14) .skip (.exit 0))) (.seq (.block 1 (.seq (.ops false qw3) (.block 2 (.loop zav)))) (.ops false qw0)))
def t_k174 : SC :=
 (.seq (.ops false qw5) (.block 0 (.loop qiy)))
theorem it_k174 : FnIs Tryz.prog 174 53 [] t_k174 := ⟨Tryz.f174, _, Tryz.func174, rfl, rfl, rfl, rfl, by kernel_rfl⟩

def qxk : List SOp := [⟨some 10,.assign (.const (.bool true)),none⟩]
instance : Live qxk := ⟨[0,1,2,3,4]⟩
def qxj : List SOp := [⟨some 11,.assign (.const (.bool true)),none⟩]
instance : Live qxj := ⟨[0,1,2,3,4,10]⟩
def qxi : List SOp := [⟨some 21,.move (.tmp 2),none⟩,⟨some 22,.move (.tmp 1),none⟩,⟨some 23,.binOp .sub 3 (.tmp 21) (.tmp 22) 3,none⟩,⟨some 12,.assign (.tmp 23),none⟩]
instance : Live qxi := ⟨[0,1,2,3,4,10,11]⟩
def qxh : List SOp := [⟨some 24,.move (.tmp 12),none⟩,⟨some 25,.binOp .leq 3 (.tmp 24) (.const (.int .i64 12)) 3,none⟩]
instance : Live qxh := ⟨[0,1,2,3,4,10,11,12]⟩
def qxg : List SOp := [⟨some 26,.move (.tmp 0),none⟩,⟨some 27,.move (.tmp 1),none⟩,⟨some 28,.move (.tmp 2),none⟩,⟨some 29,.move (.tmp 4),none⟩,⟨some 30,.call ⟨.value (.func 174),#[.tmp 26,.tmp 27,.tmp 28,.tmp 29],#[27,3,3,148]⟩,none⟩]
instance : Live qxg := ⟨[0,1,2,4]⟩
def qxf : List SOp := [⟨some 31,.move (.tmp 3),none⟩,⟨some 32,.binOp .eql 3 (.tmp 31) (.const (.int .i64 0)) 3,none⟩]
instance : Live qxf := ⟨[0,1,2,3,4,10,11,12]⟩
def qxe : List SOp := [⟨some 33,.move (.tmp 0),none⟩,⟨some 34,.move (.tmp 1),none⟩,⟨some 35,.move (.tmp 2),none⟩,⟨some 36,.move (.tmp 4),none⟩,⟨some 37,.call ⟨.value (.func 175),#[.tmp 33,.tmp 34,.tmp 35,.tmp 36],#[27,3,3,148]⟩,none⟩]
instance : Live qxe := ⟨[0,1,2,4]⟩
def qxd : List SOp := [⟨some 38,.move (.tmp 10),none⟩,⟨some 39,.unOp .not 4 (.tmp 38),none⟩]
instance : Live qxd := ⟨[0,1,2,3,4,10,11,12]⟩
def qxc : List SOp := [⟨some 40,.move (.tmp 0),none⟩,⟨some 41,.move (.tmp 1),none⟩,⟨some 42,.move (.tmp 2),none⟩,⟨some 43,.move (.tmp 4),none⟩,⟨some 44,.call ⟨.value (.func 176),#[.tmp 40,.tmp 41,.tmp 42,.tmp 43],#[27,3,3,148]⟩,none⟩]
instance : Live qxc := ⟨[0,1,2,3,4,10,11,12]⟩
def qli : List SOp := [⟨some 45,.move (.tmp 3),none⟩,⟨some 46,.binOp .sub 3 (.tmp 45) (.const (.int .i64 1)) 3,none⟩,⟨some 3,.assign (.tmp 46),none⟩]
instance : Live qli := ⟨[0,1,2,3,4,10,11,12]⟩
def qlh : List SOp := [⟨some 48,.move (.tmp 0),none⟩,⟨some 49,.move (.tmp 1),none⟩,⟨some 50,.move (.tmp 2),none⟩,⟨some 51,.move (.tmp 4),none⟩,⟨some 52,.call ⟨.value (.func 177),#[.tmp 48,.tmp 49,.tmp 50,.tmp 51],#[27,3,3,148]⟩,none⟩,⟨some 47,.move (.tmp 52),none⟩,⟨some 53,.extract (.tmp 47) 0,none⟩,⟨some 54,.extract (.tmp 47) 1,none⟩,⟨some 13,.assign (.tmp 53),none⟩,⟨some 14,.assign (.tmp 54),none⟩]
instance : Live qlh := ⟨[0,1,2,3,4,10,11,12]⟩
def qlg : List SOp := [⟨some 55,.move (.tmp 14),none⟩,⟨some 56,.binOp .eql 212 (.tmp 55) (.const (.int .i64 2)) 212,none⟩]
instance : Live qlg := ⟨[0,1,2,3,4,10,11,12,13,14]⟩
def qlf : List SOp := [⟨some 57,.move (.tmp 0),none⟩,⟨some 58,.move (.tmp 1),none⟩,⟨some 59,.move (.tmp 2),none⟩,⟨some 60,.move (.tmp 4),none⟩,⟨some 61,.call ⟨.value (.func 178),#[.tmp 57,.tmp 58,.tmp 59,.tmp 60],#[27,3,3,148]⟩,none⟩]
instance : Live qlf := ⟨[0,1,2,3,4,10,11,12,13]⟩
def qle : List SOp := [⟨some 62,.move (.tmp 2),none⟩,⟨some 63,.binOp .sub 3 (.tmp 62) (.const (.int .i64 1)) 3,none⟩,⟨some 64,.move (.tmp 13),none⟩,⟨some 65,.move (.tmp 1),none⟩,⟨some 66,.binOp .sub 3 (.tmp 64) (.tmp 65) 3,none⟩,⟨some 67,.binOp .sub 3 (.tmp 63) (.tmp 66) 3,none⟩,⟨some 13,.assign (.tmp 67),none⟩]
instance : Live qle := ⟨[0,1,2,3,4,10,11,12,13]⟩
def qld : List SOp := [⟨some 14,.assign (.const (.int .i64 1)),none⟩]
instance : Live qld := ⟨[0,1,2,3,4,10,11,12,13]⟩
def qlc : List SOp := [⟨some 68,.move (.tmp 10),none⟩,⟨some 69,.move (.tmp 68),none⟩,⟨some 70,.move (.tmp 11),some ((some 69),true)⟩,⟨some 71,.pick (.tmp 69) (.tmp 70) (.const (.bool false)),none⟩,⟨some 72,.move (.tmp 71),none⟩,⟨some 73,.move (.tmp 14),some ((some 72),true)⟩,⟨some 74,.binOp .eql 212 (.tmp 73) (.const (.int .i64 1)) 212,some ((some 72),true)⟩,⟨some 75,.pick (.tmp 72) (.tmp 74) (.const (.bool false)),none⟩]
instance : Live qlc := ⟨[0,1,2,3,4,10,11,12,13,14]⟩
def qlb : List SOp := [⟨some 76,.move (.tmp 0),none⟩,⟨some 77,.move (.tmp 1),none⟩,⟨some 78,.move (.tmp 2),none⟩,⟨some 79,.move (.tmp 4),none⟩,⟨some 80,.call ⟨.value (.func 179),#[.tmp 76,.tmp 77,.tmp 78,.tmp 79],#[27,3,3,148]⟩,none⟩]
instance : Live qlb := ⟨[0,1,2,3,4,10,11,12,13]⟩
def qla : List SOp := [⟨some 81,.move (.tmp 1),none⟩,⟨some 82,.binOp .gtr 3 (.tmp 81) (.const (.int .i64 0)) 3,none⟩,⟨some 83,.move (.tmp 82),none⟩,⟨some 84,.move (.tmp 4),some ((some 83),true)⟩,⟨some 85,.move (.tmp 0),some ((some 83),true)⟩,⟨some 86,.move (.tmp 1),some ((some 83),true)⟩,⟨some 87,.binOp .sub 3 (.tmp 86) (.const (.int .i64 1)) 3,some ((some 83),true)⟩,⟨some 88,.indexAddr 27 (.tmp 85) (.tmp 87),some ((some 83),true)⟩,⟨some 89,.load 91 (.tmp 88),some ((some 83),true)⟩,⟨some 90,.move (.tmp 0),some ((some 83),true)⟩,⟨some 91,.move (.tmp 13),some ((some 83),true)⟩,⟨some 92,.indexAddr 27 (.tmp 90) (.tmp 91),some ((some 83),true)⟩,⟨some 93,.load 91 (.tmp 92),some ((some 83),true)⟩,⟨some 94,.call ⟨.value (.tmp 84),#[.tmp 89,.tmp 93],#[91,91]⟩,some ((some 83),true)⟩,⟨some 95,.binOp .lss 3 (.tmp 94) (.const (.int .i64 0)) 3,some ((some 83),true)⟩,⟨some 96,.unOp .not 4 (.tmp 95),some ((some 83),true)⟩,⟨some 97,.pick (.tmp 83) (.tmp 96) (.const (.bool false)),none⟩]
instance : Live qla := ⟨[0,1,2,3,4,10,11,12,13]⟩
def ql9 : List SOp := [⟨some 98,.move (.tmp 0),none⟩,⟨some 99,.move (.tmp 1),none⟩,⟨some 100,.move (.tmp 2),none⟩,⟨some 101,.move (.tmp 13),none⟩,⟨some 102,.move (.tmp 4),none⟩,⟨some 103,.call ⟨.value (.func 180),#[.tmp 98,.tmp 99,.tmp 100,.tmp 101,.tmp 102],#[27,3,3,3,148]⟩,none⟩,⟨some 15,.assign (.tmp 103),none⟩]
instance : Live ql9 := ⟨[0,1,2,3,4,10,11,13]⟩
def ql8 : List SOp := [⟨some 104,.move (.tmp 15),none⟩,⟨some 1,.assign (.tmp 104),none⟩]
instance : Live ql8 := ⟨[0,2,3,4,10,11,15]⟩
def ql7 : List SOp := [⟨some 106,.move (.tmp 0),none⟩,⟨some 107,.move (.tmp 1),none⟩,⟨some 108,.move (.tmp 2),none⟩,⟨some 109,.move (.tmp 13),none⟩,⟨some 110,.move (.tmp 4),none⟩,⟨some 111,.call ⟨.value (.func 181),#[.tmp 106,.tmp 107,.tmp 108,.tmp 109,.tmp 110],#[27,3,3,3,148]⟩,none⟩,⟨some 105,.move (.tmp 111),none⟩,⟨some 112,.extract (.tmp 105) 0,none⟩,⟨some 113,.extract (.tmp 105) 1,none⟩,⟨some 16,.assign (.tmp 112),none⟩,⟨some 17,.assign (.tmp 113),none⟩]
instance : Live ql7 := ⟨[0,1,2,3,4,12,13]⟩
def ql6 : List SOp := [⟨some 114,.move (.tmp 17),none⟩,⟨some 11,.assign (.tmp 114),none⟩]
instance : Live ql6 := ⟨[0,1,2,3,4,12,16,17]⟩
def ql5 : List SOp := [⟨some 115,.move (.tmp 16),none⟩,⟨some 116,.move (.tmp 1),none⟩,⟨some 117,.binOp .sub 3 (.tmp 115) (.tmp 116) 3,none⟩,⟨some 118,.move (.tmp 2),none⟩,⟨some 119,.move (.tmp 16),none⟩,⟨some 120,.binOp .sub 3 (.tmp 118) (.tmp 119) 3,none⟩,⟨some 18,.assign (.tmp 117),none⟩,⟨some 19,.assign (.tmp 120),none⟩]
instance : Live ql5 := ⟨[0,1,2,3,4,11,12,16]⟩
def ql4 : List SOp := [⟨some 121,.move (.tmp 12),none⟩,⟨some 122,.binOp .quo 3 (.tmp 121) (.const (.int .i64 8)) 3,none⟩,⟨some 20,.assign (.tmp 122),none⟩]
instance : Live ql4 := ⟨[0,1,2,3,4,11,12,16,18,19]⟩
def ql3 : List SOp := [⟨some 123,.move (.tmp 18),none⟩,⟨some 124,.move (.tmp 19),none⟩,⟨some 125,.binOp .lss 3 (.tmp 123) (.tmp 124) 3,none⟩]
instance : Live ql3 := ⟨[0,1,2,3,4,11,16,18,19,20]⟩
def ql2 : List SOp := [⟨some 126,.move (.tmp 18),none⟩,⟨some 127,.move (.tmp 20),none⟩,⟨some 128,.binOp .geq 3 (.tmp 126) (.tmp 127) 3,none⟩,⟨some 10,.assign (.tmp 128),none⟩]
instance : Live ql2 := ⟨[0,1,2,3,4,11,16,18,20]⟩
def ql1 : List SOp := [⟨some 129,.move (.tmp 0),none⟩,⟨some 130,.move (.tmp 1),none⟩,⟨some 131,.move (.tmp 16),none⟩,⟨some 132,.move (.tmp 3),none⟩,⟨some 133,.move (.tmp 4),none⟩,⟨some 134,.call ⟨.value (.func 163),#[.tmp 129,.tmp 130,.tmp 131,.tmp 132,.tmp 133],#[27,3,3,3,148]⟩,none⟩]
instance : Live ql1 := ⟨[0,1,2,3,4,10,11,16]⟩
def ql0 : List SOp := [⟨some 135,.move (.tmp 16),none⟩,⟨some 136,.binOp .add 3 (.tmp 135) (.const (.int .i64 1)) 3,none⟩,⟨some 1,.assign (.tmp 136),none⟩]
instance : Live ql0 := ⟨[0,2,3,4,10,11,16]⟩
def qkz : List SOp := [⟨some 137,.move (.tmp 19),none⟩,⟨some 138,.move (.tmp 20),none⟩,⟨some 139,.binOp .geq 3 (.tmp 137) (.tmp 138) 3,none⟩,⟨some 10,.assign (.tmp 139),none⟩]
instance : Live qkz := ⟨[0,1,2,3,4,11,16,19,20]⟩
def qky : List SOp := [⟨some 140,.move (.tmp 0),none⟩,⟨some 141,.move (.tmp 16),none⟩,⟨some 142,.binOp .add 3 (.tmp 141) (.const (.int .i64 1)) 3,none⟩,⟨some 143,.move (.tmp 2),none⟩,⟨some 144,.move (.tmp 3),none⟩,⟨some 145,.move (.tmp 4),none⟩,⟨some 146,.call ⟨.value (.func 163),#[.tmp 140,.tmp 142,.tmp 143,.tmp 144,.tmp 145],#[27,3,3,3,148]⟩,none⟩]
instance : Live qky := ⟨[0,1,2,3,4,10,11,16]⟩
def qkx : List SOp := [⟨some 147,.move (.tmp 16),none⟩,⟨some 2,.assign (.tmp 147),none⟩]
instance : Live qkx := ⟨[0,1,3,4,10,11,16]⟩
def qj5 : SC :=
 (.block 1 (.seq (.ops false qxi) (.seq (.seq (.ops false qxh) (.cond (.tmp 25) (.seq (.ops false qxg) .ret) .skip)) (.seq (.seq (.ops false qxf) (.cond (.tmp 32) (.seq (.ops false qxe) .ret) .skip)) (.seq (.seq (.ops false qxd) (.cond (.tmp 39) (.seq (.ops false qxc) (.ops false qli)) .skip)) (.seq (.ops false qlh) (.seq (.seq (.ops false qlg) (.cond (.tmp 56) (.seq (.ops false qlf) (.seq (.ops false qle) (.ops false qld))) .skip)) (.seq (.seq (.ops false qlc) (.cond (.tmp 75) (.seq (.ops false qlb) (.cond (.tmp 80) .ret .skip)) .skip)) (.seq (.seq (.ops true qla) (.cond (.tmp 97) (.seq (.ops false ql9) (.seq (.ops false ql8) (.exit 1))) .skip)) (.seq (.ops false ql7) (.seq (.ops false ql6) (.seq (.ops false ql5) (.seq (.ops false ql4) (.seq (.ops false ql3) (.cond (.tmp 125) (.seq (.ops false ql2) (.seq (.ops false ql1) (.ops false ql0))) (.seq (.ops false qkz) (.seq (.ops false qky) (.ops false qkx))))))))))))))))))
def t_k163 : SC :=
 (.seq (.ops false qxk) (.seq (.ops false qxj) (.block 0 (.loop qj5))))
theorem it_k163 : FnIs Tryz.prog 163 148 [] t_k163 := ⟨Tryz.f163, _, Tryz.func163, rfl, rfl, rfl, rfl, by kernel_rfl⟩

def z18 : List SOp := [⟨some 5,.move (.tmp 0),none⟩,⟨some 6,.call ⟨.builtin .len,#[.tmp 5],#[27]⟩,none⟩,⟨some 4,.assign (.tmp 6),none⟩]
instance : Live z18 := ⟨[0,1]⟩
def z17 : List SOp := [⟨some 7,.move (.tmp 0),none⟩,⟨some 8,.move (.tmp 4),none⟩,⟨some 9,.move (.tmp 4),none⟩,⟨some 10,.convert 3 204 (.tmp 9),none⟩,⟨some 11,.call ⟨.value (.func 164),#[.tmp 10],#[204]⟩,none⟩,⟨some 12,.move (.tmp 1),none⟩,⟨some 13,.call ⟨.value (.func 163),#[.tmp 7,.const (.int .i64 0),.tmp 8,.tmp 11,.tmp 12],#[27,3,3,3,148]⟩,none⟩]
instance : Live z17 := ⟨[0,1,4]⟩
def t_k142 : SC :=
 (.seq (.ops false z18) (.ops false z17))
theorem zkh : FnIs Tryz.prog 142 14 [] t_k142 := ⟨Tryz.f142, _, Tryz.func142, rfl, rfl, rfl, rfl, by kernel_rfl⟩

def z16 : List SOp := [⟨some 4,.assign (.const (.slice none 0 0)),none⟩]
instance : Live z16 := ⟨[0,1]⟩
def z15 : List SOp := [⟨some 8,.move (.tmp 0),none⟩,⟨some 9,.call ⟨.builtin .len,#[.tmp 8],#[27]⟩,none⟩,⟨some 10,.binOp .lss 3 (.tmp 9) (.const (.int .i64 2)) 3,none⟩]
instance : Live z15 := ⟨[0,1]⟩
def z14 : List SOp := [⟨some 11,.move (.tmp 0),none⟩,⟨some 4,.assign (.tmp 11),none⟩]
instance : Live z14 := ⟨[0]⟩
def z13 : List SOp := [⟨some 5,.assign (.const (.int .i64 1)),none⟩]
instance : Live z13 := ⟨[0,1]⟩
def z12 : List SOp := [⟨some 12,.move (.tmp 5),none⟩,⟨some 13,.move (.tmp 0),none⟩,⟨some 14,.call ⟨.builtin .len,#[.tmp 13],#[27]⟩,none⟩,⟨some 15,.binOp .lss 3 (.tmp 12) (.tmp 14) 3,none⟩]
instance : Live z12 := ⟨[0,1,5]⟩
def z11 : List SOp := [⟨some 18,.move (.tmp 1),none⟩,⟨some 19,.move (.tmp 0),none⟩,⟨some 20,.move (.tmp 5),none⟩,⟨some 21,.indexAddr 27 (.tmp 19) (.tmp 20),none⟩,⟨some 22,.load 91 (.tmp 21),none⟩,⟨some 23,.move (.tmp 0),none⟩,⟨some 24,.move (.tmp 5),none⟩,⟨some 25,.binOp .sub 3 (.tmp 24) (.const (.int .i64 1)) 3,none⟩,⟨some 26,.indexAddr 27 (.tmp 23) (.tmp 25),none⟩,⟨some 27,.load 91 (.tmp 26),none⟩,⟨some 28,.call ⟨.value (.tmp 18),#[.tmp 22,.tmp 27],#[91,91]⟩,none⟩]
instance : Live z11 := ⟨[0,1,5]⟩
def z10 : List SOp := [⟨some 29,.move (.tmp 0),none⟩,⟨some 30,.move (.tmp 5),none⟩,⟨some 31,.slice 27 (.tmp 29) (some (.tmp 30)) none none,none⟩,⟨some 6,.assign (.tmp 31),none⟩]
instance : Live z10 := ⟨[0,1,5]⟩
def z0z : List SOp := [⟨some 7,.assign (.const (.int .i64 1)),none⟩]
instance : Live z0z := ⟨[0,1,5,6]⟩
def z0y : List SOp := [⟨some 32,.move (.tmp 7),none⟩,⟨some 33,.move (.tmp 6),none⟩,⟨some 34,.call ⟨.builtin .len,#[.tmp 33],#[27]⟩,none⟩,⟨some 35,.binOp .lss 3 (.tmp 32) (.tmp 34) 3,none⟩]
instance : Live z0y := ⟨[0,1,5,6,7]⟩
def qms : List SOp := [⟨some 38,.move (.tmp 1),none⟩,⟨some 39,.move (.tmp 6),none⟩,⟨some 40,.move (.tmp 7),none⟩,⟨some 41,.indexAddr 27 (.tmp 39) (.tmp 40),none⟩,⟨some 42,.load 91 (.tmp 41),none⟩,⟨some 43,.move (.tmp 6),none⟩,⟨some 44,.move (.tmp 7),none⟩,⟨some 45,.binOp .sub 3 (.tmp 44) (.const (.int .i64 1)) 3,none⟩,⟨some 46,.indexAddr 27 (.tmp 43) (.tmp 45),none⟩,⟨some 47,.load 91 (.tmp 46),none⟩,⟨some 48,.call ⟨.value (.tmp 38),#[.tmp 42,.tmp 47],#[91,91]⟩,none⟩,⟨some 49,.unOp .not 4 (.tmp 48),none⟩]
instance : Live qms := ⟨[0,1,5,6,7]⟩
def qmr : List SOp := [⟨some 50,.move (.tmp 0),none⟩,⟨some 51,.move (.tmp 5),none⟩,⟨some 52,.move (.tmp 6),none⟩,⟨some 53,.move (.tmp 7),none⟩,⟨some 54,.indexAddr 27 (.tmp 52) (.tmp 53),none⟩,⟨some 55,.load 91 (.tmp 54),none⟩,⟨some 56,.indexAddr 27 (.tmp 50) (.tmp 51),none⟩,⟨none,.store 91 (.tmp 56) (.tmp 55),none⟩]
instance : Live qmr := ⟨[0,1,5,6,7]⟩
def qmq : List SOp := [⟨some 57,.move (.tmp 5),none⟩,⟨some 58,.binOp .add 3 (.tmp 57) (.const (.int .i64 1)) 3,none⟩,⟨some 5,.assign (.tmp 58),none⟩]
instance : Live qmq := ⟨[0,1,5,6,7]⟩
def qmp : List SOp := [⟨some 36,.move (.tmp 7),none⟩,⟨some 37,.binOp .add 3 (.tmp 36) (.const (.int .i64 1)) 3,none⟩,⟨some 7,.assign (.tmp 37),none⟩]
instance : Live qmp := ⟨[0,1,5,6,7]⟩
def qmo : List SOp := [⟨some 59,.move (.tmp 0),none⟩,⟨some 60,.move (.tmp 5),none⟩,⟨some 61,.slice 27 (.tmp 59) (some (.tmp 60)) none none,none⟩,⟨none,.call ⟨.builtin .clear,#[.tmp 61],#[27]⟩,none⟩]
instance : Live qmo := ⟨[0,5]⟩
def qmn : List SOp := [⟨some 62,.move (.tmp 0),none⟩,⟨some 63,.move (.tmp 5),none⟩,⟨some 64,.slice 27 (.tmp 62) none (some (.tmp 63)) none,none⟩,⟨some 4,.assign (.tmp 64),none⟩]
instance : Live qmn := ⟨[0,5]⟩
def qmm : List SOp := [⟨some 16,.move (.tmp 5),none⟩,⟨some 17,.binOp .add 3 (.tmp 16) (.const (.int .i64 1)) 3,none⟩,⟨some 5,.assign (.tmp 17),none⟩]
instance : Live qmm := ⟨[0,1,5]⟩
def qml : List SOp := [⟨some 65,.move (.tmp 0),none⟩,⟨some 4,.assign (.tmp 65),none⟩]
instance : Live qml := ⟨[0]⟩
def qjf : SC :=
 (.seq (.seq (.ops false z0y) (.cond (.tmp 35) .skip (.exit 2))) (.seq (.block 3 (.seq (.ops true qms) (.cond (.tmp 49) (.seq (.ops false qmr) (.ops false qmq)) .skip))) (.ops false qmp)))
def qjg : SC :=
 (.seq (.seq (.ops false z12) (.cond (.tmp 15) .skip (.exit 0))) (.seq (.block 1 (.seq (.ops true z11) (.cond (.tmp 28) (.seq (.ops false z10) (.seq (.seq (.ops false z0z) (.block 2 (.loop qjf))) (.seq (.ops false qmo) (.seq (.ops false qmn) .ret)))) .skip))) (.ops false qmm)))
def zax : SC :=
 (.seq (.ops false z16) (.seq (.seq (.ops false z15) (.cond (.tmp 10) (.seq (.ops false z14) .ret) .skip)) (.seq (.seq (.ops false z13) (.block 0 (.loop qjg))) (.seq (.ops false qml) .ret))))
theorem zkg : FnIs Tryz.prog 143 66 [.tmp 4] zax := ⟨Tryz.f143, _, Tryz.func143, rfl, rfl, rfl, rfl, by kernel_rfl⟩

theorem qi0 (xs : List AVal) (h : Int) (hh : h ≤ 1) (g : FuncId) (hs : q0j xs = true) : Ev (En Tryz.prog rfl).P 174 [.sl 3 xs, .int .i64 0, .int .i64 h, .fn g []] (.ret (.tup [])) := by
 refine Ev.of_body it_k174 (by simp) (Run.start ?_)
 unfold t_k174
 have hS := hs
 (have hF := True.intro; refine q01 (k:=?_); clear hF)
 refine Run.while (σ := Nat) (fun i => ⟨tms [(0, .sl 3 xs), (1, .int .i64 0), (2, .int .i64 h), (3, .fn g []), (8, .int .i64 1)], mms []⟩) (fun i => True) (fun i => 0) 0 (have hW := @hs; q0f) trivial ?_
 intro i _
 unfold qiy
 (have hF := True.intro; refine q01 (k:=?_); clear hF)
 exact Fin.done ⟨[], rfl, rfl, [], trivial, rfl⟩
theorem ev_pdq1 (xs : List AVal) (h lim : Int) (h0 : 0 ≤ h) (hh : h ≤ 1) (g : FuncId) (hs : q0j xs = true) : Ev (En Tryz.prog rfl).P 163 [.sl 3 xs, .int .i64 0, .int .i64 h, .int .i64 lim, .fn g []] (.ret (.tup [])) := by
 refine Ev.of_body it_k163 (by simp) (Run.start ?_)
 unfold t_k163
 have hS := hs
 have c1 := qi0 xs h hh g hs
 (have hF := True.intro; refine q01 (k:=?_); clear hF)
 refine Run.while (σ := Nat) (fun i => ⟨tms [(0, .sl 3 xs), (1, .int .i64 0), (2, .int .i64 h), (3, .int .i64 lim), (4, .fn g [])], mms []⟩) (fun i => True) (fun i => 0) 0 (have hW := @hs; q0f) trivial ?_
 intro i _
 unfold qj5
 (have hF := True.intro; refine q01 (k:=?_); clear hF)
 refine q00 [.sl 3 xs, .int .i64 0, .int .i64 h, .fn g []] (he := c1) (k:=?_)
 (have hF := True.intro; refine q01 (k:=?_); clear hF)
 exact Fin.done ⟨[], rfl, rfl, [], trivial, rfl⟩
theorem ev_len64 (x : Int) (h0 : x = 0 ∨ x = 1) : Ev (En Tryz.prog rfl).P 183 [.int .u64 x] (.ret (.int .i64 x)) := by
 refine Ev.of_body it_k183 (by simp) (Run.start ?_)
 unfold t_k183
 rcases h0 with rfl | rfl
 ·(have hF := True.intro; refine q01 (k:=?_); clear hF)
  exact Fin.tmp' (by with_unfolding_all rfl) rfl
 ·(have hF := True.intro; refine q01 (k:=?_); clear hF)
  exact Fin.tmp' (by with_unfolding_all rfl) rfl
theorem ev_len (x : Int) (h0 : x = 0 ∨ x = 1) : Ev (En Tryz.prog rfl).P 164 [.int .u64 x] (.ret (.int .i64 x)) := by
 refine Ev.of_body it_k164 (by simp) (Run.start ?_)
 unfold t_k164
 (have hF := True.intro; refine q01 (k:=?_); clear hF)
 refine q00 [.int .u64 x] (he := ev_len64 x h0) (k:=?_)
 (have hF := True.intro; refine q01 (k:=?_); clear hF)
 exact Fin.tmp' rfl rfl
theorem ev_sort1 (xs : List AVal) (hl : xs.length ≤ 1) (g : FuncId) (hs : q0j xs = true) : Ev (En Tryz.prog rfl).P 142 [.sl 3 xs, .fn g []] (.ret (.tup [])) := by
 refine Ev.of_body zkh (by simp) (Run.start ?_)
 unfold t_k142
 have hS := hs
 have c1 := ev_len xs.length (by omega)
 have c2 := ev_pdq1 xs xs.length xs.length (by omega) (by omega) g hs
 have hwr : IntKind.u64.wrap (xs.length : Int) = (xs.length : Int) := by
  rcases Nat.lt_or_ge xs.length 1 with h | h
  ·rw [show xs.length = 0 by omega]; rfl
  ·rw [show xs.length = 1 by omega]; rfl
 (have hF := @hwr; refine q01 (k:=?_); clear hF)
 refine q00 [.int .u64 xs.length] (he := c1) (k:=?_)
 (have hF := True.intro; refine q01 (k:=?_); clear hF)
 refine q00 [.sl 3 xs, .int .i64 0, .int .i64 xs.length, .int .i64 xs.length, .fn g []] (he := c2) (k:=?_)
 (have hF := True.intro; refine q01 (k:=?_); clear hF)
 exact Fin.done ⟨[], rfl, rfl, [], trivial, rfl⟩
theorem qri (xs : List AVal) (hl : xs.length ≤ 1) (g : FuncId) (hs : q0j xs = true) : Ev (En Tryz.prog rfl).P 143 [.sl 3 xs, .fn g []] (.ret (.sl 3 xs)) := by
 refine Ev.of_body zkg (by simp) (Run.start ?_)
 unfold zax
 (have hF := True.intro; refine q01 (k:=?_); clear hF)
 exact Fin.tmp' rfl hs

def z4l : List SOp := [⟨some 2,.assign (.const (.slice none 0 0)),none⟩,⟨some 3,.assign (.const (.int .i64 0)),none⟩]
instance : Live z4l := ⟨[0]⟩
def z4k : List SOp := [⟨some 4,.assign (.const (.slice none 0 0)),none⟩]
instance : Live z4k := ⟨[0]⟩
def z4j : List SOp := [⟨some 7,.move (.tmp 0),none⟩,⟨some 8,.call ⟨.builtin .len,#[.tmp 7],#[27]⟩,none⟩,⟨some 9,.move (.const (.int .i64 0)),none⟩]
instance : Live z4j := ⟨[0,4]⟩
def z4i : List SOp := [⟨some 10,.binOp .lss 3 (.tmp 9) (.tmp 8) 3,none⟩]
instance : Live z4i := ⟨[4,7,8,9]⟩
def z4h : List SOp := [⟨some 11,.indexAddr 27 (.tmp 7) (.tmp 9),none⟩,⟨some 12,.load 91 (.tmp 11),none⟩,⟨some 6,.alloc 91,none⟩,⟨none,.store 91 (.tmp 6) (.tmp 12),none⟩]
instance : Live z4h := ⟨[4,7,8,9]⟩
def z4g : List SOp := [⟨some 13,.fieldAddr 91 (.tmp 6) 0,none⟩,⟨some 14,.load 9 (.tmp 13),none⟩,⟨some 15,.binOp .neq 9 (.tmp 14) (.const (.string ⟨#[]⟩)) 9,none⟩,⟨some 16,.move (.tmp 15),none⟩,⟨some 17,.fieldAddr 91 (.tmp 6) 0,some ((some 16),true)⟩,⟨some 18,.load 9 (.tmp 17),some ((some 16),true)⟩,⟨some 19,.call ⟨.value (.func 137),#[.tmp 18],#[9]⟩,some ((some 16),true)⟩,⟨some 20,.unOp .not 4 (.tmp 19),some ((some 16),true)⟩,⟨some 21,.pick (.tmp 16) (.tmp 20) (.const (.bool false)),none⟩]
instance : Live z4g := ⟨[4,6,7,8,9]⟩
def z4f : List SOp := [⟨some 2,.assign (.const (.slice none 0 0)),none⟩,⟨some 3,.assign (.const (.int .i64 5)),none⟩]
instance : Live z4f := ⟨[]⟩
def z4e : List SOp := [⟨some 22,.fieldAddr 91 (.tmp 6) 1,none⟩,⟨some 23,.load 26 (.tmp 22),none⟩,⟨some 24,.call ⟨.value (.func 92),#[.tmp 23],#[26]⟩,none⟩,⟨some 25,.unOp .not 4 (.tmp 24),none⟩]
instance : Live z4e := ⟨[4,6,7,8,9]⟩
def z4d : List SOp := [⟨some 26,.move (.tmp 4),none⟩,⟨some 27,.load 91 (.tmp 6),none⟩,⟨some 28,.call ⟨.value (.func 108),#[.tmp 27],#[91]⟩,none⟩,⟨some 29,.buildSlice 27 1 #[(0,.tmp 28)],none⟩,⟨some 30,.call ⟨.builtin .append,#[.tmp 26,.tmp 29],#[27,27]⟩,none⟩,⟨some 4,.assign (.tmp 30),none⟩]
instance : Live z4d := ⟨[4,6,7,8,9]⟩
def qo5 : List SOp := [⟨some 31,.binOp .add 3 (.tmp 9) (.const (.int .i64 1)) 3,none⟩,⟨some 9,.move (.tmp 31),none⟩]
instance : Live qo5 := ⟨[4,7,8,9]⟩
def qo4 : List SOp := [⟨some 32,.move (.tmp 4),none⟩,⟨some 33,.call ⟨.value (.func 142),#[.tmp 32,.func 106],#[27,148]⟩,none⟩]
instance : Live qo4 := ⟨[4]⟩
def qo3 : List SOp := [⟨some 34,.move (.tmp 4),none⟩,⟨some 35,.call ⟨.value (.func 143),#[.tmp 34,.func 144],#[27,164]⟩,none⟩,⟨some 2,.assign (.tmp 35),none⟩,⟨some 3,.assign (.const (.int .i64 0)),none⟩]
instance : Live qo3 := ⟨[4]⟩
def qjw : SC :=
 (.seq (.ops false z4i) (.seq (.cond (.tmp 10) .skip (.exit 0)) (.seq (.block 1 (.seq (.ops false z4h) (.seq (.seq (.ops false z4g) (.cond (.tmp 21) (.seq (.ops false z4f) .ret) .skip)) (.seq (.ops false z4e) (.cond (.tmp 25) (.ops false z4d) .skip))))) (.ops false qo5))))
def t_k113 : SC :=
 (.seq (.ops false z4l) (.seq (.ops false z4k) (.seq (.seq (.ops false z4j) (.block 0 (.loop qjw))) (.seq (.ops false qo4) (.seq (.ops false qo3) .ret)))))
theorem it_k113 : FnIs Tryz.prog 113 36 [.tmp 2, .tmp 3] t_k113 := ⟨Tryz.f113, _, Tryz.func113, rfl, rfl, rfl, rfl, by kernel_rfl⟩

def q5h (l : List Rec) : List Rec := (l.filter fun r => !decide (q3i r.past = 0)).map fun r => ⟨r.sku, q1a r.past⟩
theorem z92 {l : List Rec} {i : Nat} {r : Rec} (h : l[i]? = some r) : q5h (l.take (i + 1)) = q5h (l.take i) ++ if q3i r.past = 0 then [] else [⟨r.sku, q1a r.past⟩] := by
 unfold q5h
 rw [List.take_add_one, h, List.filter_append, List.map_append]
 by_cases hc : q3i r.past = 0 <;> simp [hc]
theorem qox (l : List Rec) : (q5h l).length ≤ l.length := by
 unfold q5h
 rw [List.length_map]
 exact List.length_filter_le _ _

section
open Go.Shelf Go.RowKit Go.Lib Go.Sort
theorem SWO.pull {α β : Type} {lt : α → α → Bool} (h : SWO lt) (f : β → α) : SWO fun x y => lt (f x) (f y) :=
 ⟨fun x => h.irrefl _, fun x y z => h.trans _ _ _, fun x y z => h.ntrans _ _ _⟩
section
variable {P : Program} {ρ : Ren} {τ : Type}
theorem sortOwnR (L : SlLaysF0.n6 P ρ) (hc6 : Callable P (ρ.f 6)) (k : Nat) (h0k : 0 < k) (aE : ∀ w, (isAgg (ρ.t 24)).run P w = .ok true w) (zE : ∀ w, (Go.sizeOf (ρ.t 24)).run P w = .ok k w)
 (c : τ → List AVal) (hk : ∀ x, (c x).length = k) (hst : ∀ x, q0j (c x) = true) (h1c : ∀ x, ∀ y ∈ c x, y.one = true) (cf : τ → τ → Int) (hO : SWO (ltOf cf)) (g : FuncId) (l : List τ) (hl0 : 0 < l.length) (hl : l.length < 4611686018427387904)
 (hcmp : ∀ x ∈ l, ∀ y ∈ l, Ev P g [.agg (c x), .agg (c y)] (.ret (.int .i64 (cf x y)))) :
 ∃ s : List τ, s.Perm l ∧ s.Pairwise (fun x y => ltOf cf y x = false) ∧ EvOwn P (ρ.f 6) [.undef, .fn g []] 0 k (l.map fun x => .agg (c x)) false (.tup []) (s.map fun x => .agg (c x)) := by
 let τ' := _root_.Fin l.length
 let lx : τ' → τ := fun i => l[i]
 letI : Inhabited τ' := ⟨⟨0, hl0⟩⟩
 let cf' : τ' → τ' → Int := fun i j => cf (lx i) (lx j)
 let c' : τ' → List AVal := fun i => c (lx i)
 have hO' : SWO (ltOf cf') := SWO.pull hO lx
 have hmem : ∀ i : τ', lx i ∈ l := fun i => List.getElem_mem _
 have hdl : (List.finRange l.length).map lx = l := by
  apply List.ext_getElem
  ·rw [List.length_map, List.length_finRange]
  ·intro i h1 h2
   rw [List.getElem_map, List.getElem_finRange]
   rfl
 let d : Array τ' := (List.finRange l.length).toArray
 let d' := pdq (ltOf cf') d 0 d.size (Lib.bitLen d.size) true true
 have hds : d.size = l.length := by
  show (List.finRange l.length).toArray.size = _
  rw [List.size_toArray, List.length_finRange]
 obtain ⟨hp, hsrt⟩ := pdq_sorts (ltOf cf') hO' d 0 d.size (Lib.bitLen d.size) true true (Nat.zero_le _) (Nat.le_refl _) (Or.inl rfl)
 have hsz' : d'.size = d.size := hp.1
 have hperm : d'.toList.Perm (List.finRange l.length) := by
  have := hp.2.2
  have e : ∀ (x : Array τ') (n : Nat), x.size = n → x.extract 0 n = x := by rintro x n rfl; exact Array.extract_size
  rw [e d _ rfl, e _ _ hsz'] at this
  simpa [d] using this
 have hpw : d'.toList.Pairwise (fun x y => ltOf cf' y x = false) := by
  rw [List.pairwise_iff_getElem]
  intro i j hi hj hij
  have h1 : i < d'.size := by simpa using hi
  have h2 : j < d'.size := by simpa using hj
  have := hsrt i j (Nat.zero_le _) hij (by rw [← hsz']; exact h2)
  rw [show (pdq (ltOf cf') d 0 d.size (Lib.bitLen d.size) true true) = d' from rfl, getElem!_pos d' i h1, getElem!_pos d' j h2] at this
  simpa using this
 refine ⟨d'.toList.map lx, ?_, ?_, hc6, fun B w vs G hkey hvs hv hown hB hol => ?_⟩
 ·have := hperm.map lx
  rwa [hdl] at this
 ·rw [List.pairwise_map]
  exact hpw
 obtain ⟨v0, hv0, hown⟩ := hown
 obtain ⟨v1, hv1⟩ : ∃ v, vs[1]? = some v := ⟨vs[1]'(by rw [hvs]; simp), by simp [hvs]⟩
 have hfn := hv 1 (.fn g []) v1 (by decide) rfl hv1
 have hf1 : v1 = .func (.func g) #[] #[] := by
  cases hfn with
  | fn _ _ ws hl0 _ =>
   have : ws = #[] := Array.eq_empty_of_size_eq_zero (by simpa using hl0)
   rw [this]
 have hvs' : vs = #[v0, v1] := by
  have h2 : vs.size = 2 := hvs
  apply Array.ext_getElem?
  intro i
  match i with
  | 0 => simpa using hv0
  | 1 => simpa using hv1
  | i + 2 => rw [Array.getElem?_eq_none (by omega)]; simp
 rw [hvs', hf1]
 rcases hown with ⟨rfl, hnil⟩ | ⟨b, off, cap, cc, el, hb1, hb2, hb3, hb4, hb5, hb6, hb7, hb8, hb9⟩
 ·have : l = [] := by simpa using hnil
  rw [this] at hl0
  simp at hl0
 ·rw [q46] at hb8 hb9
  have hblk : b < w.heap.size := by
   rcases Nat.lt_or_ge b w.heap.size with h | h
   ·exact h
   ·rw [Array.getElem?_eq_none h] at hb5; cases hb5
  have hlen : (l.map fun x => AVal.agg (c x)).length = l.length := by simp
  rw [hlen] at hb1 hb2
  have hroom : off + l.length * k ≤ cc.size := by
   have := Nat.mul_le_mul_right k hb2
   omega
  let enc : τ' → List Value := fun i => (List.range k).map fun j => cc.getD (off + (i.val * k + j)) undef
  have hek : ∀ x, (enc x).length = k := fun x => by simp [enc]
  have cellE : ∀ (i : τ') (j : Nat) (y : AVal), (c' i)[j]? = some y → ∃ u, (enc i)[j]? = some u ∧ cc[off + (i.val * k + j)]? = some u ∧ VR (Dm NoM) G B w y u := by
   intro i j y hy
   have hj : j < k := by
    rw [← hk (lx i)]
    rcases Nat.lt_or_ge j (c' i).length with h | h
    ·exact h
    ·rw [List.getElem?_eq_none h] at hy; cases hy
   obtain ⟨u, hu, hr⟩ := hb9 (i.val * k + j) y (by rw [qb5 hk (x := lx i) (List.getElem?_eq_getElem i.isLt) hj]; exact hy)
   exact ⟨u, by simp [enc, hj, hu], hu, hr⟩
  have encOf : ∀ (i : τ') (u : Value), u ∈ enc i → ∃ (j : Nat) (y : AVal), (c' i)[j]? = some y ∧ (enc i)[j]? = some u := by
   intro i u hu
   obtain ⟨j, hj, hu'⟩ := List.getElem_of_mem hu
   have hj' : j < (c' i).length := by rw [hk]; rwa [hek] at hj
   exact ⟨j, _, List.getElem?_eq_getElem hj', by rw [← hu']; exact List.getElem?_eq_getElem hj⟩
  have he1 : ∀ x, ∀ v ∈ enc x, v.oneCell' = true := fun x v hv => by
   obtain ⟨j, y, hy, hu⟩ := encOf x v hv
   obtain ⟨u, hu2, _, hr⟩ := cellE x j y hy
   rw [hu] at hu2
   cases hu2
   exact hr.oneCell (h1c (lx x) y (List.mem_of_getElem? hy))
  have cellv : ∀ (m : Array τ') (t : Nat), t < m.size * k → ∃ (x : τ') (y : AVal) (u : Value), m.toList[t / k]? = some x ∧ (c' x)[t % k]? = some y ∧ ((m.toList.map lx).flatMap c)[t]? = some y ∧ (flatK enc k m)[t]! = u ∧ cc[off + (x.val * k + t % k)]? = some u ∧ VR (Dm NoM) G B w y u := by
   intro m t ht
   have h1 : t / k < m.size := Nat.div_lt_of_lt_mul (by rw [Nat.mul_comm]; exact ht)
   have h2 : t % k < k := Nat.mod_lt _ h0k
   have hx : m.toList[t / k]? = some m[t / k] := by simp [h1]
   have hy : (c' m[t / k])[t % k]? = some ((c' m[t / k])[t % k]'(by rw [hk]; exact h2)) := by simp [hk, h2]
   obtain ⟨u, hu1, hu2, hr⟩ := cellE m[t / k] (t % k) _ hy
   refine ⟨m[t / k], _, u, hx, hy, ?_, ?_, hu2, hr⟩
   ·have hx' : (m.toList.map lx)[t / k]? = some (lx m[t / k]) := by rw [List.getElem?_map, hx]; rfl
    rw [← hy, ← qb5 hk hx' h2, Nat.mul_comm, Nat.div_add_mod]
   ·rw [get_flatK _ _ _ _ ht, getElem!_pos m _ h1, getElem!_pos (enc m[t / k]) _ (by rw [hek]; exact h2)]
    rw [List.getElem?_eq_getElem (by rw [hek]; exact h2)] at hu1
    exact Option.some.inj hu1
  have hdget : ∀ (t : Nat) (x : τ'), d.toList[t]? = some x → x.val = t := by
   intro t x hx
   have hx : (List.finRange l.length)[t]? = some x := hx
   rw [List.getElem?_eq_some_iff] at hx
   obtain ⟨h1, h2⟩ := hx
   rw [List.getElem_finRange] at h2
   rw [← h2]
   rfl
  have hH : HoldsK enc k w b off d := by
   intro t ht
   rw [size_flatK, hds] at ht
   obtain ⟨x, y, u, e1, e2, e3, e4, e5, e6⟩ := cellv d t (by rw [hds]; exact ht)
   have hx := hdget _ _ e1
   have hidx : x.val * k + t % k = t := by rw [hx, Nat.mul_comm]; exact Nat.div_add_mod t k
   rw [hidx] at e5
   refine ⟨?_, ?_⟩
   ·rw [q39 hb5, e5, e4]; rfl
   ·simp [World.frozen?, hb5]
  have hbg : G.ow b ≠ none := by rw [hb3]; simp
  have hwk : ∀ (m : Nat) (os : Array Obj) (dk : Array τ') (b' : Nat), b' < w.heap.size → (sortWorldK enc k w b off m dk os).heap[b']? = if b' = b then some (.cells (putCells id off (flatK enc k dk) cc) el (0, 0)) else w.heap[b']? := by
   intro m os dk b' hb'
   simp only [sortWorldK, grow, putRowK, putRow, mapBlock, Sort.ahead]
   rw [Array.getElem?_append_left (by simpa using hb'), Array.getElem?_modify]
   by_cases hbb : b = b'
   ·subst hbb
    rw [if_pos rfl, if_pos rfl, hb5]
    rfl
   ·rw [if_neg hbb, if_neg (Ne.symm hbb)]
  have hstw : ∀ (m : Nat) (os : Array Obj) (dk : Array τ') (G' : Gh) (B' : Nat → Prop), (∀ b', G.ow b' = none → G'.ow b' = none) → (∀ b', B' b' → B b') → ∀ (y : AVal) (u : Value), y.stb = true → VR (Dm NoM) G B w y u → VR (Dm NoM) G' B' (sortWorldK enc k w b off m dk os) y u := by
   intro m os dk G' B' hG hBB y u hy hr
   refine hr.stable (fun b' hb' hn ho => ⟨?_, fun hc => hn (hBB _ hc), hG _ ho⟩) hy
   rw [hwk m os dk b' hb', if_neg]
   rintro rfl
   exact hbg ho
  have hlays : CmpLays P g #[] enc k cf' b off d.size w := by
   intro m os dk hdk x y
   have hone : ∀ x : τ', VR (Dm NoM) { G with ow := fun _ => none } (fun _ => False) (sortWorldK enc k w b off m dk os) (.agg (c' x)) (.agg (enc x).toArray) := fun x => by
    refine .agg _ _ (by simp [hek, c', hk]) fun n z v hz hv => ?_
    obtain ⟨u, hu, _, hr⟩ := cellE x n z hz
    rw [List.getElem?_toArray, hu] at hv
    rw [← Option.some.inj hv]
    exact hstw m os dk _ _ (fun _ _ => rfl) (fun _ h => False.elim h) z u (q41 (hst (lx x)) hz) hr
   have hE := (hcmp _ (hmem x) _ (hmem y)).2 (fun _ => False) (sortWorldK enc k w b off m dk os) #[.agg (enc x).toArray, .agg (enc y).toArray] { G with ow := fun _ => none } (fun _ => rfl) rfl (fun i z v hz hv => ?_) (fun _ h => h.elim)
   ·refine hE.mono ?_
    rintro e w' ⟨G', v', hG', hA, he, hr⟩
    cases hr
    exact ⟨he, hA.grown (fun _ => rfl)⟩
   ·match i with
    | 0 => simp at hz hv; subst hz; subst hv; exact hone x
    | 1 => simp at hz hv; subst hz; subst hv; exact hone y
    | i + 2 => simp at hz
  have eg : ∀ args w, (callFunc g args).run P w = .ok (.enter g args) w := fun args w => by
   obtain ⟨fn, hfn, hnm, hbd⟩ := (hcmp _ (hmem default) _ (hmem default)).1.ok
   have e1 : (fn.name = "runtime.NumGoroutine") = False := by simpa using hnm
   have e2 : (fn.body = none) = False := by simp only [eq_iff_iff, iff_false]; intro hn; rw [hn] at hbd; simp at hbd
   simp [callFunc, hfn, e1, e2]
  have hmain := AnyQ.slices_SortFunc_eq L k aE zE enc hek he1 cf' hO' g #[] b off cap d w eg hlays hH hblk (by rw [hds]; exact hl)
  rw [hb1, show l.length = d.size by rw [hds]]
  refine hmain.mono ?_
  rintro e w' ⟨rfl, n, os, hw'⟩
  have hw0 : ∀ b', b' < w.heap.size → w'.heap[b']? = if b' = b then some (.cells (putCells id off (flatK enc k d') cc) el (0, 0)) else w.heap[b']? := by
   intro b' hb'
   rw [hw']
   exact hwk _ _ _ _ hb'
  have hsize : w.heap.size ≤ w'.heap.size := by
   rw [hw']
   simp [sortWorldK, grow, putRowK, putRow, mapBlock, Sort.ahead]
  have hkeep : ∀ b', b' < w.heap.size → G.ow b' = none → w'.heap[b']? = w.heap[b']? ∧ G.ow b' = none := fun b' hb' ho => by
   refine ⟨?_, ho⟩
   rw [hw0 b' hb', if_neg]
   rintro rfl
   rw [hb3] at ho; cases ho
  have hA : Adv G w G w' := ⟨by rw [hw']; exact ⟨rfl, Nat.le_add_right _ _⟩, by rw [hw']; rfl, by rw [hw']; rfl, hsize, hkeep⟩
  refine ⟨G, .tuple #[], v0, rfl, hkey, fun b' hb' => Nat.lt_of_lt_of_le (hol b' hb') hsize, hA, .inr ⟨b, off, cap, putCells id off (flatK enc k d') cc, el, ?_, ?_, hb3, hb4, ?_, ?_, ?_, ?_, ?_⟩, fun h => (by cases h), fun _ => ⟨by simp [hb1, hds], .tup [] #[] rfl fun n x v hx => by simp at hx⟩⟩
  ·rw [hb1]; simp [hsz', hds]
  ·simp only [List.length_map, Array.length_toList, hsz', hds]; exact hb2
  ·rw [hw0 b hblk, if_pos rfl]
  ·simp only [putCells, Array.size_mapIdx]; exact hb6
  ·intro x hx
   obtain ⟨z, _, rfl⟩ := List.mem_map.1 hx
   exact hk z
  ·intro x hx
   rw [q46] at hx
   obtain ⟨z, _, hz⟩ := List.mem_flatMap.1 hx
   exact h1c z x hz
  ·intro t x hx
   rw [q46] at hx
   have htl : t < d'.size * k := by
    have h1 : t < ((d'.toList.map lx).flatMap c).length := by
     rcases Nat.lt_or_ge t ((d'.toList.map lx).flatMap c).length with h | h
     ·exact h
     ·rw [List.getElem?_eq_none h] at hx; cases hx
    rwa [← q46, q0r (sz := k) (fun y hy => by obtain ⟨z, _, rfl⟩ := List.mem_map.1 hy; exact hk z), List.length_map, List.length_map, Array.length_toList] at h1
   obtain ⟨z, y, u, e1, e2, e3, e4, e5, e6⟩ := cellv d' t htl
   rw [hx] at e3
   cases e3
   have hlt : off + t < cc.size := by rw [hsz', hds] at htl; omega
   refine ⟨u, ?_, ?_⟩
   ·simp only [putCells, Array.getElem?_mapIdx, Array.getElem?_eq_getElem hlt, Option.map_some]
    rw [if_pos ⟨by omega, by rw [size_flatK]; omega⟩, show off + t - off = t by omega, e4]
    rfl
   ·rw [hw']
    exact hstw _ _ _ G B (fun _ h => h) (fun _ h => h) x u (q41 (hst (lx z)) e2) e6
end
end
section
open Go.Proofs Go.Shelf Go.RowKit Go.Lib Go.Sort
def qdz : Go.Shelf.Ren := ⟨fun | 6 => 142 | 15 => 164 | 14 => 163 | 28 => 182 | 29 => 183 | 20 => 174 | 21 => 175 | 22 => 176 | 23 => 177 | 24 => 178 | 25 => 179 | 26 => 180 | 27 => 181 | 46 => 188 | 47 => 189 | 48 => 190 | 49 => 191 | 50 => 192 | 57 => 197 | n => n, fun | 22 => 27 | 24 => 91 | 25 => 148 | 3 => 3 | 39 => 204 | 0 => 0 | 53 => 220 | 55 => 79 | 4 => 4 | 46 => 213 | 45 => 212 | 50 => 217 | 5 => 5 | 9 => 9 | 66 => 227 | 70 => 231 | 76 => 234 | 77 => 205 | n => n, fun | n => n⟩
theorem qr6 : Go.Proofs.SlLaysF0.n6 Tryz.prog qdz where
 mixed := by kernel_rfl
 f6 := ⟨Tryz.f142.name, by decide, Tryz.func142.trans (congrArg some (by kernel_rfl))⟩
 f14 := ⟨Tryz.f163.name, by decide, Tryz.func163.trans (congrArg some (by kernel_rfl))⟩
 f15 := Tryz.func164.trans (congrArg some (by kernel_rfl))
 f20 := ⟨Tryz.f174.name, by decide, Tryz.func174.trans (congrArg some (by kernel_rfl))⟩
 f21 := ⟨Tryz.f175.name, by decide, Tryz.func175.trans (congrArg some (by kernel_rfl))⟩
 f22 := ⟨Tryz.f176.name, by decide, Tryz.func176.trans (congrArg some (by kernel_rfl))⟩
 f23 := ⟨Tryz.f177.name, by decide, Tryz.func177.trans (congrArg some (by kernel_rfl))⟩
 f24 := ⟨Tryz.f178.name, by decide, Tryz.func178.trans (congrArg some (by kernel_rfl))⟩
 f25 := ⟨Tryz.f179.name, by decide, Tryz.func179.trans (congrArg some (by kernel_rfl))⟩
 f26 := ⟨Tryz.f180.name, by decide, Tryz.func180.trans (congrArg some (by kernel_rfl))⟩
 f27 := ⟨Tryz.f181.name, by decide, Tryz.func181.trans (congrArg some (by kernel_rfl))⟩
 f28 := Tryz.func182.trans (congrArg some (by kernel_rfl))
 f29 := Tryz.func183.trans (congrArg some (by kernel_rfl))
 f46 := ⟨Tryz.f188.name, by decide, Tryz.func188.trans (congrArg some (by kernel_rfl))⟩
 f47 := Tryz.func189.trans (congrArg some (by kernel_rfl))
 f48 := Tryz.func190.trans (congrArg some (by kernel_rfl))
 f49 := ⟨Tryz.f191.name, by decide, Tryz.func191.trans (congrArg some (by kernel_rfl))⟩
 f50 := ⟨Tryz.f192.name, by decide, Tryz.func192.trans (congrArg some (by kernel_rfl))⟩
 f57 := ⟨Tryz.f197.name, by decide, Tryz.func197.trans (congrArg some (by kernel_rfl))⟩
 t0 := Tryz.underlying0
 a0 := Tryz.isAgg0
 z0 := Tryz.sizeOf0
 v0 := Tryz.zeroValue0
 t3 := Tryz.underlying3
 a3 := Tryz.isAgg3
 z3 := Tryz.sizeOf3
 v3 := Tryz.zeroValue3
 t4 := Tryz.underlying4
 a4 := Tryz.isAgg4
 z4 := Tryz.sizeOf4
 v4 := Tryz.zeroValue4
 t5 := Tryz.underlying5
 a5 := Tryz.isAgg5
 z5 := Tryz.sizeOf5
 v5 := Tryz.zeroValue5
 t9 := Tryz.underlying9
 a9 := Tryz.isAgg9
 z9 := Tryz.sizeOf9
 v9 := Tryz.zeroValue9
 t22 := Tryz.underlying27
 a22 := Tryz.isAgg27
 z22 := Tryz.sizeOf27
 v22 := Tryz.zeroValue27
 t25 := Tryz.underlying148
 a25 := Tryz.isAgg148
 z25 := Tryz.sizeOf148
 v25 := Tryz.zeroValue148
 t39 := Tryz.underlying204
 a39 := Tryz.isAgg204
 z39 := Tryz.sizeOf204
 v39 := Tryz.zeroValue204
 t45 := Tryz.underlying212
 a45 := Tryz.isAgg212
 z45 := Tryz.sizeOf212
 v45 := Tryz.zeroValue212
 t46 := Tryz.underlying213
 a46 := Tryz.isAgg213
 z46 := Tryz.sizeOf213
 v46 := Tryz.zeroValue213
 t50 := Tryz.underlying217
 a50 := Tryz.isAgg217
 z50 := Tryz.sizeOf217
 v50 := Tryz.zeroValue217
 t53 := Tryz.underlying220
 a53 := Tryz.isAgg220
 z53 := Tryz.sizeOf220
 v53 := Tryz.zeroValue220
 t55 := Tryz.underlying79
 a55 := Tryz.isAgg79
 z55 := Tryz.sizeOf79
 v55 := Tryz.zeroValue79
 t66 := Tryz.underlying227
 a66 := Tryz.isAgg227
 z66 := Tryz.sizeOf227
 v66 := Tryz.zeroValue227
 t70 := Tryz.underlying231
 a70 := Tryz.isAgg231
 z70 := Tryz.sizeOf231
 v70 := Tryz.zeroValue231
 t76 := Tryz.underlying234
 a76 := Tryz.isAgg234
 z76 := Tryz.sizeOf234
 v76 := Tryz.zeroValue234
 t77 := Tryz.underlying205
 a77 := Tryz.isAgg205
 z77 := Tryz.sizeOf205
 v77 := Tryz.zeroValue205
end
def z0x : List SOp := [⟨some 2,.box 91 (.tmp 0),none⟩,⟨some 3,.box 91 (.tmp 1),none⟩,⟨some 4,.assign (.const (.bool false)),none⟩]
instance : Live z0x := ⟨[0,1]⟩
def z0w : List SOp := [⟨some 5,.load 91 (.tmp 2),none⟩,⟨some 6,.load 91 (.tmp 3),none⟩,⟨some 7,.call ⟨.value (.func 106),#[.tmp 5,.tmp 6],#[91,91]⟩,none⟩,⟨some 8,.binOp .eql 3 (.tmp 7) (.const (.int .i64 0)) 3,none⟩,⟨some 4,.assign (.tmp 8),none⟩]
instance : Live z0w := ⟨[2,3]⟩
def t_k144 : SC :=
 (.seq (.ops false z0x) (.seq (.ops false z0w) .ret))
theorem it_k144 : FnIs Tryz.prog 144 9 [.tmp 4] t_k144 := ⟨Tryz.f144, _, Tryz.func144, rfl, rfl, rfl, rfl, by kernel_rfl⟩

section
open Go.Proofs Go.Shelf Go.RowKit Go.Lib Go.Sort
def WkQ (n : Nat) (Q : Ex → AS → Prop) : Ex → AS → Prop
 | .pan x, s => Q (.pan x) s
 | e, s => ∃ s2, Wk n s s2 ∧ Q e s2
theorem AW.wkEnd {E : Env} {n : Nat} {Q : Ex → AS → Prop} {s : AS} {x : SC} (h : AW E n x (WkQ n Q) s) : AW E n x Q s := fun c hc B G a w hR Q' hP =>
 h c hc B G a w hR Q' fun e s1 a' w' G' hA hR' hq => by
  cases e with
  | pan x => exact hP (.pan x) s1 a' w' G' hA hR' hq
  | normal => obtain ⟨s2, hw, hq2⟩ := hq; obtain ⟨G2, h2, a2⟩ := hw B G' a' w' hR'; exact hP .normal s2 a' w' G2 (hA.trans a2) h2 hq2
  | ret => obtain ⟨s2, hw, hq2⟩ := hq; obtain ⟨G2, h2, a2⟩ := hw B G' a' w' hR'; exact hP .ret s2 a' w' G2 (hA.trans a2) h2 hq2
  | exit id => obtain ⟨s2, hw, hq2⟩ := hq; obtain ⟨G2, h2, a2⟩ := hw B G' a' w' hR'; exact hP (.exit id) s2 a' w' G2 (hA.trans a2) h2 hq2
theorem qre (l : List Rec) (hw : ∀ r ∈ l, wt r.past ≤ 50000000) (h0 : 0 < l.length) (hl : l.length ≤ 1000000000) :
 ∃ s : List Rec, s.Perm l ∧ s.Pairwise (fun a b => q4b a b ≤ 0) ∧ EvOwn (En Tryz.prog rfl).P 142 [.undef, .fn 106 []] 0 3 (q09 l) false (.tup []) (q09 s) := by
 obtain ⟨s, h1, h2, h3⟩ := sortOwnR (τ := Rec) qr6 (FnIs.callable zkh) 3 (by decide) Tryz.isAgg91 Tryz.sizeOf91 (fun r => [.str r.sku, .sl 1 (q05 r.past.vec), .sl 3 (q0c r.past.cloud)]) (fun _ => rfl)
  (fun x => by simp [AVal.stb, q0j, q03, q04]) (fun x y hy => by simp at hy; rcases hy with rfl | rfl | rfl <;> rfl) q4b cmpR_SWO 106 l h0 (by omega) (fun x hx y hy => qrh x y (hw x hx) (hw y hy))
 refine ⟨s, h1, h2.imp fun {a b} h => ?_, h3⟩
 unfold ltOf at h
 simp only [decide_eq_false_iff_not] at h
 have := q67 a b
 omega
theorem q92 (a b : Rec) (ha : wt a.past ≤ 50000000) (hb : wt b.past ≤ 50000000) : Ev (En Tryz.prog rfl).P 144 [q5n a, q5n b] (.ret (.bool (decide (q4b a b = 0)))) := by
 refine Ev.of_body it_k144 (by simp) (Run.start ?_)
 unfold t_k144
 have c1 := qrh a b ha hb
 unfold q5n at c1 ⊢
 have hS := qq9
 (have hF := True.intro; refine q01 (k:=?_); clear hF)
 refine q00 [q5n a, q5n b] (he := c1) (k:=?_)
 (have hF := True.intro; refine q01 (k:=?_); clear hF)
 exact Fin.tmp' rfl rfl
theorem zmb {TE : TyE} {M : Mem} {t el : TypeId} {k e sz i n s1 b1 : Nat} {z1 : Value} {ei : TyI} {xs : List AVal} (ht : TE t = some ⟨.slice el, s1, b1, z1⟩) (he : TE el = some ei) (hM : M k = some (.arr e sz xs)) (hok : ei.okElem = true)
 (hs : sz = ei.size) (h1 : i + n ≤ xs.length) (h0 : 0 < n) : qg9 TE M t (.vw k e sz i n) = some (.tup [], [(k, .arr e sz (xs.take i ++ List.replicate n ei.zeroElem ++ xs.drop (i + n)))]) := by
 simp [qg9, ht, he, hM, hok, hs, h1, h0]
theorem zmn {E : Env} {Q : Ex → AS → Prop} {r : List SOp} {T : q1x} {M : Mem} {a : Tmp} {t el : TypeId} {k e sz i n s1 b1 : Nat} {z1 : Value} {ei : TyI} {xs : List AVal} (hx : T a = .vw k e sz i n) (hM : M k = some (.arr e sz xs)) (ht : E.TE t = some ⟨.slice el, s1, b1, z1⟩) (he : E.TE el = some ei)
 (hok : ei.okElem = true) (hs : sz = ei.size) (h1 : i + n ≤ xs.length) (h0 : 0 < n) (kk : q0d E false none Q r ⟨T, upd M k (some (.arr e sz (xs.take i ++ List.replicate n ei.zeroElem ++ xs.drop (i + n))))⟩) :
 q0d E false none Q (⟨none, .call ⟨.builtin .clear, #[.tmp a], #[t]⟩, none⟩ :: r) ⟨T, M⟩ := by
 have h := zmb ht he hM hok hs h1 h0
 exact dv (v := .tup []) (ups := [(k, .arr e sz (xs.take i ++ List.replicate n ei.zeroElem ++ xs.drop (i + n)))]) rfl (show qg9 E.TE M t (T a) = _ by rw [hx]; exact h) (by simp [z9t, qij]) rfl kk
theorem zlr (l : List Rec) (k : Nat) (s : ByteArray) (v : List Int) (c : List Sn) : (q09 l).set k (.agg [.str s, .sl 1 (q05 v), .sl 3 (q0c c)]) = q09 (l.set k ⟨s, ⟨v, c⟩⟩) := by
 unfold q09
 rw [List.map_set]
 rfl
theorem z9n (l : List Rec) (hw : ∀ r ∈ l, wt r.past ≤ 50000000) (hl : l.length ≤ 1000000000) :
 EvOwn (En Tryz.prog rfl).P 143 [.undef, .fn 144 []] 0 3 (q09 l) true .undef (q09 (cpt l l.length)) := by
 refine EvOwn.of_body zkg (by simp) (AW.wkEnd (Run.start ?_))
 unfold zax qe2
 have e1 := q0p l
 have hS := qq9
 by_cases h2 : l.length < 2
 ·rw [qce (Nat.le_refl _) (fun j x y hj => absurd hj (by omega)), List.take_length]
  (have hF := @e1; refine q01 (k:=?_); clear hF)
  exact Fin.done ⟨_, Wk.refl _ _, _, rfl, rfl, q02 _⟩
 ·(have hF := @e1; refine q01 (k:=?_); clear hF)
  refine Run.wk (Wk.view 0 0 0 3 rfl rfl (by rw [e1]; omega)) ?_
  rw [e1]
  have h01 : ((0 + 1 : Nat) : Int) = 1 := rfl
  refine Run.while (σ := Nat) (fun j => ⟨tms [(0, .vw 0 0 3 0 l.length), (1, .fn 144 []), (5, .int .i64 ((j + 1 : Nat) : Int))], mms [(0, .arr 0 3 (q09 l))]⟩)
   (fun j => j + 1 ≤ l.length ∧ ∀ (m : Nat) x y, m + 1 < j + 1 → l[m]? = some y → l[m + 1]? = some x → q4b x y ≠ 0) (fun j => l.length - j) 0 (have hW := (aI @q02 @h01); q0f) ⟨by omega, fun m x y hm => absurd hm (by omega)⟩ ?_
  rintro j ⟨hj, hd⟩
  unfold qjg
  by_cases hlt : j + 1 < l.length
  ·obtain ⟨x, hx⟩ : ∃ x, l[j + 1]? = some x := ⟨l[j + 1], by simp [hlt]⟩
   obtain ⟨y, hy⟩ : ∃ y, l[j]? = some y := ⟨l[j], by simp [show j < l.length by omega]⟩
   have g1 := q15 hx
   have g2 := q15 hy
   have w1 : IntKind.i64.wrap (((j + 1 : Nat) : Int) - 1) = (j : Int) := by rw [q2o (by omega)]; omega
   have n1 : ((j + 1 : Nat) : Int).toNat = j + 1 := Int.toNat_natCast _
   have n2 : (j : Int).toNat = j := Int.toNat_natCast _
   have c1 := q92 x y (hw x (List.mem_of_getElem? hx)) (hw y (List.mem_of_getElem? hy))
   (have hF := (aI (aI @e1 (aI @g1 @g2)) (aI (aI @w1 @n1) (aI @n2 @Nat.zero_add))); refine q01 (k:=?_); clear hF)
   refine q00 [q5n x, q5n y] (he := c1) (k:=?_)
   by_cases hz : q4b x y = 0
   ·rw [decide_eq_true hz]
    (have hF := (aI @e1 (aI @n1 @Nat.zero_add)); refine q01 (k:=?_); clear hF)
    have h01 : ((0 + 1 : Nat) : Int) = 1 := rfl
    have hcp := qce (l := l) (n := j + 1) (by omega) hd
    have hcp2 := qcd (l := l) (n := j + 1) (by omega) hx (by simpa using hy)
    rw [if_pos hz, List.append_nil, hcp] at hcp2
    refine Run.while (σ := Nat × Nat × List Rec) (fun z => ⟨tms [(0, .vw 0 0 3 0 l.length), (1, .fn 144 []), (5, .int .i64 (z.2.1 : Int)), (6, .vw 0 0 3 (j + 1) (l.length - (j + 1))), (7, .int .i64 ((z.1 + 1 : Nat) : Int))], mms [(0, .arr 0 3 (q09 z.2.2))]⟩)
     (fun z => z.1 + 1 ≤ l.length - (j + 1) ∧ z.2.2.length = l.length ∧ 1 ≤ z.2.1 ∧ z.2.1 ≤ j + 1 + z.1 ∧ z.2.2.take z.2.1 = cpt l (j + 1 + (z.1 + 1)) ∧ ∀ m, j + 1 + z.1 ≤ m → z.2.2[m]? = l[m]?) (fun z => l.length - z.1) (0, j + 1, l) (have hW := (aI @q02 @h01); q0f)
     ⟨show 0 + 1 ≤ l.length - (j + 1) by omega, rfl, show 1 ≤ j + 1 by omega, show j + 1 ≤ j + 1 + 0 by omega, by simpa using hcp2.symm, fun _ _ => rfl⟩ ?_
    rintro ⟨q, k, cur⟩ ⟨q1, q2, q3, q4, q5, q6⟩
    simp only at q1 q2 q3 q4 q5 q6
    have e2 := q0p cur
    rw [q2] at e2
    unfold qjf
    by_cases hq : q + 1 < l.length - (j + 1)
    ·obtain ⟨u, hu⟩ : ∃ u, l[j + 1 + (q + 1)]? = some u := ⟨l[j + 1 + (q + 1)], by simp [show j + 1 + (q + 1) < l.length by omega]⟩
     obtain ⟨v, hv⟩ : ∃ v, l[j + 1 + q]? = some v := ⟨l[j + 1 + q], by simp [show j + 1 + q < l.length by omega]⟩
     obtain ⟨o, ho⟩ : ∃ o, cur[k]? = some o := ⟨cur[k]'(by omega), by simp [show k < cur.length by omega]⟩
     have g3 := q15 (show cur[j + 1 + (q + 1)]? = some u by rw [q6 _ (by omega)]; exact hu)
     have g4 := q15 (show cur[j + 1 + q]? = some v by rw [q6 _ (by omega)]; exact hv)
     have g5 := q15 ho
     have w2 : IntKind.i64.wrap (((q + 1 : Nat) : Int) - 1) = (q : Int) := by rw [q2o (by omega)]; omega
     have n3 : ((q + 1 : Nat) : Int).toNat = q + 1 := Int.toNat_natCast _
     have n4 : (q : Int).toNat = q := Int.toNat_natCast _
     have n5 : (k : Int).toNat = k := Int.toNat_natCast _
     have c2 := q92 u v (hw u (List.mem_of_getElem? hu)) (hw v (List.mem_of_getElem? hv))
     have hst := qcd (l := l) (n := j + 1 + (q + 1)) (by omega) hu (by rw [show j + 1 + (q + 1) - 1 = j + 1 + q by omega]; exact hv)
     (have hF := (aI (aI @e2 (aI @g3 @g4)) (aI (aI @w2 @n3) (aI @n4 @Nat.zero_add))); refine q01 (k:=?_); clear hF)
     refine q00 [q5n u, q5n v] (he := c2) (k:=?_)
     by_cases hz2 : q4b u v = 0
     ·rw [if_pos hz2, List.append_nil] at hst
      rw [decide_eq_true hz2]
      (have hF := @e2; refine q01 (k:=?_); clear hF)
      have hs2 : ((q + 1 : Nat) : Int) + 1 = ((q + 1 + 1 : Nat) : Int) := rfl
      (refine Fin.nextW ((q + 1, k, cur)) ?_ (have hW := (aI @q02 @hs2); q0f); (try dsimp only))
      exact ⟨⟨show q + 1 + 1 ≤ _ by omega, q2, q3, show k ≤ j + 1 + (q + 1) by omega, by rw [q5]; exact hst.symm, fun m hm => q6 m (by omega)⟩, show l.length - (q + 1) < l.length - q by omega⟩
     ·rw [if_neg hz2] at hst
      rw [decide_eq_false hz2]
      (have hF := (aI (aI @e2 (aI @g3 @g4)) (aI (aI @g5 @n3) (aI @n5 @Nat.zero_add))); refine q01 (k:=?_); clear hF)
      have hs2 : ((q + 1 : Nat) : Int) + 1 = ((q + 1 + 1 : Nat) : Int) := rfl
      have hs3 : (k : Int) + 1 = ((k + 1 : Nat) : Int) := rfl
      (refine Fin.nextW ((q + 1, k + 1, cur.set k u)) ?_ (have hW := (aI (aI @q02 @hs2) (aI @hs3 @zlr)); q0f); (try dsimp only))
      have hk : (cur.set k u).take (k + 1) = cur.take k ++ [u] := by
       rw [List.take_add_one, List.take_set_of_le (Nat.le_refl k)]
       simp [show k < cur.length by omega]
      exact ⟨⟨show q + 1 + 1 ≤ _ by omega, by simpa using q2, show 1 ≤ k + 1 by omega, show k + 1 ≤ j + 1 + (q + 1) by omega, by rw [hk, q5]; exact hst.symm, fun m hm => by
       rw [List.getElem?_set_ne (show k ≠ m by omega)]; exact q6 m (by omega)⟩, show l.length - (q + 1) < l.length - q by omega⟩
    ·have hql : j + 1 + (q + 1) = l.length := by omega
     rw [hql] at q5
     have n5 : (k : Int).toNat = k := Int.toNat_natCast _
     (have hF := (aI @e2 (aI @n5 @Nat.zero_add)); refine q01 (k:=?_); clear hF)
     refine zmn rfl rfl (el := 91) (by with_unfolding_all rfl) (by with_unfolding_all rfl) (by with_unfolding_all rfl) (by with_unfolding_all rfl) (by rw [e2]; omega) (by omega) ?_
     (have hF := (aI @e2 (aI @n5 @Nat.zero_add)); refine q01 (k:=?_); clear hF)
     refine Fin.done ⟨_, Wk.unview 4 0 0 3 k rfl rfl (by simp only [List.length_append, List.length_take, List.length_replicate, List.length_drop, e2]; omega), _, rfl, ?_, q02 _⟩
     rw [← q5]
     have e3 : ((q09 cur).take k).length = k := by rw [List.length_take, e2]; omega
     rw [List.append_assoc, List.take_append_of_le_length (show k ≤ ((q09 cur).take k).length by omega), List.take_of_length_le (show ((q09 cur).take k).length ≤ k by omega)]
     simp only [q09, List.map_take]
     rfl
   ·rw [decide_eq_false hz]
    (have hF := @e1; refine q01 (k:=?_); clear hF)
    have hs2 : ((j + 1 : Nat) : Int) + 1 = ((j + 1 + 1 : Nat) : Int) := rfl
    (refine Fin.nextW (j + 1) ?_ (have hW := (aI @q02 @hs2); q0f); (try dsimp only))
    exact ⟨⟨by omega, fun m a b hm hb ha => by
     by_cases e : m = j
     ·subst e
      rw [hx] at ha; rw [hy] at hb; cases ha; cases hb
      exact hz
     ·exact hd m a b (by omega) hb ha⟩, by omega⟩
  ·rw [qce (Nat.le_refl _) (fun m x y hm => hd m x y (by omega)), List.take_length]
   (have hF := @e1; refine q01 (k:=?_); clear hF)
   exact Fin.done ⟨_, Wk.unview 4 0 0 3 l.length rfl rfl (by rw [e1]; omega), _, rfl, by rw [show (q09 l).take l.length = q09 l by rw [← e1, List.take_length]]; rfl, q02 _⟩
end
def q7i (r : Rec) : Bool := decide (r.sku.size = 0) || q7j r.sku
def srtE (l : List Rec) : List Rec := if l.all q7i = true then q9i (q5h l) else []
theorem zkb (l : List Rec) : ∀ y ∈ q5h l, qgi y := by
 intro y hy
 unfold q5h at hy
 obtain ⟨r, _, rfl⟩ := List.mem_map.1 hy
 exact qam r.past
theorem keptK_wt {l : List Rec} {W : Nat} (hw : ∀ r ∈ l, wt r.past ≤ W) : ∀ y ∈ q5h l, wt y.past ≤ W + 16 := by
 intro y hy
 unfold q5h at hy
 obtain ⟨r, hr, rfl⟩ := List.mem_map.1 hy
 have := hw r (List.mem_filter.1 hr).1
 have := q62 r.past
 simp only
 omega
theorem zmp {l : List Rec} {i : Nat} {r : Rec} (h : l[i]? = some r) (h1 : (l.take i).all q7i = true) (h2 : q7i r = true) : (l.take (i + 1)).all q7i = true := by
 rw [List.take_add_one, h, List.all_append, h1]
 simp [h2]
theorem z8n {l : List Rec} (h : l.length ≤ 1) : q9i l = l := by
 match l, h with
 | [], _ => rfl
 | [x], _ => rfl
theorem ev_k113 (l : List Rec) (hl : l.length ≤ 1000000000) (hw : ∀ r ∈ l, wt r.past ≤ 40000000) : Ev (En Tryz.prog rfl).P 113 [.sl 3 (q09 l)] (.ret (.tup [.sl 3 (q09 (srtE l)), .int .i64 (if l.all q7i = true then 0 else 5)])) := by
 refine Ev.of_body it_k113 (by simp) (Run.start ?_)
 unfold t_k113
 have e1 := q0p l
 have hS := qq9
 (have hF := @e1; refine q01 (k:=?_); clear hF)
 refine Run.wk (Wk.own_nil 4 30 3 rfl rfl) ?_
 refine Run.while (σ := Nat) (fun i => ⟨tms [(4, .os 30 (q5h (l.take i)).length), (7, .sl 3 (q09 l)), (8, .int .i64 l.length), (9, .int .i64 (i : Int))], mms [(30, .arr (q5h (l.take i)).length 3 (q09 (q5h (l.take i))))]⟩)
  (fun i => i ≤ l.length ∧ (l.take i).all q7i = true) (fun i => l.length - i) 0 (have hW := @q02; q0f) ⟨Nat.zero_le _, rfl⟩ ?_
 rintro i ⟨hi, hall⟩
 unfold qjw
 by_cases hlt : i < l.length
 ·obtain ⟨r, hr⟩ : ∃ r, l[i]? = some r := ⟨l[i], by simp [hlt]⟩
  have g1 := q15 hr
  have hst := z92 hr
  have hle := qox (l.take i)
  have hle2 : (l.take i).length ≤ l.length := by rw [List.length_take]; omega
  generalize q5h (l.take i) = out at hst hle ⊢
  have e2 := q0p out
  have hwr := hw r (List.mem_of_getElem? hr)
  have c1 := qrf r.sku
  have c2 := z7l r.past (by omega)
  have c3 := qrg r (by omega)
  have es := q7p r.sku
  by_cases hz : r.sku.size = 0
  case' pos =>
   have hok : q7i r = true := by simp [q7i, hz]
   rw [eq_true hz] at es
   (have hF := (aI (aI @e1 @e2) (aI @g1 @es)); refine q01 (k:=?_); clear hF)
  case' neg =>
   rw [eq_false hz] at es
   by_cases hg : q7j r.sku = true
   case' neg =>
    have hbad : l.all q7i = false := by
     rw [Bool.eq_false_iff]
     intro h
     have := List.all_eq_true.1 h r (List.mem_of_getElem? hr)
     simp [q7i, hz, hg] at this
    have hg : q7j r.sku = false := by simpa using hg
    rw [hg] at c1
    unfold srtE
    rw [hbad]
    (have hF := (aI (aI @e1 @e2) (aI @g1 @es)); refine q01 (k:=?_); clear hF)
    refine q00 [.str r.sku] (he := c1) (k:=?_)
    (have hF := (aI (aI @e1 @e2) (aI @g1 @es)); refine q01 (k:=?_); clear hF)
    exact Fin.two rfl rfl rfl rfl (.inr ⟨rfl, 3, rfl⟩) (.inl rfl)
   case' pos =>
    have hok : q7i r = true := by simp [q7i, hg]
    rw [hg] at c1
    (have hF := (aI (aI @e1 @e2) (aI @g1 @es)); refine q01 (k:=?_); clear hF)
    refine q00 [.str r.sku] (he := c1) (k:=?_)
    (have hF := (aI (aI @e1 @e2) (aI @g1 @es)); refine q01 (k:=?_); clear hF)
  all_goals
   have hall2 := zmp hr hall hok
   refine q00 [q0h r.past] (he := c2) (k:=?_)
   by_cases hs : q3i r.past = 0
   ·rw [if_pos hs, List.append_nil] at hst
    rw [decide_eq_true hs]
    (have hF := (aI @e1 (aI @e2 @g1)); refine q01 (k:=?_); clear hF)
    (refine Fin.nextW (i + 1) ?_ (have hW := (aI @q02 @hst); q0f); (try dsimp only))
    exact ⟨⟨hlt, hall2⟩, by omega⟩
   ·rw [if_neg hs] at hst
    rw [decide_eq_false hs]
    (have hF := (aI @e1 (aI @e2 @g1)); refine q01 (k:=?_); clear hF)
    refine q00 [q5n r] (he := c3) (k:=?_)
    unfold q5n
    (have hF := (aI @e1 (aI @e2 @g1)); refine q01 (k:=?_); clear hF)
    (refine Fin.nextW (i + 1) ?_ (have hW := (aI @q02 (aI @hst @q8k)); q0f); (try dsimp only))
    exact ⟨⟨hlt, hall2⟩, by omega⟩
 ·rw [List.take_of_length_le (show l.length ≤ i by omega)] at hall ⊢
  unfold srtE
  rw [hall, if_pos rfl, if_pos rfl]
  have hk := q0p (q5h l)
  have hkl := qox l
  have hcan := zkb l
  have hkw := keptK_wt hw
  by_cases h1 : (q5h l).length ≤ 1
  ·rw [z8n h1]
   refine Run.wk (Wk.give ⟨q1f (q02 l), rfl, rfl, trivial⟩ trivial rfl (q02 _)) ?_
   have c1 := ev_sort1 (q09 (q5h l)) (by omega) 106 (q02 _)
   have c2 := qri (q09 (q5h l)) (by omega) 144 (q02 _)
   generalize q5h l = out at *
   (have hF := (aI @e1 @hk); refine q01 (k:=?_); clear hF)
   refine q00 [.sl 3 (q09 out), .fn 106 []] (he := c1) (k:=?_)
   (have hF := (aI @e1 @hk); refine q01 (k:=?_); clear hF)
   refine q00 [.sl 3 (q09 out), .fn 144 []] (he := c2) (k:=?_)
   (have hF := (aI @e1 @hk); refine q01 (k:=?_); clear hF)
   exact Fin.two rfl (q02 _) rfl rfl (.inl rfl) (.inl rfl)
  ·obtain ⟨s, hp, hs, hsort⟩ := qre (q5h l) (fun r hr => by have := hkw r hr; omega) (by omega) (by omega)
   have hsl := hp.length_eq
   have hord := cpt_ord hp hs hcan
   have hcomp := z9n s (fun r hr => by have := hkw r (hp.mem_iff.1 hr); omega) (by omega)
   rw [hord] at hcomp
   generalize q5h l = out at *
   (have hF := (aI @e1 @hk); refine q01 (k:=?_); clear hF)
   refine z80 (args' := [.undef, .fn 106 []]) 0 30 rfl rfl rfl rfl rfl (q02 _) (q02 s) rfl hsort ?_
   (have hF := @e1; refine q01 (k:=?_); clear hF)
   refine z82 (args' := [.undef, .fn 144 []]) 0 30 rfl rfl rfl rfl rfl (q02 _) (q02 _) hcomp ?_
   (have hF := @e1; refine q01 (k:=?_); clear hF)
   exact Fin.two (x := .sl 3 (q09 (q9i out))) (by simp [fz, fzc, q5w, upd, tms, mms]) (q02 _) rfl rfl (.inl rfl) (.inl rfl)

structure MrS where
 i : Nat
 j : Nat
 out : List Rec

def z0v : List SOp := [⟨some 4,.assign (.const (.slice none 0 0)),none⟩]
instance : Live z0v := ⟨[0,1]⟩
def z0u : List SOp := [⟨some 5,.move (.tmp 1),none⟩,⟨some 6,.binOp .lss 3 (.tmp 5) (.const (.int .i64 0)) 3,none⟩]
instance : Live z0u := ⟨[0,1]⟩
def z0t : List SOp := [⟨some 7,.makeInterface 9 (.const (.string ⟨#[99,97,110,110,111,116,32,98,101,32,110,101,103,97,116,105,118,101]⟩)),none⟩,⟨none,.panic (.tmp 7),none⟩]
instance : Live z0t := ⟨[0,1]⟩
def z0s : List SOp := [⟨some 8,.move (.tmp 1),none⟩,⟨some 9,.move (.tmp 0),none⟩,⟨some 10,.call ⟨.builtin .cap,#[.tmp 9],#[27]⟩,none⟩,⟨some 11,.move (.tmp 0),none⟩,⟨some 12,.call ⟨.builtin .len,#[.tmp 11],#[27]⟩,none⟩,⟨some 13,.binOp .sub 3 (.tmp 10) (.tmp 12) 3,none⟩,⟨some 14,.binOp .sub 3 (.tmp 8) (.tmp 13) 3,none⟩,⟨some 1,.assign (.tmp 14),none⟩]
instance : Live z0s := ⟨[0,1]⟩
def z0r : List SOp := [⟨some 15,.move (.tmp 1),none⟩,⟨some 16,.binOp .gtr 3 (.tmp 15) (.const (.int .i64 0)) 3,none⟩]
instance : Live z0r := ⟨[0,1]⟩
def z0q : List SOp := [⟨some 17,.move (.tmp 0),none⟩,⟨some 18,.move (.tmp 0),none⟩,⟨some 19,.call ⟨.builtin .cap,#[.tmp 18],#[27]⟩,none⟩,⟨some 20,.slice 27 (.tmp 17) none (some (.tmp 19)) none,none⟩,⟨some 21,.move (.tmp 1),none⟩,⟨some 22,.call ⟨.builtin .append,#[.tmp 20,.tmp 21],#[27,3]⟩,none⟩,⟨some 23,.move (.tmp 0),none⟩,⟨some 24,.call ⟨.builtin .len,#[.tmp 23],#[27]⟩,none⟩,⟨some 25,.slice 27 (.tmp 22) none (some (.tmp 24)) none,none⟩,⟨some 0,.assign (.tmp 25),none⟩]
instance : Live z0q := ⟨[0,1]⟩
def z0p : List SOp := [⟨some 26,.move (.tmp 0),none⟩,⟨some 4,.assign (.tmp 26),none⟩]
instance : Live z0p := ⟨[0]⟩
def t_k145 : SC :=
 (.seq (.ops false z0v) (.seq (.seq (.ops false z0u) (.cond (.tmp 6) (.ops false z0t) .skip)) (.seq (.seq (.ops false z0s) (.seq (.ops false z0r) (.cond (.tmp 16) (.ops false z0q) .skip))) (.seq (.ops false z0p) .ret))))
theorem it_k145 : FnIs Tryz.prog 145 27 [.tmp 4] t_k145 := ⟨Tryz.f145, _, Tryz.func145, rfl, rfl, rfl, rfl, by kernel_rfl⟩

def z4c : List SOp := [⟨some 2,.assign (.const (.slice none 0 0)),none⟩]
instance : Live z4c := ⟨[0]⟩
def z4b : List SOp := [⟨some 3,.assign (.const (.int .i64 0)),none⟩]
instance : Live z4b := ⟨[0]⟩
def z4a : List SOp := [⟨some 9,.move (.tmp 0),none⟩,⟨some 10,.call ⟨.builtin .len,#[.tmp 9],#[175]⟩,none⟩,⟨some 11,.move (.const (.int .i64 0)),none⟩]
instance : Live z4a := ⟨[0,3]⟩
def z49 : List SOp := [⟨some 12,.binOp .lss 3 (.tmp 11) (.tmp 10) 3,none⟩]
instance : Live z49 := ⟨[0,3,9,10,11]⟩
def z48 : List SOp := [⟨some 13,.indexAddr 175 (.tmp 9) (.tmp 11),none⟩,⟨some 14,.load 27 (.tmp 13),none⟩,⟨some 5,.assign (.tmp 14),none⟩]
instance : Live z48 := ⟨[0,3,9,10,11]⟩
def z47 : List SOp := [⟨some 15,.move (.tmp 3),none⟩,⟨some 16,.move (.tmp 5),none⟩,⟨some 17,.call ⟨.builtin .len,#[.tmp 16],#[27]⟩,none⟩,⟨some 18,.binOp .add 3 (.tmp 15) (.tmp 17) 3,none⟩,⟨some 3,.assign (.tmp 18),none⟩]
instance : Live z47 := ⟨[0,3,5,9,10,11]⟩
def z44 : List SOp := [⟨some 19,.move (.tmp 3),none⟩,⟨some 20,.binOp .lss 3 (.tmp 19) (.const (.int .i64 0)) 3,none⟩]
instance : Live z44 := ⟨[0,3,9,10,11]⟩
def z43 : List SOp := [⟨some 21,.makeInterface 9 (.const (.string ⟨#[108,101,110,32,111,117,116,32,111,102,32,114,97,110,103,101]⟩)),none⟩,⟨none,.panic (.tmp 21),none⟩]
instance : Live z43 := ⟨[0,3,9,10,11]⟩
def z42 : List SOp := [⟨some 22,.binOp .add 3 (.tmp 11) (.const (.int .i64 1)) 3,none⟩,⟨some 11,.move (.tmp 22),none⟩]
instance : Live z42 := ⟨[0,3,9,10,11]⟩
def qo2 : List SOp := [⟨some 23,.move (.tmp 3),none⟩,⟨some 24,.call ⟨.value (.func 145),#[.const (.slice none 0 0),.tmp 23],#[27,3]⟩,none⟩,⟨some 6,.assign (.tmp 24),none⟩]
instance : Live qo2 := ⟨[0,3]⟩
def qo1 : List SOp := [⟨some 25,.move (.tmp 0),none⟩,⟨some 26,.call ⟨.builtin .len,#[.tmp 25],#[175]⟩,none⟩,⟨some 27,.move (.const (.int .i64 0)),none⟩]
instance : Live qo1 := ⟨[0,6]⟩
def qo0 : List SOp := [⟨some 28,.binOp .lss 3 (.tmp 27) (.tmp 26) 3,none⟩]
instance : Live qo0 := ⟨[6,25,26,27]⟩
def qnz : List SOp := [⟨some 29,.indexAddr 175 (.tmp 25) (.tmp 27),none⟩,⟨some 30,.load 27 (.tmp 29),none⟩,⟨some 8,.assign (.tmp 30),none⟩]
instance : Live qnz := ⟨[6,25,26,27]⟩
def qny : List SOp := [⟨some 31,.move (.tmp 6),none⟩,⟨some 32,.move (.tmp 8),none⟩,⟨some 33,.call ⟨.builtin .append,#[.tmp 31,.tmp 32],#[27,27]⟩,none⟩,⟨some 6,.assign (.tmp 33),none⟩]
instance : Live qny := ⟨[6,8,25,26,27]⟩
def qnx : List SOp := [⟨some 34,.binOp .add 3 (.tmp 27) (.const (.int .i64 1)) 3,none⟩,⟨some 27,.move (.tmp 34),none⟩]
instance : Live qnx := ⟨[6,25,26,27]⟩
def qnw : List SOp := [⟨some 35,.move (.tmp 6),none⟩,⟨some 2,.assign (.tmp 35),none⟩]
instance : Live qnw := ⟨[6]⟩
def qjv : SC :=
 (.seq (.ops false z49) (.seq (.cond (.tmp 12) .skip (.exit 0)) (.seq (.block 1 (.seq (.ops false z48) (.seq (.ops false z47) (.seq (.ops false z44) (.cond (.tmp 20) (.ops false z43) .skip))))) (.ops false z42))))
def qju : SC :=
 (.seq (.ops false qo0) (.seq (.cond (.tmp 28) .skip (.exit 2)) (.seq (.block 3 (.seq (.ops false qnz) (.ops false qny))) (.ops false qnx))))
def t_k114 : SC :=
 (.seq (.ops false z4c) (.seq (.ops false z4b) (.seq (.seq (.ops false z4a) (.block 0 (.loop qjv))) (.seq (.ops false qo2) (.seq (.seq (.ops false qo1) (.block 2 (.loop qju))) (.seq (.ops false qnw) .ret))))))
theorem it_k114 : FnIs Tryz.prog 114 36 [.tmp 2] t_k114 := ⟨Tryz.f114, _, Tryz.func114, rfl, rfl, rfl, rfl, by kernel_rfl⟩

def ze2 : List SOp := [⟨some 4,.assign (.const (.slice none 0 0)),none⟩,⟨some 5,.assign (.const (.int .i64 0)),none⟩]
instance : Live ze2 := ⟨[0,1]⟩
def ze1 : List SOp := [⟨some 6,.move (.tmp 0),none⟩,⟨some 7,.call ⟨.value (.func 55),#[.tmp 6],#[27]⟩,none⟩,⟨some 8,.binOp .neq 32 (.tmp 7) (.const (.int .i64 0)) 32,none⟩,⟨some 9,.move (.tmp 8),none⟩,⟨some 10,.move (.tmp 1),some ((some 9),false)⟩,⟨some 11,.call ⟨.value (.func 55),#[.tmp 10],#[27]⟩,some ((some 9),false)⟩,⟨some 12,.binOp .neq 32 (.tmp 11) (.const (.int .i64 0)) 32,some ((some 9),false)⟩,⟨some 13,.pick (.tmp 9) (.const (.bool true)) (.tmp 12),none⟩]
instance : Live ze1 := ⟨[0,1]⟩
def ze0 : List SOp := [⟨some 4,.assign (.const (.slice none 0 0)),none⟩,⟨some 5,.assign (.const (.int .i64 1)),none⟩]
instance : Live ze0 := ⟨[]⟩
def zdz : List SOp := [⟨some 14,.move (.tmp 0),none⟩,⟨some 15,.move (.tmp 1),none⟩,⟨some 16,.buildSlice 175 2 #[(0,.tmp 14),(1,.tmp 15)],none⟩,⟨some 17,.call ⟨.value (.func 114),#[.tmp 16],#[175]⟩,none⟩,⟨some 18,.call ⟨.value (.func 113),#[.tmp 17],#[27]⟩,none⟩,⟨some 19,.extract (.tmp 18) 0,none⟩,⟨some 20,.extract (.tmp 18) 1,none⟩,⟨some 4,.assign (.tmp 19),none⟩,⟨some 5,.assign (.tmp 20),none⟩]
instance : Live zdz := ⟨[0,1]⟩
def t_k66 : SC :=
 (.seq (.ops false ze2) (.seq (.seq (.ops false ze1) (.cond (.tmp 13) (.seq (.ops false ze0) .ret) .skip)) (.seq (.ops false zdz) .ret)))
theorem it_k66 : FnIs Tryz.prog 66 21 [.tmp 4, .tmp 5] t_k66 := ⟨Tryz.f66, _, Tryz.func66, rfl, rfl, rfl, rfl, by kernel_rfl⟩

theorem z9m (m : Nat) (hm : m ≤ 100000000) : EvFresh (En Tryz.prog rfl).P 145 [.nil, .int .i64 (m : Int)] 3 [] := by
 refine EvFresh.of_body it_k145 (by simp) (AW.wkEnd (Run.start ?_))
 unfold t_k145
 (have hF := True.intro; refine q01 (k:=?_); clear hF)
 refine q4n (qe3 (En Tryz.prog rfl).hT rfl (by with_unfolding_all rfl) (el := 91) (by with_unfolding_all rfl)) ?_
 rintro v M' ⟨rfl, rfl⟩
 dsimp only [AS.put]
 (focus (have hF := True.intro; (repeat' (first | refine go1 (k:=?_) | with_reducible refine Ny.of ?_ ?_ | (refine Hyp.of ?_; intro hc; (try simp only [hc]); (try simp only [Bh] at hc)))); all_goals clear hF))
 ·refine q4n (qe3 (En Tryz.prog rfl).hT rfl (by with_unfolding_all rfl) (el := 91) (by with_unfolding_all rfl)) ?_
  rintro v M' ⟨rfl, rfl⟩
  dsimp only [AS.put]
  (have hF := True.intro; refine q01 (k:=?_); clear hF)
  refine q4n (z97 (En Tryz.prog rfl).hT (m := m) 22 rfl rfl (by omega) (by omega) (by with_unfolding_all rfl) (el := 91) (by with_unfolding_all rfl) (by with_unfolding_all rfl) (ik := .i64) (by with_unfolding_all rfl) (by with_unfolding_all rfl) (by with_unfolding_all rfl) (show m * 64 ≤ 281474976710656 by omega) rfl) ?_
  rintro v M' ⟨rfl, rfl⟩
  dsimp only [AS.put]
  refine dv (v := .nil) (ups := []) rfl (by with_unfolding_all rfl) (by with_unfolding_all rfl) rfl ?_
  refine dv (v := .int .i64 0) (ups := []) rfl (by with_unfolding_all rfl) (by with_unfolding_all rfl) rfl ?_
  dsimp only [AS.put, ap]
  refine q4n (zkm (En Tryz.prog rfl).hT (m := 0) (k := 22) (e := 0) (sz := 3) rfl rfl rfl (Nat.zero_le _) (by with_unfolding_all rfl) (el := 91) (by with_unfolding_all rfl) (by with_unfolding_all rfl) rfl) ?_
  rintro v M' ⟨rfl, rfl⟩
  dsimp only [AS.put]
  (have hF := True.intro; refine q01 (k:=?_); clear hF)
  exact Fin.done ⟨_, Wk.refl _ _, 22, 1, rfl, rfl, rfl⟩
 ·exact Fin.done ⟨_, Wk.own_nil 4 22 3 rfl rfl, 22, 0, rfl, rfl, rfl⟩
theorem zlt (a b : List Rec) : q09 a ++ q09 b = q09 (a ++ b) := by simp [q09]
theorem qpf (a b : List Rec) (ha : a.length ≤ 10000000) (hb : b.length ≤ 10000000) : Ev (En Tryz.prog rfl).P 114 [.sl 1 [.sl 3 (q09 a), .sl 3 (q09 b)]] (.ret (.sl 3 (q09 (a ++ b)))) := by
 refine Ev.of_body it_k114 (by simp) (Run.start ?_)
 unfold t_k114
 obtain ⟨Ls, hLs⟩ : ∃ Ls, [AVal.sl 3 (q09 a), AVal.sl 3 (q09 b)] = Ls := ⟨_, rfl⟩
 rw [hLs]
 have hLl : Ls.length = 2 := by rw [← hLs]; rfl
 have hLst : q0j Ls = true := by rw [← hLs]; simp [q0j, AVal.stb, q02]
 have hL0 : Ls[0]? = some (.sl 3 (q09 a)) := by rw [← hLs]; rfl
 have hL1 : Ls[1]? = some (.sl 3 (q09 b)) := by rw [← hLs]; rfl
 clear hLs
 have e1 := q0p a
 have e2 := q0p b
 have hLg : ∀ i, i < 2 → ∃ l, Ls[i]? = some (.sl 3 (q09 l)) ∧ l.length ≤ 10000000 ∧ (if i = 0 then [] else a) ++ l = if i + 1 = 1 then a else a ++ b := by
  intro i hi
  match i, hi with
  | 0, _ => exact ⟨a, hL0, ha, by simp⟩
  | 1, _ => exact ⟨b, hL1, hb, by simp⟩
 have hA : ∃ A : Nat → List Rec, A 0 = [] ∧ A 2 = a ++ b ∧ ∀ i, i < 2 → ∃ l, Ls[i]? = some (.sl 3 (q09 l)) ∧ l.length ≤ 10000000 ∧ A i ++ l = A (i + 1) :=
  ⟨fun i => if i = 0 then [] else if i = 1 then a else a ++ b, rfl, rfl, fun i hi => by
   match i, hi with
   | 0, _ => exact ⟨a, hL0, ha, by simp⟩
   | 1, _ => exact ⟨b, hL1, hb, by simp⟩⟩
 obtain ⟨A, hA0, hA2, hA⟩ := hA
 have hAl : ∀ i, i ≤ 2 → (A i).length ≤ 10000000 * i := by
  intro i
  induction i with
  | zero => intro _; rw [hA0]; simp
  | succ i ih =>
   intro hi
   obtain ⟨l, _, h2, h3⟩ := hA i (by omega)
   have := ih (by omega)
   rw [← h3, List.length_append]
   omega
 clear hLg hL0 hL1
 have hA0l : (A 0).length = 0 := by rw [hA0]; rfl
 have hA2l : (A 2).length ≤ 20000000 := hAl 2 (by omega)
 (have hF := @hLl; refine q01 (k:=?_); clear hF)
 refine Run.while (σ := Nat) (fun i => ⟨tms [(0, .sl 1 Ls), (3, .int .i64 ((A i).length : Int)), (9, .sl 1 Ls), (10, .int .i64 2), (11, .int .i64 (i : Int))], mms []⟩)
  (fun i => i ≤ 2) (fun i => 2 - i) 0 (have hW := (aI @hLst @hA0l); q0f) (Nat.zero_le _) ?_
 intro i hi
 unfold qjv
 by_cases hlt : i < 2
 ·obtain ⟨l, gl, hll, hal⟩ := hA i hlt
  have hb1 := hAl i (by omega)
  have hs : ((A i).length : Int) + (l.length : Int) = ((A (i + 1)).length : Int) := by rw [← hal, List.length_append]; omega
  have el := q0p l
  have hn : ¬ ((A (i + 1)).length : Int) < 0 := by omega
  have hb2 := hAl (i + 1) (by omega)
  have hwr : IntKind.i64.wrap ((A (i + 1)).length : Int) = ((A (i + 1)).length : Int) := q2o (by omega)
  (have hF := (aI (aI @hLl (aI @gl @el)) (aI @hs (aI @hn @hwr))); refine q01 (k:=?_); clear hF)
  (refine Fin.nextW (i + 1) ?_ (have hW := @hLst; q0f); (try dsimp only))
  omega
 ·have hi2 : i = 2 := by omega
  subst hi2
  (have hF := @hLl; refine q01 (k:=?_); clear hF)
  refine q4n (z98 (f := 145) (caps := []) 24 rfl rfl rfl (z9m (A 2).length (by omega)) rfl) ?_
  rintro v M' ⟨rfl, rfl⟩
  dsimp only [AS.put]
  (have hF := @hLl; refine q01 (k:=?_); clear hF)
  have hA0e : q09 (A 0) = [] := by rw [hA0]; rfl
  refine Run.while (σ := Nat) (fun i => ⟨tms [(6, .os 24 i), (25, .sl 1 Ls), (26, .int .i64 2), (27, .int .i64 (i : Int))], mms [(24, .arr i 3 (q09 (A i)))]⟩)
   (fun i => i ≤ 2) (fun i => 2 - i) 0 (have hW := (aI @hLst (aI @hA0e @q02)); q0f) (Nat.zero_le _) ?_
  intro i hi
  unfold qju
  by_cases hlt : i < 2
  ·obtain ⟨l, gl, hll, hal⟩ := hA i hlt
   have hb1 := hAl i (by omega)
   have el := q0p l
   have e3 := q0p (A i)
   have hap : q09 (A i) ++ q09 l = q09 (A (i + 1)) := by rw [zlt, hal]
   (have hF := (aI (aI @hLl @gl) (aI @el @e3)); refine q01 (k:=?_); clear hF)
   (refine Fin.nextW (i + 1) ?_ (have hW := (aI @hLst (aI @q02 @hap)); q0f); (try dsimp only))
   omega
  ·have hi2 : i = 2 := by omega
   subst hi2
   rw [← hA2]
   (have hF := @hLl; refine q01 (k:=?_); clear hF)
   exact Fin.tmp' (by simp [fz, fzc, q5w, upd, tms, mms]) (q02 _)
theorem skuOk_of {r : Rec} (h : q2r r = 0) : q7i r = true := by
 unfold q2r at h
 unfold q7i
 split at h
 ·omega
 ·rename_i h1
  by_cases h2 : r.sku.size = 0
  ·simp [h2]
  ·by_cases h3 : q7j r.sku = true
   ·simp [h3]
   ·exact absurd ⟨h2, by simpa using h3⟩ h1
theorem zmh {r : Rec} (h : q2r r = 0) : qgi r ∧ q3i r.past ≠ 0 := by
 unfold q2r at h
 split at h
 ·omega
 ·split at h
  ·omega
  ·rename_i h1
   simp only [not_or] at h1
   exact ⟨q3k.1 (by simpa using h1.1), h1.2⟩
theorem q4t {l : List Rec} (h : q3y l) : ∀ r ∈ l, qgi r ∧ q3i r.past ≠ 0 ∧ q7i r = true := by
 intro r hr
 obtain ⟨i, hi⟩ := List.mem_iff_getElem?.1 hr
 have := h.1 i r hi
 exact ⟨(zmh this).1, (zmh this).2, skuOk_of this⟩
theorem z93 {l : List Rec} (h : ∀ r ∈ l, qgi r ∧ q3i r.past ≠ 0) : q5h l = l := by
 unfold q5h
 rw [List.filter_eq_self.2 fun r hr => by simp [(h r hr).2]]
 have : l.map (fun r => (⟨r.sku, q1a r.past⟩ : Rec)) = l.map id := List.map_congr_left fun r hr => by
  have := (h r hr).1
  unfold qgi at this
  rw [this]
  rfl
 rw [this, List.map_id]
noncomputable def zam (a b : List Rec) : List Rec := if q3m a = true ∧ q3m b = true then q9i (a ++ b) else []
theorem zb3 {a b : List Rec} (ha : q3y a) (hb : q3y b) : (a ++ b).all q7i = true ∧ srtE (a ++ b) = q9i (a ++ b) := by
 have hab : ∀ r ∈ a ++ b, qgi r ∧ q3i r.past ≠ 0 ∧ q7i r = true := fun r hr => (List.mem_append.1 hr).elim (q4t ha r) (q4t hb r)
 have h1 : (a ++ b).all q7i = true := List.all_eq_true.2 fun r hr => (hab r hr).2.2
 refine ⟨h1, ?_⟩
 unfold srtE
 rw [if_pos h1, z93 fun r hr => ⟨(hab r hr).1, (hab r hr).2.1⟩]
theorem ev_k66 (a b : List Rec) (ha : a.length ≤ 10000000) (hb : b.length ≤ 10000000) (hwa : ∀ r ∈ a, wt r.past ≤ 40000000) (hwb : ∀ r ∈ b, wt r.past ≤ 40000000) :
 Ev (En Tryz.prog rfl).P 66 [.sl 3 (q09 a), .sl 3 (q09 b)] (.ret (.tup [.sl 3 (q09 (zam a b)), .int .i64 (if q3m a = true ∧ q3m b = true then 0 else 1)])) := by
 refine Ev.of_body it_k66 (by simp) (Run.start ?_)
 unfold t_k66 zam
 have hS := qq9
 have c1 := q35 a (by omega) hwa
 have c2 := q35 b (by omega) hwb
 by_cases hfa : q3m a = true
 case' neg =>
  rw [if_neg hfa] at c1
  rw [if_neg (fun h => hfa h.1), if_neg (fun h => hfa h.1)]
  (have hF := True.intro; refine q01 (k:=?_); clear hF)
  refine q00 [.sl 3 (q09 a)] (he := c1) (k:=?_)
  (have hF := True.intro; refine q01 (k:=?_); clear hF)
  exact Fin.two rfl rfl rfl rfl (.inr ⟨rfl, 3, rfl⟩) (.inl rfl)
 case' pos =>
  rw [if_pos hfa] at c1
  by_cases hfb : q3m b = true
  case' neg =>
   rw [if_neg hfb] at c2
   rw [if_neg (fun h => hfb h.2), if_neg (fun h => hfb h.2)]
   (have hF := True.intro; refine q01 (k:=?_); clear hF)
   refine q00 [.sl 3 (q09 a)] (he := c1) (k:=?_)
   (have hF := True.intro; refine q01 (k:=?_); clear hF)
   refine q00 [.sl 3 (q09 b)] (he := c2) (k:=?_)
   (have hF := True.intro; refine q01 (k:=?_); clear hF)
   exact Fin.two rfl rfl rfl rfl (.inr ⟨rfl, 3, rfl⟩) (.inl rfl)
  case' pos =>
   rw [if_pos hfb] at c2
   rw [if_pos ⟨hfa, hfb⟩, if_pos ⟨hfa, hfb⟩]
   obtain ⟨s1, s2⟩ := zb3 (q7w.1 hfa) (q7w.1 hfb)
   have c3 := qpf a b ha hb
   have c4 := ev_k113 (a ++ b) (by simp; omega) (fun r hr => (List.mem_append.1 hr).elim (hwa r) (hwb r))
   rw [s2, s1, if_pos rfl] at c4
   generalize a ++ b = l at *
   generalize q9i l = o at *
   (have hF := True.intro; refine q01 (k:=?_); clear hF)
   refine q00 [.sl 3 (q09 a)] (he := c1) (k:=?_)
   (have hF := True.intro; refine q01 (k:=?_); clear hF)
   refine q00 [.sl 3 (q09 b)] (he := c2) (k:=?_)
   (have hF := True.intro; refine q01 (k:=?_); clear hF)
   refine q00 [.sl 1 [.sl 3 (q09 a), .sl 3 (q09 b)]] (he := c3) (k:=?_)
   (have hF := True.intro; refine q01 (k:=?_); clear hF)
   refine q00 [.sl 3 (q09 l)] (he := c4) (k:=?_)
   (have hF := True.intro; refine q01 (k:=?_); clear hF)
   exact Fin.two rfl (q02 _) rfl rfl (.inl rfl) (.inl rfl)

def zfn : List SOp := [⟨some 3,.box 26 (.tmp 1),none⟩,⟨some 4,.assign (.const (.slice none 0 0)),none⟩,⟨some 5,.assign (.const (.int .i64 0)),none⟩]
instance : Live zfn := ⟨[0,1]⟩
def zfm : List SOp := [⟨some 9,.move (.tmp 0),none⟩,⟨some 10,.call ⟨.value (.func 55),#[.tmp 9],#[27]⟩,none⟩,⟨some 11,.binOp .neq 32 (.tmp 10) (.const (.int .i64 0)) 32,none⟩,⟨some 12,.move (.tmp 11),none⟩,⟨some 13,.load 26 (.tmp 3),some ((some 12),false)⟩,⟨some 14,.call ⟨.value (.func 54),#[.tmp 13],#[26]⟩,some ((some 12),false)⟩,⟨some 15,.unOp .not 4 (.tmp 14),some ((some 12),false)⟩,⟨some 16,.pick (.tmp 12) (.const (.bool true)) (.tmp 15),none⟩]
instance : Live zfm := ⟨[0,3]⟩
def zfl : List SOp := [⟨some 4,.assign (.const (.slice none 0 0)),none⟩,⟨some 5,.assign (.const (.int .i64 1)),none⟩]
instance : Live zfl := ⟨[]⟩
def zfk : List SOp := [⟨some 6,.assign (.const (.slice none 0 0)),none⟩]
instance : Live zfk := ⟨[0,3]⟩
def zfj : List SOp := [⟨some 17,.move (.tmp 0),none⟩,⟨some 18,.call ⟨.builtin .len,#[.tmp 17],#[27]⟩,none⟩,⟨some 19,.move (.const (.int .i64 0)),none⟩]
instance : Live zfj := ⟨[0,3,6]⟩
def zfi : List SOp := [⟨some 20,.binOp .lss 3 (.tmp 19) (.tmp 18) 3,none⟩]
instance : Live zfi := ⟨[3,6,17,18,19]⟩
def zfh : List SOp := [⟨some 21,.indexAddr 27 (.tmp 17) (.tmp 19),none⟩,⟨some 22,.load 91 (.tmp 21),none⟩,⟨some 8,.alloc 91,none⟩,⟨none,.store 91 (.tmp 8) (.tmp 22),none⟩]
instance : Live zfh := ⟨[3,6,17,18,19]⟩
def zfg : List SOp := [⟨some 23,.fieldAddr 91 (.tmp 8) 1,none⟩,⟨some 24,.load 26 (.tmp 23),none⟩,⟨some 25,.load 26 (.tmp 3),none⟩,⟨some 26,.call ⟨.value (.func 56),#[.tmp 24,.tmp 25],#[26,26]⟩,none⟩,⟨some 27,.unOp .not 4 (.tmp 26),none⟩]
instance : Live zfg := ⟨[3,6,8,17,18,19]⟩
def zff : List SOp := [⟨some 28,.move (.tmp 6),none⟩,⟨some 29,.load 91 (.tmp 8),none⟩,⟨some 30,.call ⟨.value (.func 108),#[.tmp 29],#[91]⟩,none⟩,⟨some 31,.buildSlice 27 1 #[(0,.tmp 30)],none⟩,⟨some 32,.call ⟨.builtin .append,#[.tmp 28,.tmp 31],#[27,27]⟩,none⟩,⟨some 6,.assign (.tmp 32),none⟩]
instance : Live zff := ⟨[3,6,8,17,18,19]⟩
def qub : List SOp := [⟨some 33,.binOp .add 3 (.tmp 19) (.const (.int .i64 1)) 3,none⟩,⟨some 19,.move (.tmp 33),none⟩]
instance : Live qub := ⟨[3,6,17,18,19]⟩
def qua : List SOp := [⟨some 34,.move (.tmp 6),none⟩,⟨some 4,.assign (.tmp 34),none⟩,⟨some 5,.assign (.const (.int .i64 0)),none⟩]
instance : Live qua := ⟨[6]⟩
def qsm : SC :=
 (.seq (.ops false zfi) (.seq (.cond (.tmp 20) .skip (.exit 0)) (.seq (.block 1 (.seq (.ops false zfh) (.seq (.ops false zfg) (.cond (.tmp 27) (.ops false zff) .skip)))) (.ops false qub))))
def t_k57 : SC :=
 (.seq (.ops false zfn) (.seq (.seq (.ops false zfm) (.cond (.tmp 16) (.seq (.ops false zfl) .ret) .skip)) (.seq (.ops false zfk) (.seq (.seq (.ops false zfj) (.block 0 (.loop qsm))) (.seq (.ops false qua) .ret)))))
theorem it_k57 : FnIs Tryz.prog 57 35 [.tmp 4, .tmp 5] t_k57 := ⟨Tryz.f57, _, Tryz.func57, rfl, rfl, rfl, rfl, by kernel_rfl⟩

noncomputable def q17 (l : List Rec) (p : Pst) : List Rec := l.filter fun r => !q0n r.past p
theorem qqg {l : List Rec} {p : Pst} {i : Nat} {r : Rec} (h : l[i]? = some r) : q17 (l.take (i + 1)) p = q17 (l.take i) p ++ if q0n r.past p = true then [] else [r] := by
 unfold q17
 rw [List.take_add_one, h, List.filter_append]
 by_cases hw : q0n r.past p = true
 ·simp [hw]
 ·simp [hw]
theorem z8a (l : List Rec) (p : Pst) : (q17 l p).length ≤ l.length := List.length_filter_le _ _
noncomputable def qs6 (l : List Rec) (p : Pst) : List Rec := if q3m l = true ∧ q1g p = true then q17 l p else []
theorem ev_k57 (l : List Rec) (p : Pst) (hl : l.length ≤ 1000000000) (hw : ∀ r ∈ l, wt r.past ≤ 40000000) (hp : wt p ≤ 40000000) :
 Ev (En Tryz.prog rfl).P 57 [.sl 3 (q09 l), q0h p] (.ret (.tup [.sl 3 (q09 (qs6 l p)), .int .i64 (if q3m l = true ∧ q1g p = true then 0 else 1)])) := by
 refine Ev.of_body it_k57 (by simp) (Run.start ?_)
 unfold t_k57 q0h qs6
 have hS := qq9
 have e1 := q0p l
 have c1 := q35 l (by omega) hw
 have c2 := qpc p (by omega)
 by_cases hf : q3m l = true
 case' neg =>
  rw [if_neg hf] at c1
  rw [if_neg (fun h => hf h.1), if_neg (fun h => hf h.1)]
  (have hF := @e1; refine q01 (k:=?_); clear hF)
  refine q00 [.sl 3 (q09 l)] (he := c1) (k:=?_)
  (have hF := @e1; refine q01 (k:=?_); clear hF)
  exact Fin.two rfl rfl rfl rfl (.inr ⟨rfl, 3, rfl⟩) (.inl rfl)
 case' pos =>
  rw [if_pos hf] at c1
  by_cases hn : q1g p = true
  case' neg =>
   rw [if_neg (fun h => hn h.2), if_neg (fun h => hn h.2)]
   rw [show q1g p = false by simpa using hn] at c2
   (have hF := @e1; refine q01 (k:=?_); clear hF)
   refine q00 [.sl 3 (q09 l)] (he := c1) (k:=?_)
   (have hF := @e1; refine q01 (k:=?_); clear hF)
   refine q00 [q0h p] (he := c2) (k:=?_)
   (have hF := @e1; refine q01 (k:=?_); clear hF)
   exact Fin.two rfl rfl rfl rfl (.inr ⟨rfl, 3, rfl⟩) (.inl rfl)
  case' pos =>
   rw [if_pos ⟨hf, hn⟩, if_pos ⟨hf, hn⟩]
   rw [hn] at c2
   have hfm := q4t (q7w.1 hf)
   (have hF := @e1; refine q01 (k:=?_); clear hF)
   refine q00 [.sl 3 (q09 l)] (he := c1) (k:=?_)
   (have hF := @e1; refine q01 (k:=?_); clear hF)
   refine q00 [q0h p] (he := c2) (k:=?_)
   (have hF := @e1; refine q01 (k:=?_); clear hF)
   refine Run.wk (Wk.own_nil 6 32 3 rfl rfl) ?_
   refine Run.while (σ := Nat) (fun i => ⟨tms [(3, .ptr 3 0), (6, .os 32 (q17 (l.take i) p).length), (17, .sl 3 (q09 l)), (18, .int .i64 l.length), (19, .int .i64 (i : Int))], mms [(3, .cells [.sl 1 (q05 p.vec), .sl 3 (q0c p.cloud)]), (32, .arr (q17 (l.take i) p).length 3 (q09 (q17 (l.take i) p)))]⟩)
    (fun i => i ≤ l.length) (fun i => l.length - i) 0 (have hW := @q02; q0f) (Nat.zero_le _) ?_
   intro i hi
   unfold qsm
   by_cases hlt : i < l.length
   ·obtain ⟨r, hr⟩ : ∃ r, l[i]? = some r := ⟨l[i], by simp [hlt]⟩
    have g1 := q15 hr
    have hst := qqg (p := p) hr
    have hle := z8a (l.take i) p
    have hle2 : (l.take i).length ≤ l.length := by rw [List.length_take]; omega
    generalize q17 (l.take i) p = out at hst hle ⊢
    have e2 := q0p out
    have hrl := List.mem_of_getElem? hr
    have hwr := hw r hrl
    have c3 := ev_k56 r.past p (by omega) (by omega)
    have c4 := qrg r (by omega)
    have hcan : q1a r.past = r.past := (hfm r hrl).1
    rw [hcan] at c4
    (have hF := (aI @e1 (aI @e2 @g1)); refine q01 (k:=?_); clear hF)
    refine q00 [q0h r.past, q0h p] (he := c3) (k:=?_)
    by_cases hwi : q0n r.past p = true
    ·rw [if_pos hwi, List.append_nil] at hst
     rw [hwi]
     (have hF := (aI @e1 (aI @e2 @g1)); refine q01 (k:=?_); clear hF)
     (refine Fin.nextW (i + 1) ?_ (have hW := (aI @q02 @hst); q0f); (try dsimp only))
     omega
    ·rw [if_neg hwi] at hst
     rw [show q0n r.past p = false by simpa using hwi]
     (have hF := (aI @e1 (aI @e2 @g1)); refine q01 (k:=?_); clear hF)
     refine q00 [q5n r] (he := c4) (k:=?_)
     unfold q5n
     (have hF := (aI @e1 (aI @e2 @g1)); refine q01 (k:=?_); clear hF)
     (refine Fin.nextW (i + 1) ?_ (have hW := (aI @q02 (aI @hst @q8k)); q0f); (try dsimp only))
     omega
   ·rw [List.take_of_length_le (show l.length ≤ i by omega)]
    (have hF := @e1; refine q01 (k:=?_); clear hF)
    exact Fin.two (x := .sl 3 (q09 (q17 l p))) (by simp [fz, fzc, q5w, upd, tms, mms]) (q02 _) rfl rfl (.inl rfl) (.inl rfl)

def ltS (a b : Rec) : Prop := q9j a.sku b.sku < 0
theorem zko {m : List Rec} (h : ∀ r ∈ m, CanP r.past) : qho m = m := by
 cases m with
 | nil => rfl
 | cons r m =>
  show (if r.sku.size = 0 then (⟨r.sku, q1a r.past⟩ : Rec) :: m else r :: m) = r :: m
  split
  ·have : q1a r.past = r.past := h r (by simp)
   rw [this]
  ·rfl
structure Folded (L K : List Rec) : Prop where
 from_ : ∀ r ∈ K, ∃ q ∈ L, q.sku = r.sku
 can : ∀ r ∈ K, CanP r.past
 size : ∀ r ∈ K, q3i r.past ≠ 0
 lt : K.Pairwise ltS
 apart : ∀ a ∈ K, ∀ b ∈ K, a.sku.size = 0 → b.sku.size ≠ 0 → ∀ d, q1c b.past d = true → q1c a.past d = false
theorem Folded.form {L K : List Rec} (h : Folded L K) (hL : ∀ q ∈ L, q2r q = 0) : q3y K := by
 refine ⟨fun i r hr => ?_, fun i a b ha hb => ?_⟩
 ·have hm := List.mem_of_getElem? hr
  obtain ⟨q, hq, hqs⟩ := h.from_ r hm
  have h1 := hL q hq
  have h2 : q1g r.past = true := q3k.2 (h.can r hm)
  have h3 := h.size r hm
  unfold q2r at h1 ⊢
  rw [← hqs]
  split at h1
  ·cases h1
  ·rename_i h4
   rw [if_neg h4, if_neg]
   rintro (h5 | h5)
   ·rw [h2] at h5; cases h5
   ·exact h3 h5
 ·have hab : ltS a b := by
   have h1 : i < K.length := by
    rcases Nat.lt_or_ge i K.length with h' | h'
    ·exact h'
    ·rw [List.getElem?_eq_none h'] at ha; cases ha
   have h2 : i + 1 < K.length := by
    rcases Nat.lt_or_ge (i + 1) K.length with h' | h'
    ·exact h'
    ·rw [List.getElem?_eq_none h'] at hb; cases hb
   have := List.pairwise_iff_getElem.1 h.lt i (i + 1) h1 h2 (by omega)
   rw [List.getElem?_eq_getElem h1, Option.some.injEq] at ha
   rw [List.getElem?_eq_getElem h2, Option.some.injEq] at hb
   rw [ha, hb] at this
   exact this
  unfold ltS at hab
  unfold q4b
  rw [if_neg (by omega)]
  exact hab
theorem Folded.one {L K : List Rec} (h : Folded L K) (e : Ent) : q88 K e ≤ 1 := by
 unfold q88
 have hp : (K.filter fun r => qb8 r e).Pairwise ltS := h.lt.filter _
 have hm : ∀ r ∈ K.filter (fun r => qb8 r e), r ∈ K ∧ qb8 r e = true := fun r hr => List.mem_filter.1 hr
 generalize K.filter (fun r => qb8 r e) = F at hp hm
 match F, hp, hm with
 | [], _, _ => exact Nat.zero_le _
 | [a], _, _ => exact Nat.le_refl _
 | a :: b :: F, hp, hm =>
  exfalso
  obtain ⟨ha, hac⟩ := hm a (by simp)
  obtain ⟨hb, hbc⟩ := hm b (by simp)
  have hab : ltS a b := (List.pairwise_cons.1 hp).1 b (by simp)
  have hne : a.sku ≠ b.sku := fun he => by
   unfold ltS at hab
   rw [he, q5o.2 rfl] at hab
   omega
  obtain ⟨h1, h2⟩ := (q7c a e).1 hac
  obtain ⟨h3, h4⟩ := (q7c b e).1 hbc
  by_cases ha0 : a.sku.size = 0
  ·by_cases hb0 : b.sku.size = 0
   ·exact hne (by rw [q58.2 ha0, q58.2 hb0])
   ·have := h.apart a ha b hb ha0 hb0 e.dot h4
    rw [h2] at this; cases this
  ·by_cases hb0 : b.sku.size = 0
   ·have := h.apart b hb a ha hb0 ha0 e.dot h2
    rw [h4] at this; cases this
   ·exact hne ((h1.resolve_left ha0).trans (h3.resolve_left hb0).symm)

theorem lt_ne {a b : ByteArray} (h : q9j a b < 0) : b.size ≠ 0 := by
 intro hb
 have h1 : bs b = [] := by
  have := zmj b
  rw [hb] at this
  exact List.length_eq_zero_iff.1 this
 unfold q9j at h
 rw [h1] at h
 cases h3 : bs a with
 | nil => rw [h3] at h; simp [q5u] at h
 | cons x l => rw [h3] at h; simp [q5u] at h
theorem qp1 {r : Rec} {K : List Rec} (hp : (r :: K).Pairwise ltS) (hc : CanP r.past) : q2p (r :: K) = r.past ∧ (r :: K).dropWhile (q12 r.sku) = K := by
 have h := q6b (p := q12 r.sku) (l := r :: K) (m := 1) (fun x hx => by simp at hx; subst hx; simp [q12]) (fun x hx => by
  have hm : x ∈ K := List.mem_of_getElem? (by simpa using hx)
  have := (List.pairwise_cons.1 hp).1 x hm
  refine decide_eq_false fun he => ?_
  unfold ltS at this
  rw [he, q5o.2 rfl] at this
  omega)
 refine ⟨?_, by rw [h.2]; rfl⟩
 unfold q2p z99
 simp only
 rw [h.1]
 exact hc
theorem qr0 {p all : Pst} (hc : CanP p) (h : ∀ d, q1c p d = true → q1c all d = false) : q2t p all = p := by
 refine (qgd _ _).ext hc fun r hr n => ?_
 rw [q7s _ _ hr]
 constructor
 ·exact fun h => h.1
 ·intro hi
  refine ⟨hi, fun ha => ?_⟩
  have h1 : q1c p ((r : Int), n) = true := (q1s p _).2 ⟨by show (0 : Int) ≤ (r : Int); omega, by simpa using hi⟩
  have h2 : q1c all ((r : Int), n) = true := (q1s all _).2 ⟨by show (0 : Int) ≤ (r : Int); omega, by simpa using ha⟩
  rw [h _ h1] at h2
  cases h2
theorem qb3 : ∀ (n : Nat) (K : List Rec) (all : Pst), K.length ≤ n → K.Pairwise ltS → (∀ r ∈ K, r.sku.size ≠ 0 ∧ CanP r.past ∧ q3i r.past ≠ 0 ∧ ∀ d, q1c r.past d = true → q1c all d = false) → q5j n K all = K
 | 0, K, all, h, _, _ => by
  have : K = [] := List.length_eq_zero_iff.1 (by omega)
  subst this
  rfl
 | n + 1, [], all, _, _, _ => rfl
 | n + 1, r :: K, all, h, hp, hk => by
  obtain ⟨h1, h2, h3, h4⟩ := hk r (by simp)
  obtain ⟨g1, g2⟩ := qp1 hp h2
  have ih := qb3 n K all (by simp at h; omega) (List.pairwise_cons.1 hp).2 (fun x hx => hk x (by simp [hx]))
  show qik r.sku (z6y all r.sku (q2p (r :: K))) ++ q5j n ((r :: K).dropWhile (q12 r.sku)) (za7 all r.sku (q2p (r :: K))) = _
  rw [show z6y all r.sku (q2p (r :: K)) = q2t (q2p (r :: K)) all from if_neg h1, show za7 all r.sku (q2p (r :: K)) = all from if_neg h1, g1, g2, ih, qr0 h2 h4]
  rw [show qik r.sku r.past = [⟨r.sku, r.past⟩] from if_neg h3]
  rfl
theorem Folded.rest {L K : List Rec} (h : Folded L K) : q9f K = K := by
 have hhd : q5j K.length K ⟨[], []⟩ = K := by
  cases K with
  | nil => rfl
  | cons r K =>
   have hlt := (List.pairwise_cons.1 h.lt).1
   have hne : ∀ x ∈ K, x.sku.size ≠ 0 := fun x hx => lt_ne (hlt x hx)
   by_cases hz : r.sku.size = 0
   ·obtain ⟨g1, g2⟩ := qp1 h.lt (h.can r (by simp))
    show qik r.sku (z6y ⟨[], []⟩ r.sku (q2p (r :: K))) ++ q5j K.length ((r :: K).dropWhile (q12 r.sku)) (za7 ⟨[], []⟩ r.sku (q2p (r :: K))) = _
    rw [show z6y ⟨[], []⟩ r.sku (q2p (r :: K)) = q2p (r :: K) from if_pos hz, show za7 ⟨[], []⟩ r.sku (q2p (r :: K)) = q2p (r :: K) from if_pos hz, g1, g2]
    rw [qb3 K.length K r.past (Nat.le_refl _) (List.pairwise_cons.1 h.lt).2 (fun x hx => ⟨hne x hx, h.can x (by simp [hx]), h.size x (by simp [hx]), fun d hd => h.apart r (by simp) x (by simp [hx]) hz (hne x hx) d hd⟩)]
    rw [show qik r.sku r.past = [⟨r.sku, r.past⟩] from if_neg (h.size r (by simp))]
    rfl
   ·refine qb3 (r :: K).length (r :: K) ⟨[], []⟩ (Nat.le_refl _) h.lt fun x hx => ⟨?_, h.can x hx, h.size x hx, fun d _ => zkp d⟩
    rcases List.mem_cons.1 hx with rfl | hx
    ·exact hz
    ·exact hne x hx
 unfold q9f
 rw [hhd]
 exact zko h.can


theorem qab {l : List Rec} (h : q3y l) : SrtR l := by
 have adj := h.2
 clear h
 unfold SrtR
 induction l with
 | nil => exact List.Pairwise.nil
 | cons a l ih =>
  have ih' := ih fun i x y hx hy => adj (i + 1) x y (by simpa using hx) (by simpa using hy)
  rw [List.pairwise_cons]
  refine ⟨fun z hz => ?_, ih'⟩
  cases l with
  | nil => cases hz
  | cons b l =>
   have h0 := adj 0 a b rfl rfl
   rcases List.mem_cons.1 hz with e | e
   ·rw [e]; exact h0
   ·exact qem h0 ((List.pairwise_cons.1 ih').1 z e)
theorem z7g {l : List Rec} (hs : SrtR l) (h : ∀ r ∈ l, q2r r = 0) : q3y l := by
 refine ⟨fun i r hr => h r (List.mem_of_getElem? hr), fun i a b ha hb => ?_⟩
 unfold SrtR at hs
 rw [List.getElem?_eq_some_iff] at ha hb
 obtain ⟨h1, rfl⟩ := ha
 obtain ⟨h2, rfl⟩ := hb
 exact List.pairwise_iff_getElem.1 hs i (i + 1) h1 h2 (by omega)
theorem qe8 {l : List Rec} (h : q3y l) : ∀ r ∈ l, q2r r = 0 := fun r hr => by
 obtain ⟨i, hi⟩ := List.mem_iff_getElem?.1 hr
 exact h.1 i r hi
theorem qbn {l : List Rec} (p : Rec → Bool) (h : q3y l) : q3y (l.filter p) :=
 z7g ((qab h).filter _) fun r hr => qe8 h r (List.mem_filter.1 hr).1
theorem qe6 {a b : List Rec} (ha : q3y a) (hb : q3y b) : q3y (q9i (a ++ b)) :=
 z7g (qc6 _) fun r hr => (List.mem_append.1 (qc5 hr)).elim (qe8 ha r) (qe8 hb r)
theorem qeu {a b : List Rec} (ha : q3y a) (hb : q3y b) : ∀ y ∈ a ++ b, qgi y := fun r hr => (List.mem_append.1 hr).elim (fun h => (q4t ha r h).1) (fun h => (q4t hb r h).1)
theorem qbf {p q s : Pst} (h1 : q0n p q = true) (h2 : q0n q s = true) : q0n p s = true :=
 q2d.2 fun r hr n h => q2d.1 h2 r hr n (q2d.1 h1 r hr n h)
theorem qqf (p : Pst) : q0n p p = true := q2d.2 fun r hr n h => h
theorem qs4 (x : Rec) : ∀ l : List Rec, q6m (z7b x l) ≤ wtK x + q6m l
 | [] => by simp [z7b, q6m]
 | y :: l => by
  have ih := qs4 x l
  unfold z7b
  split
  ·simp [q6m]
  ·split
   ·simp [q6m]
   ·unfold q6m at *
    simp only [List.map_cons, List.sum_cons] at *
    omega
theorem qgj : ∀ l : List Rec, q6m (q9i l) ≤ q6m l
 | [] => Nat.le_refl _
 | x :: l => by
  have ih := qgj l
  have := qs4 x (q9i l)
  unfold q9i
  unfold q6m at *
  simp only [List.map_cons, List.sum_cons] at *
  omega
theorem qs5 (a b : List Rec) : q6m (a ++ b) = q6m a + q6m b := by simp [q6m]

def lt2 (a b : Ent) : Prop := q2y a.dot b.dot = true
theorem q3e (x y : Rn) : q2y x y = true ↔ x.1 < y.1 ∨ (x.1 = y.1 ∧ x.2 < y.2) := by
 unfold q2y
 simp [Bool.or_eq_true, Bool.and_eq_true]
theorem qa1 {a b c : Ent} (h : lt2 a b) (h' : lt2 b c) : lt2 a c := by
 unfold lt2 at *
 rw [q3e] at *
 omega
theorem q43 {a b : Ent} (h : lt2 a b) : a.dot ≠ b.dot := by
 unfold lt2 at h
 rw [q3e] at h
 intro e
 rw [e] at h
 omega
theorem zly (x y : Rn) (h1 : q2y x y = false) (h2 : q2y y x = false) : x = y := by
 have a : ¬ q2y x y = true := by rw [h1]; decide
 have b : ¬ q2y y x = true := by rw [h2]; decide
 rw [q3e] at a b
 cases x; cases y
 simp at a b
 congr 1 <;> omega
abbrev qs1 (l : List Ent) : Prop := l.Pairwise lt2
theorem q42 : ∀ {l : List Ent}, (∀ (i : Nat) a b, l[i]? = some a → l[i + 1]? = some b → q2y a.dot b.dot = true) → qs1 l
 | [], _ => List.Pairwise.nil
 | [a], _ => by simp [qs1]
 | a :: b :: l, h => by
  have ih := q42 (l := b :: l) fun i x y hx hy => h (i + 1) x y hx hy
  refine List.Pairwise.cons (fun x hx => ?_) ih
  have hab : lt2 a b := h 0 a b rfl rfl
  rcases List.mem_cons.1 hx with rfl | hx
  ·exact hab
  ·exact qa1 hab ((List.pairwise_cons.1 ih).1 x hx)
theorem qgt : ∀ {l m : List Ent}, qs1 l → qs1 m → (∀ e, e ∈ l ↔ e ∈ m) → l = m
 | [], [], _, _, _ => rfl
 | [], b :: m, _, _, h => absurd ((h b).2 (by simp)) (by simp)
 | a :: l, [], _, _, h => absurd ((h a).1 (by simp)) (by simp)
 | a :: l, b :: m, h1, h2, h => by
  obtain ⟨ha, hl⟩ := List.pairwise_cons.1 h1
  obtain ⟨hb, hm⟩ := List.pairwise_cons.1 h2
  have hab : a = b := by
   rcases List.mem_cons.1 ((h a).1 (by simp)) with e | h3
   ·exact e
   ·rcases List.mem_cons.1 ((h b).2 (by simp)) with e | h4
    ·exact e.symm
    ·exact absurd rfl (q43 (qa1 (hb a h3) (ha b h4)))
  subst hab
  congr 1
  refine qgt hl hm fun e => ?_
  constructor
  ·intro he
   rcases List.mem_cons.1 ((h e).1 (by simp [he])) with rfl | h3
   ·exact absurd rfl (q43 (ha e he))
   ·exact h3
  ·intro he
   rcases List.mem_cons.1 ((h e).2 (by simp [he])) with rfl | h3
   ·exact absurd rfl (q43 (hb e he))
   ·exact h3
def eqE (a b : Ent) : Bool := (((decide (a.rep = b.rep) && decide (a.num = b.num)) && decide (a.sku = b.sku)) && decide (a.qty = b.qty))
theorem qi1 (a b : Ent) : eqE a b = true ↔ a = b := by
 cases a; cases b
 simp [eqE, Bool.and_eq_true, and_assoc]
def qh9 (k : Bool) (a : Ent) : List Ent := if k = true then [a] else []
theorem mem_opt1 {k : Bool} {a e : Ent} : e ∈ qh9 k a ↔ k = true ∧ e = a := by
 unfold qh9
 split <;> simp_all
def q7l (ka kb : Ent → Bool) : Nat → List Ent → List Ent → Option (List Ent)
 | 0, _, _ => some []
 | n + 1, [], [] => some []
 | n + 1, a :: A, [] => (q7l ka kb n A []).map (qh9 (ka a) a ++ ·)
 | n + 1, [], b :: B => (q7l ka kb n [] B).map (qh9 (kb b) b ++ ·)
 | n + 1, a :: A, b :: B =>
  if q2y a.dot b.dot = true then (q7l ka kb n A (b :: B)).map (qh9 (ka a) a ++ ·)
  else if q2y b.dot a.dot = true then (q7l ka kb n (a :: A) B).map (qh9 (kb b) b ++ ·)
  else if eqE a b = true then (q7l ka kb n A B).map (a :: ·) else none
def q26 (l : List Ent) (d : Rn) : Prop := ∃ e ∈ l, e.dot = d
def Clash (A B : List Ent) : Prop := ∃ a ∈ A, ∃ b ∈ B, a.dot = b.dot ∧ a ≠ b
def InM (ka kb : Ent → Bool) (A B : List Ent) (e : Ent) : Prop := (e ∈ A ∧ (q26 B e.dot ∨ ka e = true)) ∨ (e ∈ B ∧ (q26 A e.dot ∨ kb e = true))
def MSpec (ka kb : Ent → Bool) (A B : List Ent) : Option (List Ent) → Prop
 | none => Clash A B
 | some L => ¬ Clash A B ∧ qs1 L ∧ ∀ e, e ∈ L ↔ InM ka kb A B e
theorem MSpec.stepA {ka kb : Ent → Bool} {a : Ent} {A B : List Ent} (hA : ∀ x ∈ A, lt2 a x) (hB : ∀ x ∈ B, lt2 a x) {r : Option (List Ent)} (h : MSpec ka kb A B r) : MSpec ka kb (a :: A) B (r.map (qh9 (ka a) a ++ ·)) := by
 have hd : ¬ q26 B a.dot := fun ⟨x, hx, e⟩ => q43 (hB x hx) e.symm
 have hc : Clash (a :: A) B ↔ Clash A B := by
  constructor
  ·rintro ⟨x, hx, y, hy, e, hne⟩
   rcases List.mem_cons.1 hx with rfl | hx
   ·exact absurd ⟨y, hy, e.symm⟩ hd
   ·exact ⟨x, hx, y, hy, e, hne⟩
  ·rintro ⟨x, hx, y, hy, e, hne⟩
   exact ⟨x, by simp [hx], y, hy, e, hne⟩
 have hdc : ∀ y ∈ B, (q26 (a :: A) y.dot ↔ q26 A y.dot) := fun y hy => by
  constructor
  ·rintro ⟨x, hx, e⟩
   rcases List.mem_cons.1 hx with rfl | hx
   ·exact absurd e (q43 (hB y hy))
   ·exact ⟨x, hx, e⟩
  ·rintro ⟨x, hx, e⟩
   exact ⟨x, by simp [hx], e⟩
 cases r with
 | none => exact hc.2 h
 | some L =>
  obtain ⟨h1, h2, h3⟩ := h
  refine ⟨fun h => h1 (hc.1 h), ?_, fun e => ?_⟩
  ·show qs1 (qh9 (ka a) a ++ L)
   unfold qh9
   split
   ·refine List.Pairwise.cons (fun x hx => ?_) h2
    rcases (h3 x).1 hx with h | h
    ·exact hA x h.1
    ·exact hB x h.1
   ·exact h2
  ·rw [List.mem_append, mem_opt1, h3]
   unfold InM
   constructor
   ·rintro (⟨hk, rfl⟩ | ⟨hx, hk⟩ | ⟨hx, hk⟩)
    ·exact .inl ⟨by simp, .inr hk⟩
    ·exact .inl ⟨by simp [hx], hk⟩
    ·exact .inr ⟨hx, by rw [hdc e hx]; exact hk⟩
   ·rintro (⟨hx, hk⟩ | ⟨hx, hk⟩)
    ·rcases List.mem_cons.1 hx with rfl | hx
     ·exact .inl ⟨hk.resolve_left hd, rfl⟩
     ·exact .inr (.inl ⟨hx, hk⟩)
    ·exact .inr (.inr ⟨hx, by rw [hdc e hx] at hk; exact hk⟩)
theorem Clash.symm {A B : List Ent} (h : Clash A B) : Clash B A := by
 obtain ⟨a, ha, b, hb, e, hne⟩ := h
 exact ⟨b, hb, a, ha, e.symm, fun h => hne h.symm⟩
theorem MSpec.symm {ka kb : Ent → Bool} {A B : List Ent} {r : Option (List Ent)} (h : MSpec ka kb A B r) : MSpec kb ka B A r := by
 cases r with
 | none => exact Clash.symm h
 | some L => exact ⟨fun hc => h.1 hc.symm, h.2.1, fun e => by rw [h.2.2 e]; unfold InM; exact or_comm⟩
theorem MSpec.stepBoth {ka kb : Ent → Bool} {a : Ent} {A B : List Ent} (hA : ∀ x ∈ A, lt2 a x) (hB : ∀ x ∈ B, lt2 a x) {r : Option (List Ent)} (h : MSpec ka kb A B r) : MSpec ka kb (a :: A) (a :: B) (r.map (a :: ·)) := by
 have hc : Clash (a :: A) (a :: B) ↔ Clash A B := by
  constructor
  ·rintro ⟨x, hx, y, hy, e, hne⟩
   rcases List.mem_cons.1 hx with rfl | hx
   ·rcases List.mem_cons.1 hy with rfl | hy
    ·exact absurd rfl hne
    ·exact absurd e (q43 (hB y hy))
   ·rcases List.mem_cons.1 hy with h0 | hy
    ·rw [h0] at e
     exact absurd e.symm (q43 (hA x hx))
    ·exact ⟨x, hx, y, hy, e, hne⟩
  ·rintro ⟨x, hx, y, hy, e, hne⟩
   exact ⟨x, by simp [hx], y, by simp [hy], e, hne⟩
 have hd : ∀ {C : List Ent} (y : Ent), lt2 a y → (q26 (a :: C) y.dot ↔ q26 C y.dot) := fun {C} y hy => by
  constructor
  ·rintro ⟨x, hx, e⟩
   rcases List.mem_cons.1 hx with rfl | hx
   ·exact absurd e (q43 hy)
   ·exact ⟨x, hx, e⟩
  ·rintro ⟨x, hx, e⟩
   exact ⟨x, by simp [hx], e⟩
 cases r with
 | none => exact hc.2 h
 | some L =>
  obtain ⟨h1, h2, h3⟩ := h
  refine ⟨fun h => h1 (hc.1 h), ?_, fun e => ?_⟩
  ·refine List.Pairwise.cons (fun x hx => ?_) h2
   rcases (h3 x).1 hx with h | h
   ·exact hA x h.1
   ·exact hB x h.1
  ·show e ∈ a :: L ↔ _
   rw [List.mem_cons, h3]
   unfold InM
   constructor
   ·rintro (rfl | ⟨hx, hk⟩ | ⟨hx, hk⟩)
    ·exact .inl ⟨by simp, .inl ⟨e, by simp, rfl⟩⟩
    ·exact .inl ⟨by simp [hx], by rw [hd e (hA e hx)]; exact hk⟩
    ·exact .inr ⟨by simp [hx], by rw [hd e (hB e hx)]; exact hk⟩
   ·rintro (⟨hx, hk⟩ | ⟨hx, hk⟩)
    ·rcases List.mem_cons.1 hx with rfl | hx
     ·exact .inl rfl
     ·exact .inr (.inl ⟨hx, by rw [hd e (hA e hx)] at hk; exact hk⟩)
    ·rcases List.mem_cons.1 hx with rfl | hx
     ·exact .inl rfl
     ·exact .inr (.inr ⟨hx, by rw [hd e (hB e hx)] at hk; exact hk⟩)
theorem qos (ka kb : Ent → Bool) : MSpec ka kb [] [] (some []) :=
 ⟨fun ⟨a, ha, _⟩ => absurd ha (by simp), List.Pairwise.nil, fun e => by simp [InM]⟩
theorem q5d (ka kb : Ent → Bool) : ∀ (n : Nat) (A B : List Ent), A.length + B.length ≤ n → qs1 A → qs1 B → MSpec ka kb A B (q7l ka kb n A B)
 | 0, A, B, h, _, _ => by
  have h1 : A = [] := List.length_eq_zero_iff.1 (by omega)
  have h2 : B = [] := List.length_eq_zero_iff.1 (by omega)
  subst h1; subst h2
  exact qos ka kb
 | n + 1, [], [], _, _, _ => qos ka kb
 | n + 1, a :: A, [], h, hA, hB => MSpec.stepA (List.pairwise_cons.1 hA).1 (fun x hx => by cases hx) (q5d ka kb n A [] (by simp at h ⊢; omega) (List.pairwise_cons.1 hA).2 hB)
 | n + 1, [], b :: B, h, hA, hB => (MSpec.stepA (List.pairwise_cons.1 hB).1 (fun x hx => by cases hx) (q5d ka kb n [] B (by simp at h ⊢; omega) hA (List.pairwise_cons.1 hB).2).symm).symm
 | n + 1, a :: A, b :: B, h, hA, hB => by
  obtain ⟨a1, a2⟩ := List.pairwise_cons.1 hA
  obtain ⟨b1, b2⟩ := List.pairwise_cons.1 hB
  simp only [List.length_cons] at h
  unfold q7l
  split
  ·rename_i hab
   refine MSpec.stepA a1 (fun x hx => ?_) (q5d ka kb n A (b :: B) (by simp; omega) a2 hB)
   rcases List.mem_cons.1 hx with rfl | hx
   ·exact hab
   ·exact qa1 hab (b1 x hx)
  ·rename_i hab
   split
   ·rename_i hba
    refine (MSpec.stepA b1 (fun x hx => ?_) (q5d ka kb n (a :: A) B (by simp; omega) hA b2).symm).symm
    rcases List.mem_cons.1 hx with rfl | hx
    ·exact hba
    ·exact qa1 hba (a1 x hx)
   ·rename_i hba
    have hd := zly a.dot b.dot (by simpa using hab) (by simpa using hba)
    split
    ·rename_i he
     have he := (qi1 a b).1 he
     subst he
     exact MSpec.stepBoth a1 b1 (q5d ka kb n A B (by omega) a2 b2)
    ·rename_i he
     exact ⟨a, by simp, b, by simp, hd, fun e => he ((qi1 a b).2 e)⟩

def z4u : List SOp := [⟨some 8,.assign (.const (.int .i64 0)),none⟩]
instance : Live z4u := ⟨[0,1,2,3]⟩
def z4t : List SOp := [⟨some 10,.move (.tmp 1),none⟩,⟨some 11,.move (.tmp 0),none⟩,⟨some 12,.call ⟨.builtin .len,#[.tmp 11],#[22]⟩,none⟩,⟨some 13,.binOp .eql 3 (.tmp 10) (.tmp 12) 3,none⟩,⟨some 9,.assign (.tmp 13),none⟩]
instance : Live z4t := ⟨[0,1,2,3]⟩
def z4s : List SOp := [⟨some 8,.assign (.const (.int .i64 1)),none⟩]
instance : Live z4s := ⟨[]⟩
def z4r : List SOp := [⟨some 15,.move (.tmp 3),none⟩,⟨some 16,.move (.tmp 2),none⟩,⟨some 17,.call ⟨.builtin .len,#[.tmp 16],#[22]⟩,none⟩,⟨some 18,.binOp .eql 3 (.tmp 15) (.tmp 17) 3,none⟩,⟨some 14,.assign (.tmp 18),none⟩]
instance : Live z4r := ⟨[0,1,2,3]⟩
def z4q : List SOp := [⟨some 8,.assign (.const (.int .i64 (-1))),none⟩]
instance : Live z4q := ⟨[]⟩
def z4p : List SOp := [⟨some 20,.move (.tmp 0),none⟩,⟨some 21,.move (.tmp 1),none⟩,⟨some 22,.indexAddr 22 (.tmp 20) (.tmp 21),none⟩,⟨some 23,.fieldAddr 62 (.tmp 22) 0,none⟩,⟨some 24,.load 41 (.tmp 23),none⟩,⟨some 25,.move (.tmp 2),none⟩,⟨some 26,.move (.tmp 3),none⟩,⟨some 27,.indexAddr 22 (.tmp 25) (.tmp 26),none⟩,⟨some 28,.fieldAddr 62 (.tmp 27) 0,none⟩,⟨some 29,.load 41 (.tmp 28),none⟩,⟨some 30,.binOp .eql 41 (.tmp 24) (.tmp 29) 41,none⟩,⟨some 19,.assign (.tmp 30),none⟩]
instance : Live z4p := ⟨[0,1,2,3]⟩
def z4o : List SOp := [⟨some 8,.assign (.const (.int .i64 0)),none⟩]
instance : Live z4o := ⟨[]⟩
def z4n : List SOp := [⟨some 32,.move (.tmp 0),none⟩,⟨some 33,.move (.tmp 1),none⟩,⟨some 34,.indexAddr 22 (.tmp 32) (.tmp 33),none⟩,⟨some 35,.fieldAddr 62 (.tmp 34) 0,none⟩,⟨some 36,.fieldAddr 41 (.tmp 35) 0,none⟩,⟨some 37,.load 3 (.tmp 36),none⟩,⟨some 38,.move (.tmp 2),none⟩,⟨some 39,.move (.tmp 3),none⟩,⟨some 40,.indexAddr 22 (.tmp 38) (.tmp 39),none⟩,⟨some 41,.fieldAddr 62 (.tmp 40) 0,none⟩,⟨some 42,.fieldAddr 41 (.tmp 41) 0,none⟩,⟨some 43,.load 3 (.tmp 42),none⟩,⟨some 44,.binOp .neq 3 (.tmp 37) (.tmp 43) 3,none⟩,⟨some 31,.assign (.tmp 44),none⟩]
instance : Live z4n := ⟨[0,1,2,3]⟩
def z4m : List SOp := [⟨some 45,.move (.tmp 0),none⟩,⟨some 46,.move (.tmp 1),none⟩,⟨some 47,.indexAddr 22 (.tmp 45) (.tmp 46),none⟩,⟨some 48,.fieldAddr 62 (.tmp 47) 0,none⟩,⟨some 49,.fieldAddr 41 (.tmp 48) 0,none⟩,⟨some 50,.load 3 (.tmp 49),none⟩,⟨some 51,.move (.tmp 2),none⟩,⟨some 52,.move (.tmp 3),none⟩,⟨some 53,.indexAddr 22 (.tmp 51) (.tmp 52),none⟩,⟨some 54,.fieldAddr 62 (.tmp 53) 0,none⟩,⟨some 55,.fieldAddr 41 (.tmp 54) 0,none⟩,⟨some 56,.load 3 (.tmp 55),none⟩,⟨some 57,.binOp .sub 3 (.tmp 50) (.tmp 56) 3,none⟩,⟨some 8,.assign (.tmp 57),none⟩]
instance : Live z4m := ⟨[0,1,2,3]⟩
def qo6 : List SOp := [⟨some 58,.move (.tmp 0),none⟩,⟨some 59,.move (.tmp 1),none⟩,⟨some 60,.indexAddr 22 (.tmp 58) (.tmp 59),none⟩,⟨some 61,.fieldAddr 62 (.tmp 60) 0,none⟩,⟨some 62,.fieldAddr 41 (.tmp 61) 1,none⟩,⟨some 63,.load 3 (.tmp 62),none⟩,⟨some 64,.move (.tmp 2),none⟩,⟨some 65,.move (.tmp 3),none⟩,⟨some 66,.indexAddr 22 (.tmp 64) (.tmp 65),none⟩,⟨some 67,.fieldAddr 62 (.tmp 66) 0,none⟩,⟨some 68,.fieldAddr 41 (.tmp 67) 1,none⟩,⟨some 69,.load 3 (.tmp 68),none⟩,⟨some 70,.binOp .sub 3 (.tmp 63) (.tmp 69) 3,none⟩,⟨some 8,.assign (.tmp 70),none⟩]
instance : Live qo6 := ⟨[0,1,2,3]⟩
def qfd : SC :=
 (.seq (.ops false z4u) (.seq (.block 0 (.seq (.ops false z4t) (.cond (.tmp 9) (.seq (.ops false z4s) .ret) (.seq (.ops false z4r) (.cond (.tmp 14) (.seq (.ops false z4q) .ret) (.seq (.ops true z4p) (.cond (.tmp 19) (.seq (.ops false z4o) .ret) (.seq (.ops true z4n) (.cond (.tmp 31) (.seq (.ops true z4m) .ret) .skip))))))))) (.seq (.ops true qo6) .ret)))
theorem qe1 : FnIs Tryz.prog 112 71 [.tmp 8] qfd := ⟨Tryz.f112, _, Tryz.func112, rfl, rfl, rfl, rfl, by kernel_rfl⟩

def zeb : List SOp := [⟨some 5,.box 26 (.tmp 1),none⟩,⟨some 7,.box 26 (.tmp 3),none⟩,⟨some 8,.assign (.const (.slice none 0 0)),none⟩,⟨some 9,.assign (.const (.int .i64 0)),none⟩]
instance : Live zeb := ⟨[0,1,2,3]⟩
def zea : List SOp := [⟨some 14,.move (.tmp 0),none⟩,⟨some 15,.call ⟨.value (.func 53),#[.tmp 14],#[22]⟩,none⟩,⟨some 16,.binOp .neq 32 (.tmp 15) (.const (.int .i64 0)) 32,none⟩,⟨some 17,.move (.tmp 16),none⟩,⟨some 18,.load 26 (.tmp 5),some ((some 17),false)⟩,⟨some 19,.call ⟨.value (.func 54),#[.tmp 18],#[26]⟩,some ((some 17),false)⟩,⟨some 20,.unOp .not 4 (.tmp 19),some ((some 17),false)⟩,⟨some 21,.pick (.tmp 17) (.const (.bool true)) (.tmp 20),none⟩,⟨some 22,.move (.tmp 21),none⟩,⟨some 23,.move (.tmp 2),some ((some 22),false)⟩,⟨some 24,.call ⟨.value (.func 53),#[.tmp 23],#[22]⟩,some ((some 22),false)⟩,⟨some 25,.binOp .neq 32 (.tmp 24) (.const (.int .i64 0)) 32,some ((some 22),false)⟩,⟨some 26,.pick (.tmp 22) (.const (.bool true)) (.tmp 25),none⟩,⟨some 27,.move (.tmp 26),none⟩,⟨some 28,.load 26 (.tmp 7),some ((some 27),false)⟩,⟨some 29,.call ⟨.value (.func 54),#[.tmp 28],#[26]⟩,some ((some 27),false)⟩,⟨some 30,.unOp .not 4 (.tmp 29),some ((some 27),false)⟩,⟨some 31,.pick (.tmp 27) (.const (.bool true)) (.tmp 30),none⟩]
instance : Live zea := ⟨[0,2,5,7]⟩
def ze9 : List SOp := [⟨some 8,.assign (.const (.slice none 0 0)),none⟩,⟨some 9,.assign (.const (.int .i64 1)),none⟩]
instance : Live ze9 := ⟨[]⟩
def ze8 : List SOp := [⟨some 10,.assign (.const (.slice none 0 0)),none⟩]
instance : Live ze8 := ⟨[0,2,5,7]⟩
def ze7 : List SOp := [⟨some 11,.assign (.const (.int .i64 0)),none⟩,⟨some 12,.assign (.const (.int .i64 0)),none⟩]
instance : Live ze7 := ⟨[0,2,5,7,10]⟩
def ze6 : List SOp := [⟨some 32,.move (.tmp 11),none⟩,⟨some 33,.move (.tmp 0),none⟩,⟨some 34,.call ⟨.builtin .len,#[.tmp 33],#[22]⟩,none⟩,⟨some 35,.binOp .lss 3 (.tmp 32) (.tmp 34) 3,none⟩,⟨some 36,.move (.tmp 35),none⟩,⟨some 37,.move (.tmp 12),some ((some 36),false)⟩,⟨some 38,.move (.tmp 2),some ((some 36),false)⟩,⟨some 39,.call ⟨.builtin .len,#[.tmp 38],#[22]⟩,some ((some 36),false)⟩,⟨some 40,.binOp .lss 3 (.tmp 37) (.tmp 39) 3,some ((some 36),false)⟩,⟨some 41,.pick (.tmp 36) (.const (.bool true)) (.tmp 40),none⟩]
instance : Live ze6 := ⟨[0,2,5,7,10,11,12]⟩
def ze5 : List SOp := [⟨some 42,.move (.tmp 0),none⟩,⟨some 43,.move (.tmp 11),none⟩,⟨some 44,.move (.tmp 2),none⟩,⟨some 45,.move (.tmp 12),none⟩,⟨some 46,.call ⟨.value (.func 112),#[.tmp 42,.tmp 43,.tmp 44,.tmp 45],#[22,3,22,3]⟩,none⟩,⟨some 13,.assign (.tmp 46),none⟩]
instance : Live ze5 := ⟨[0,2,5,7,10,11,12]⟩
def ze4 : List SOp := [⟨some 68,.move (.tmp 13),none⟩,⟨some 69,.binOp .lss 3 (.tmp 68) (.const (.int .i64 0)) 3,none⟩,⟨some 67,.assign (.tmp 69),none⟩]
instance : Live ze4 := ⟨[0,2,5,7,10,11,12,13]⟩
def ze3 : List SOp := [⟨some 70,.load 26 (.tmp 7),none⟩,⟨some 71,.move (.tmp 0),none⟩,⟨some 72,.move (.tmp 11),none⟩,⟨some 73,.indexAddr 22 (.tmp 71) (.tmp 72),none⟩,⟨some 74,.fieldAddr 62 (.tmp 73) 0,none⟩,⟨some 75,.load 41 (.tmp 74),none⟩,⟨some 76,.call ⟨.value (.func 51),#[.tmp 70,.tmp 75],#[26,41]⟩,none⟩,⟨some 77,.unOp .not 4 (.tmp 76),none⟩]
instance : Live ze3 := ⟨[0,2,5,7,10,11,12]⟩
def qu3 : List SOp := [⟨some 78,.move (.tmp 10),none⟩,⟨some 79,.move (.tmp 0),none⟩,⟨some 80,.move (.tmp 11),none⟩,⟨some 81,.indexAddr 22 (.tmp 79) (.tmp 80),none⟩,⟨some 82,.load 62 (.tmp 81),none⟩,⟨some 83,.buildSlice 22 1 #[(0,.tmp 82)],none⟩,⟨some 84,.call ⟨.builtin .append,#[.tmp 78,.tmp 83],#[22,22]⟩,none⟩,⟨some 10,.assign (.tmp 84),none⟩]
instance : Live qu3 := ⟨[0,2,5,7,10,11,12]⟩
def qu2 : List SOp := [⟨some 85,.move (.tmp 11),none⟩,⟨some 86,.binOp .add 3 (.tmp 85) (.const (.int .i64 1)) 3,none⟩,⟨some 11,.assign (.tmp 86),none⟩]
instance : Live qu2 := ⟨[0,2,5,7,10,11,12]⟩
def qu1 : List SOp := [⟨some 88,.move (.tmp 13),none⟩,⟨some 89,.binOp .gtr 3 (.tmp 88) (.const (.int .i64 0)) 3,none⟩,⟨some 87,.assign (.tmp 89),none⟩]
instance : Live qu1 := ⟨[0,2,5,7,10,11,12,13]⟩
def qu0 : List SOp := [⟨some 90,.load 26 (.tmp 5),none⟩,⟨some 91,.move (.tmp 2),none⟩,⟨some 92,.move (.tmp 12),none⟩,⟨some 93,.indexAddr 22 (.tmp 91) (.tmp 92),none⟩,⟨some 94,.fieldAddr 62 (.tmp 93) 0,none⟩,⟨some 95,.load 41 (.tmp 94),none⟩,⟨some 96,.call ⟨.value (.func 51),#[.tmp 90,.tmp 95],#[26,41]⟩,none⟩,⟨some 97,.unOp .not 4 (.tmp 96),none⟩]
instance : Live qu0 := ⟨[0,2,5,7,10,11,12]⟩
def qtz : List SOp := [⟨some 98,.move (.tmp 10),none⟩,⟨some 99,.move (.tmp 2),none⟩,⟨some 100,.move (.tmp 12),none⟩,⟨some 101,.indexAddr 22 (.tmp 99) (.tmp 100),none⟩,⟨some 102,.load 62 (.tmp 101),none⟩,⟨some 103,.buildSlice 22 1 #[(0,.tmp 102)],none⟩,⟨some 104,.call ⟨.builtin .append,#[.tmp 98,.tmp 103],#[22,22]⟩,none⟩,⟨some 10,.assign (.tmp 104),none⟩]
instance : Live qtz := ⟨[0,2,5,7,10,11,12]⟩
def qtx : List SOp := [⟨some 105,.move (.tmp 12),none⟩,⟨some 106,.binOp .add 3 (.tmp 105) (.const (.int .i64 1)) 3,none⟩,⟨some 12,.assign (.tmp 106),none⟩]
instance : Live qtx := ⟨[0,2,5,7,10,11,12]⟩
def qtw : List SOp := [⟨some 47,.move (.tmp 0),none⟩,⟨some 48,.move (.tmp 11),none⟩,⟨some 49,.indexAddr 22 (.tmp 47) (.tmp 48),none⟩,⟨some 50,.load 62 (.tmp 49),none⟩,⟨some 51,.move (.tmp 2),none⟩,⟨some 52,.move (.tmp 12),none⟩,⟨some 53,.indexAddr 22 (.tmp 51) (.tmp 52),none⟩,⟨some 54,.load 62 (.tmp 53),none⟩,⟨some 55,.binOp .neq 62 (.tmp 50) (.tmp 54) 62,none⟩]
instance : Live qtw := ⟨[0,2,5,7,10,11,12]⟩
def qtv : List SOp := [⟨some 8,.assign (.const (.slice none 0 0)),none⟩,⟨some 9,.assign (.const (.int .i64 10)),none⟩]
instance : Live qtv := ⟨[]⟩
def qtu : List SOp := [⟨some 56,.move (.tmp 10),none⟩,⟨some 57,.move (.tmp 0),none⟩,⟨some 58,.move (.tmp 11),none⟩,⟨some 59,.indexAddr 22 (.tmp 57) (.tmp 58),none⟩,⟨some 60,.load 62 (.tmp 59),none⟩,⟨some 61,.buildSlice 22 1 #[(0,.tmp 60)],none⟩,⟨some 62,.call ⟨.builtin .append,#[.tmp 56,.tmp 61],#[22,22]⟩,none⟩,⟨some 10,.assign (.tmp 62),none⟩]
instance : Live qtu := ⟨[0,2,5,7,10,11,12]⟩
def qtt : List SOp := [⟨some 63,.move (.tmp 11),none⟩,⟨some 64,.binOp .add 3 (.tmp 63) (.const (.int .i64 1)) 3,none⟩,⟨some 65,.move (.tmp 12),none⟩,⟨some 66,.binOp .add 3 (.tmp 65) (.const (.int .i64 1)) 3,none⟩,⟨some 11,.assign (.tmp 64),none⟩,⟨some 12,.assign (.tmp 66),none⟩]
instance : Live qtt := ⟨[0,2,5,7,10,11,12]⟩
def qts : List SOp := [⟨some 107,.move (.tmp 10),none⟩,⟨some 8,.assign (.tmp 107),none⟩,⟨some 9,.assign (.const (.int .i64 0)),none⟩]
instance : Live qts := ⟨[10]⟩
def qsj : SC :=
 (.seq (.seq (.ops false ze6) (.cond (.tmp 41) .skip (.exit 0))) (.block 1 (.seq (.ops false ze5) (.block 2 (.seq (.ops false ze4) (.cond (.tmp 67) (.seq (.seq (.ops true ze3) (.cond (.tmp 77) (.ops false qu3) .skip)) (.ops false qu2)) (.seq (.ops false qu1) (.cond (.tmp 87) (.seq (.seq (.ops true qu0) (.cond (.tmp 97) (.ops false qtz) .skip)) (.ops false qtx)) (.seq (.seq (.ops true qtw) (.cond (.tmp 55) (.seq (.ops false qtv) .ret) .skip)) (.seq (.ops false qtu) (.ops false qtt)))))))))))
def t_k65 : SC :=
 (.seq (.ops false zeb) (.seq (.seq (.ops false zea) (.cond (.tmp 31) (.seq (.ops false ze9) .ret) .skip)) (.seq (.ops false ze8) (.seq (.ops false ze7) (.seq (.block 0 (.loop qsj)) (.seq (.ops false qts) .ret))))))
theorem it_k65 : FnIs Tryz.prog 65 108 [.tmp 8, .tmp 9] t_k65 := ⟨Tryz.f65, _, Tryz.func65, rfl, rfl, rfl, rfl, by kernel_rfl⟩

theorem z8m (A B : List Ent) (j : Nat) : Ev (En Tryz.prog rfl).P 112 [.sl 4 (q0e A), .int .i64 A.length, .sl 4 (q0e B), .int .i64 j] (.ret (.int .i64 1)) := by
 refine Ev.of_body qe1 (by simp) (Run.start ?_)
 unfold qfd
 have e1 := q0m A
 have hS := qq9
 (have hF := @e1; refine q01 (k:=?_); clear hF)
 exact Fin.tmp' rfl rfl
theorem z8l (A B : List Ent) (i : Nat) (hi : i < A.length) : Ev (En Tryz.prog rfl).P 112 [.sl 4 (q0e A), .int .i64 i, .sl 4 (q0e B), .int .i64 B.length] (.ret (.int .i64 (-1))) := by
 refine Ev.of_body qe1 (by simp) (Run.start ?_)
 unfold qfd
 have e1 := q0m A
 have e2 := q0m B
 have hS := qq9
 have h1 : ¬ (i : Int) = (A.length : Int) := by omega
 (have hF := (aI @e1 (aI @e2 @h1)); refine q01 (k:=?_); clear hF)
 exact Fin.tmp' rfl rfl
theorem ent_ok {e : Ent} (h : q25 e = 0) : 0 ≤ e.rep ∧ e.rep < 16 ∧ 1 ≤ e.num ∧ e.num ≤ 1000000000 := by
 unfold q25 at h
 split at h
 ·cases h
 ·split at h
  ·cases h
  ·omega
theorem zjn (A B : List Ent) (i j : Nat) (a b : Ent) (ha : A[i]? = some a) (hb : B[j]? = some b) (oa : q25 a = 0) (ob : q25 b = 0) :
 ∃ c : Int, Ev (En Tryz.prog rfl).P 112 [.sl 4 (q0e A), .int .i64 i, .sl 4 (q0e B), .int .i64 j] (.ret (.int .i64 c)) ∧ (c < 0 ↔ q2y a.dot b.dot = true) ∧ (0 < c ↔ q2y b.dot a.dot = true) := by
 have e1 := q0m A
 have e2 := q0m B
 have hS := qq9
 have hi : i < A.length := by
  rcases Nat.lt_or_ge i A.length with h | h
  ·exact h
  ·rw [List.getElem?_eq_none h] at ha; cases ha
 have hj : j < B.length := by
  rcases Nat.lt_or_ge j B.length with h | h
  ·exact h
  ·rw [List.getElem?_eq_none h] at hb; cases hb
 have n1 : ¬ (i : Int) = (A.length : Int) := by omega
 have n2 : ¬ (j : Int) = (B.length : Int) := by omega
 have g1 := q0u ha
 have g2 := q0u hb
 have pa := ent_ok oa
 have pb := ent_ok ob
 by_cases h1 : a.rep = b.rep
 ·by_cases h2 : a.num = b.num
  ·refine ⟨0, ?_, ?_, ?_⟩
   ·refine Ev.of_body qe1 (by simp) (Run.start ?_)
    unfold qfd
    (have hF := (aI (aI (aI @e1 @e2) (aI @n1 @n2)) (aI (aI @g1 @g2) (aI @h1 @h2))); refine q01 (k:=?_); clear hF)
    exact Fin.tmp' rfl rfl
   ·rw [q3e]; simp only [Ent.dot]; omega
   ·rw [q3e]; simp only [Ent.dot]; omega
  ·refine ⟨a.num - b.num, ?_, ?_, ?_⟩
   ·have hwr : IntKind.i64.wrap (a.num - b.num) = a.num - b.num := q2o (by omega)
    refine Ev.of_body qe1 (by simp) (Run.start ?_)
    unfold qfd
    (have hF := (aI (aI (aI @e1 @e2) (aI @n1 @n2)) (aI (aI @g1 @g2) (aI @h1 (aI @h2 @hwr)))); refine q01 (k:=?_); clear hF)
    exact Fin.tmp' rfl rfl
   ·rw [q3e]; simp only [Ent.dot]; omega
   ·rw [q3e]; simp only [Ent.dot]; omega
 ·refine ⟨a.rep - b.rep, ?_, ?_, ?_⟩
  ·have hwr : IntKind.i64.wrap (a.rep - b.rep) = a.rep - b.rep := q2o (by omega)
   refine Ev.of_body qe1 (by simp) (Run.start ?_)
   unfold qfd
   (have hF := (aI (aI (aI @e1 @e2) (aI @n1 @n2)) (aI (aI @g1 @g2) (aI @h1 @hwr))); refine q01 (k:=?_); clear hF)
   exact Fin.tmp' rfl rfl
  ·rw [q3e]; simp only [Ent.dot]; omega
  ·rw [q3e]; simp only [Ent.dot]; omega
def qf4 : Option (List Ent) → List Ent | none => [] | some l => l
def errO : Option (List Ent) → Int | none => 10 | some _ => 0
def q1b (p : Pst) (e : Ent) : Bool := !q1c p e.dot
def okM (A : List Ent) (ap : Pst) (B : List Ent) (bp : Pst) : Prop := q7k A = true ∧ q1g ap = true ∧ q7k B = true ∧ q1g bp = true
theorem qc7 {r : Option (List Ent)} {x out : List Ent} : (r.map (x ++ ·)).map (out ++ ·) = r.map ((out ++ x) ++ ·) := by cases r <;> simp
theorem opt_cons {r : Option (List Ent)} {a : Ent} {out : List Ent} : (r.map (a :: ·)).map (out ++ ·) = r.map ((out ++ [a]) ++ ·) := by cases r <;> simp
theorem q8l {l : List Ent} {i : Nat} {a : Ent} (h : l[i]? = some a) : l.drop i = a :: l.drop (i + 1) := by
 have hlt : i < l.length := by
  rcases Nat.lt_or_ge i l.length with h' | h'
  ·exact h'
  ·rw [List.getElem?_eq_none h'] at h; cases h
 rw [List.drop_eq_getElem_cons hlt]
 simp only [List.getElem?_eq_getElem hlt, Option.some.injEq] at h
 rw [h]
structure MgS where
 i : Nat
 j : Nat
 out : List Ent
theorem ev_k65 (A B : List Ent) (ap bp : Pst) (hA : A.length ≤ 100000000) (hB : B.length ≤ 100000000) (wa : wt ap ≤ 40000000) (wb : wt bp ≤ 40000000) (hok : okM A ap B bp) :
 Ev (En Tryz.prog rfl).P 65 [.sl 4 (q0e A), q0h ap, .sl 4 (q0e B), q0h bp] (.ret (.tup [.sl 4 (q0e (qf4 (q7l (q1b bp) (q1b ap) (A.length + B.length) A B))), .int .i64 (errO (q7l (q1b bp) (q1b ap) (A.length + B.length) A B))])) := by
 obtain ⟨o1, o2, o3, o4⟩ := hok
 refine Ev.of_body it_k65 (by simp) (Run.start ?_)
 unfold t_k65 q0h
 have e1 := q0m A
 have e2 := q0m B
 have hS := qq9
 have c1 := qpd A (by omega)
 have c2 := qpc ap wa
 have c3 := qpd B (by omega)
 have c4 := qpc bp wb
 rw [if_pos o1] at c1
 rw [o2] at c2
 rw [if_pos o3] at c3
 rw [o4] at c4
 have hR0 : (q7l (q1b bp) (q1b ap) (A.length + B.length) (A.drop 0) (B.drop 0)).map ([] ++ ·) = q7l (q1b bp) (q1b ap) (A.length + B.length) A B := by
  simp
 generalize q7l (q1b bp) (q1b ap) (A.length + B.length) A B = R at hR0 ⊢
 (have hF := (aI @e1 @e2); refine q01 (k:=?_); clear hF)
 refine q00 [.sl 4 (q0e A)] (he := c1) (k:=?_)
 (have hF := (aI @e1 @e2); refine q01 (k:=?_); clear hF)
 refine q00 [q0h ap] (he := c2) (k:=?_)
 (have hF := (aI @e1 @e2); refine q01 (k:=?_); clear hF)
 refine q00 [.sl 4 (q0e B)] (he := c3) (k:=?_)
 (have hF := (aI @e1 @e2); refine q01 (k:=?_); clear hF)
 refine q00 [q0h bp] (he := c4) (k:=?_)
 (have hF := (aI @e1 @e2); refine q01 (k:=?_); clear hF)
 refine Run.wk (Wk.own_nil 10 84 4 rfl rfl) ?_
 refine Run.while (σ := MgS) (fun z => ⟨tms [(0, .sl 4 (q0e A)), (2, .sl 4 (q0e B)), (5, .ptr 5 0), (7, .ptr 7 0), (10, .os 84 z.out.length), (11, .int .i64 (z.i : Int)), (12, .int .i64 (z.j : Int))], mms [(5, .cells [.sl 1 (q05 ap.vec), .sl 3 (q0c ap.cloud)]), (7, .cells [.sl 1 (q05 bp.vec), .sl 3 (q0c bp.cloud)]), (84, .arr z.out.length 4 (q0e z.out))]⟩)
  (fun z => z.i ≤ A.length ∧ z.j ≤ B.length ∧ z.out.length ≤ z.i + z.j ∧ ∃ n, (A.length - z.i) + (B.length - z.j) ≤ n ∧ (q7l (q1b bp) (q1b ap) n (A.drop z.i) (B.drop z.j)).map (z.out ++ ·) = R) (fun z => (A.length - z.i) + (B.length - z.j)) ⟨0, 0, []⟩ (have hW := @q06; q0f) ⟨Nat.zero_le _, Nat.zero_le _, Nat.le_refl _, _, Nat.le_refl _, hR0⟩ ?_
 rintro ⟨i, j, out⟩ ⟨hi, hj, ho, n, hn, hf⟩
 dsimp only at *
 unfold qsj
 have e3 := q0m out
 by_cases hia : i < A.length
 ·obtain ⟨a, haa⟩ : ∃ a, A[i]? = some a := ⟨A[i], by simp [hia]⟩
  have g1 := q0u haa
  have oa := (qe9.1 o1).1 i a haa
  have k1 := qpe bp a.dot (by omega)
  have hka : q1b bp a = !q1c bp a.dot := rfl
  obtain ⟨n, rfl⟩ : ∃ m, n = m + 1 := ⟨n - 1, by omega⟩
  by_cases hjb : j < B.length
  ·obtain ⟨b, hbb⟩ : ∃ b, B[j]? = some b := ⟨B[j], by simp [hjb]⟩
   have g2 := q0u hbb
   have ob := (qe9.1 o3).1 j b hbb
   have k2 := qpe ap b.dot (by omega)
   have hkb : q1b ap b = !q1c ap b.dot := rfl
   obtain ⟨c, c5, p1, p2⟩ := zjn A B i j a b haa hbb oa ob
   rw [q8l haa, q8l hbb] at hf
   unfold q7l at hf
   rw [← q8l haa, ← q8l hbb] at hf
   (have hF := (aI @e1 @e2); refine q01 (k:=?_); clear hF)
   refine q00 [.sl 4 (q0e A), .int .i64 i, .sl 4 (q0e B), .int .i64 j] (he := c5) (k:=?_)
   by_cases hc1 : c < 0
   ·rw [if_pos (p1.1 hc1), qc7, hka] at hf
    (have hF := (aI (aI @e1 (aI @e2 @e3)) (aI @g1 (aI @g2 @hc1))); refine q01 (k:=?_); clear hF)
    refine q00 [q0h bp, q37 a.dot] (he := k1) (k:=?_)
    cases hh : q1c bp a.dot <;> rw [hh] at hf
    ·(have hF := (aI (aI @e1 @e2) (aI @e3 (aI @g1 @g2))); refine q01 (k:=?_); clear hF)
     (refine Fin.nextW (⟨i + 1, j, out ++ [a]⟩) ?_ (have hW := (aI @q06 @q2b); q0f); (try dsimp only))
     exact ⟨⟨hia, hj, by simp; omega, n, by omega, hf⟩, by omega⟩
    ·(have hF := (aI (aI @e1 @e2) (aI @e3 (aI @g1 @g2))); refine q01 (k:=?_); clear hF)
     (refine Fin.nextW (⟨i + 1, j, out⟩) ?_ (have hW := (aI @q06 @q2b); q0f); (try dsimp only))
     exact ⟨⟨hia, hj, by omega, n, by omega, by simpa [qh9] using hf⟩, by omega⟩
   ·rw [if_neg (fun h => hc1 (p1.2 h))] at hf
    by_cases hc2 : 0 < c
    ·rw [if_pos (p2.1 hc2), qc7, hkb] at hf
     (have hF := (aI (aI @e1 (aI @e2 @e3)) (aI (aI @g1 @g2) (aI @hc1 @hc2))); refine q01 (k:=?_); clear hF)
     refine q00 [q0h ap, q37 b.dot] (he := k2) (k:=?_)
     cases hh : q1c ap b.dot <;> rw [hh] at hf
     ·(have hF := (aI (aI @e1 @e2) (aI @e3 (aI @g1 @g2))); refine q01 (k:=?_); clear hF)
      (refine Fin.nextW (⟨i, j + 1, out ++ [b]⟩) ?_ (have hW := (aI @q06 @q2b); q0f); (try dsimp only))
      exact ⟨⟨hi, hjb, by simp; omega, n, by omega, hf⟩, by omega⟩
     ·(have hF := (aI (aI @e1 @e2) (aI @e3 (aI @g1 @g2))); refine q01 (k:=?_); clear hF)
      (refine Fin.nextW (⟨i, j + 1, out⟩) ?_ (have hW := (aI @q06 @q2b); q0f); (try dsimp only))
      exact ⟨⟨hi, hjb, by omega, n, by omega, by simpa [qh9] using hf⟩, by omega⟩
    ·rw [if_neg (fun h => hc2 (p2.2 h))] at hf
     by_cases he : a = b
     ·subst he
      rw [if_pos ((qi1 a a).2 rfl), opt_cons] at hf
      (have hF := (aI (aI @e1 (aI @e2 @e3)) (aI (aI @g1 @g2) (aI @hc1 @hc2))); refine q01 (k:=?_); clear hF)
      (refine Fin.nextW (⟨i + 1, j + 1, out ++ [a]⟩) ?_ (have hW := (aI @q06 @q2b); q0f); (try dsimp only))
      refine ⟨⟨hia, hjb, by simp; omega, n, by omega, hf⟩, by omega⟩
     ·have he' : eqE a b = false := by
       cases h : eqE a b with
       | true => exact absurd ((qi1 a b).1 h) he
       | false => rfl
      rw [if_neg (by rw [he']; decide)] at hf
      have hRn : R = none := hf.symm
      rw [hRn]
      have hdd : a.dot = b.dot := zly _ _ (by
       cases h : q2y a.dot b.dot with
       | true => exact absurd (p1.2 h) hc1
       | false => rfl) (by
       cases h : q2y b.dot a.dot with
       | true => exact absurd (p2.2 h) hc2
       | false => rfl)
      have r1 : a.rep = b.rep := congrArg Prod.fst hdd
      have r2 : a.num = b.num := congrArg Prod.snd hdd
      by_cases r3 : a.sku = b.sku
      ·have r4 : ¬ a.qty = b.qty := fun h => he (by cases a; cases b; simp at r1 r2 r3 h ⊢; exact ⟨r1, r2, r3, h⟩)
       (have hF := (aI (aI (aI @e1 @e2) (aI @e3 (aI @g1 @g2))) (aI (aI @hc1 (aI @hc2 @r1)) (aI @r2 (aI @r3 @r4)))); refine q01 (k:=?_); clear hF)
       exact Fin.two (x := .nil) (x' := .int .i64 10) rfl rfl rfl rfl (.inr ⟨rfl, 4, rfl⟩) (.inl rfl)
      ·(have hF := (aI (aI (aI @e1 @e2) (aI @e3 (aI @g1 @g2))) (aI (aI @hc1 @hc2) (aI @r1 (aI @r2 @r3)))); refine q01 (k:=?_); clear hF)
       exact Fin.two (x := .nil) (x' := .int .i64 10) rfl rfl rfl rfl (.inr ⟨rfl, 4, rfl⟩) (.inl rfl)
  ·have hj' : j = B.length := by omega
   subst hj'
   rw [q8l haa, List.drop_length] at hf
   unfold q7l at hf
   rw [qc7, hka] at hf
   have c5 := z8l A B i hia
   (have hF := (aI @e1 @e2); refine q01 (k:=?_); clear hF)
   refine q00 [.sl 4 (q0e A), .int .i64 i, .sl 4 (q0e B), .int .i64 B.length] (he := c5) (k:=?_)
   (have hF := (aI (aI @e1 @e2) (aI @e3 @g1)); refine q01 (k:=?_); clear hF)
   refine q00 [q0h bp, q37 a.dot] (he := k1) (k:=?_)
   cases hh : q1c bp a.dot <;> rw [hh] at hf
   ·(have hF := (aI (aI @e1 @e2) (aI @e3 @g1)); refine q01 (k:=?_); clear hF)
    (refine Fin.nextW (⟨i + 1, B.length, out ++ [a]⟩) ?_ (have hW := (aI @q06 @q2b); q0f); (try dsimp only))
    exact ⟨⟨hia, Nat.le_refl _, by simp; omega, n, by omega, by rw [List.drop_length]; exact hf⟩, by omega⟩
   ·(have hF := (aI (aI @e1 @e2) (aI @e3 @g1)); refine q01 (k:=?_); clear hF)
    (refine Fin.nextW (⟨i + 1, B.length, out⟩) ?_ (have hW := (aI @q06 @q2b); q0f); (try dsimp only))
    exact ⟨⟨hia, Nat.le_refl _, by omega, n, by omega, by rw [List.drop_length]; simpa [qh9] using hf⟩, by omega⟩
 ·have hi' : i = A.length := by omega
  subst hi'
  by_cases hjb : j < B.length
  ·obtain ⟨b, hbb⟩ : ∃ b, B[j]? = some b := ⟨B[j], by simp [hjb]⟩
   have g2 := q0u hbb
   have k2 := qpe ap b.dot (by omega)
   have hkb : q1b ap b = !q1c ap b.dot := rfl
   obtain ⟨n, rfl⟩ : ∃ m, n = m + 1 := ⟨n - 1, by omega⟩
   rw [q8l hbb, List.drop_length] at hf
   unfold q7l at hf
   rw [qc7, hkb] at hf
   have c5 := z8m A B j
   (have hF := (aI @e1 @e2); refine q01 (k:=?_); clear hF)
   refine q00 [.sl 4 (q0e A), .int .i64 A.length, .sl 4 (q0e B), .int .i64 j] (he := c5) (k:=?_)
   (have hF := (aI (aI @e1 @e2) (aI @e3 @g2)); refine q01 (k:=?_); clear hF)
   refine q00 [q0h ap, q37 b.dot] (he := k2) (k:=?_)
   cases hh : q1c ap b.dot <;> rw [hh] at hf
   ·(have hF := (aI (aI @e1 @e2) (aI @e3 @g2)); refine q01 (k:=?_); clear hF)
    (refine Fin.nextW (⟨A.length, j + 1, out ++ [b]⟩) ?_ (have hW := (aI @q06 @q2b); q0f); (try dsimp only))
    exact ⟨⟨Nat.le_refl _, hjb, by simp; omega, n, by omega, by rw [List.drop_length]; exact hf⟩, by omega⟩
   ·(have hF := (aI (aI @e1 @e2) (aI @e3 @g2)); refine q01 (k:=?_); clear hF)
    (refine Fin.nextW (⟨A.length, j + 1, out⟩) ?_ (have hW := (aI @q06 @q2b); q0f); (try dsimp only))
    exact ⟨⟨Nat.le_refl _, hjb, by omega, n, by omega, by rw [List.drop_length]; simpa [qh9] using hf⟩, by omega⟩
  ·have hRs : R = some out := by
    rw [List.drop_length, List.drop_eq_nil_of_le (by omega)] at hf
    rw [← hf]
    cases n <;> simp [q7l]
   rw [hRs]
   (have hF := (aI @e1 (aI @e2 @e3)); refine q01 (k:=?_); clear hF)
   exact Fin.two (x := .sl 4 (q0e out)) (by simp [fz, fzc, q5w, upd, tms, mms]) (q06 _) rfl rfl (.inl rfl) (.inl rfl)

open Classical in
noncomputable def leftF (A B : List Ent) (bp : Pst) : List Ent := A.filter fun e => decide (q26 B e.dot) || q1b bp e

open Classical in
noncomputable def mrgP (A : List Ent) (ap : Pst) (B : List Ent) (bp : Pst) : List Ent × Int :=
 if okM A ap B bp then (qf4 (q7l (q1b bp) (q1b ap) (A.length + B.length) A B), errO (q7l (q1b bp) (q1b ap) (A.length + B.length) A B)) else ([], 1)

structure Swt where
 live : List Ent
 past : Pst
 defer : List Rec
structure Fct where
 adds : List Ent
 gone : Pst
 recs : List Rec
theorem qrb (p : Pst) (r : Nat) (n : Int) : inP p r n ↔ q1c p ((r : Int), n) = true := by
 rw [q1s]
 simp
theorem qe4 {p q : Pst} (hp : CanP p) (hq : CanP q) (h : ∀ d, q1c p d = true ↔ q1c q d = true) : p = q :=
 hp.ext hq fun r _ n => by rw [qrb, qrb, h]
theorem q3n {p q : Pst} : q0n p q = true ↔ ∀ d, q1c p d = true → q1c q d = true := by
 constructor
 ·exact fun h d hd => z9a h hd
 ·intro h
  refine q2d.2 fun r _ n hn => ?_
  rw [qrb] at hn ⊢
  exact h _ hn
def q4y (l : List Ent) : Pst := ofP (l.map Ent.dot)
theorem canP_of2 (ds : List Rn) : CanP (ofP ds) := qrv _ (zjw ds).1
theorem z9q {e : Ent} (h : q25 e = 0) : 0 ≤ e.rep ∧ e.rep < 16 ∧ 1 ≤ e.num ∧ e.num ≤ 1000000000 := by
 unfold q25 at h
 split at h
 ·omega
 ·split at h
  ·omega
  ·omega
theorem q44 {l : List Ent} (h : ∀ e ∈ l, q25 e = 0) (d : Rn) : q1c (q4y l) d = true ↔ q26 l d := by
 rw [q1s]
 unfold q4y q26
 constructor
 ·rintro ⟨h0, hd⟩
  have := ((zjx _ (q91 hd) _).1 hd).2.2
  obtain ⟨e, he, hed⟩ := List.mem_map.1 this
  refine ⟨e, he, ?_⟩
  rw [hed]
  have : ((d.1.toNat : Nat) : Int) = d.1 := Int.toNat_of_nonneg h0
  rw [this]
 ·rintro ⟨e, he, rfl⟩
  obtain ⟨h1, h2, h3, h4⟩ := z9q (h e he)
  refine ⟨h1, (zjx _ (show e.dot.1.toNat < 16 by show e.rep.toNat < 16; omega) _).2 ⟨h3, h4, ?_⟩⟩
  have : ((e.dot.1.toNat : Nat) : Int) = e.dot.1 := Int.toNat_of_nonneg h1
  rw [this]
  exact List.mem_map.2 ⟨e, he, rfl⟩
theorem q2a {l : List Ent} (h : q6z l) : ∀ e ∈ l, q25 e = 0 := fun e he => by
 obtain ⟨i, hi⟩ := List.mem_iff_getElem?.1 he
 exact h.1 i e hi
structure FormS (s : Swt) : Prop where
 live : q6z s.live
 past : CanP s.past
 defer : q3y s.defer
 dots : q0n (q4y s.live) s.past = true
 waits : ∀ r ∈ s.defer, q0n r.past s.past = false
 bars : ∀ e ∈ s.live, ¬ q4u s.defer e
def goneP (s : Swt) : Pst := q2t s.past (q4y s.live)
def zlm (A B : List Ent) : Option (List Ent) := q7l (fun _ => true) (fun _ => true) (A.length + B.length) A B
theorem q82 {A B : List Ent} (hA : q6z A) (hB : q6z B) : match zlm A B with | none => Clash A B | some L => ¬ Clash A B ∧ qs1 L ∧ ∀ e, e ∈ L ↔ e ∈ A ∨ e ∈ B := by
 have h := q5d (fun _ => true) (fun _ => true) _ A B (Nat.le_refl _) (q42 hA.2) (q42 hB.2)
 unfold zlm
 generalize q7l (fun _ => true) (fun _ => true) (A.length + B.length) A B = r at h ⊢
 cases r with
 | none => exact h
 | some L =>
  refine ⟨h.1, h.2.1, fun e => ?_⟩
  rw [h.2.2 e]
  unfold InM
  simp
def q4v (a b : Swt) : List Rec := q9i (a.defer ++ b.defer)
def q21 (a b : Swt) : Option (List Ent) := q7l (q1b b.past) (q1b a.past) (a.live.length + b.live.length) a.live b.live
noncomputable def q0o (a b : Swt) : Swt := ⟨q3j (q4v a b) (qf4 (q21 a b)), q1t [a.past, b.past], q17 (q4v a b) (q1t [a.past, b.past])⟩
def qow (adds : List Ent) (gone : Pst) (recs : List Rec) : List Ent := adds.filter fun e => !q1c gone e.dot && decide (q88 recs e = 0)
theorem q5g {a b : Swt} (ha : FormS a) (hb : FormS b) : MSpec (q1b b.past) (q1b a.past) a.live b.live (q21 a b) :=
 q5d _ _ _ a.live b.live (Nat.le_refl _) (q42 ha.live.2) (q42 hb.live.2)
theorem q53 {a b : Swt} (ha : FormS a) (hb : FormS b) : (q21 a b = none ↔ Clash a.live b.live) ∧ (zlm a.live b.live = none ↔ Clash a.live b.live) := by
 have h1 := q5g ha hb
 have h2 := q82 ha.live hb.live
 constructor
 ·cases hm : q21 a b with
  | none => rw [hm] at h1; exact ⟨fun _ => h1, fun _ => rfl⟩
  | some L => rw [hm] at h1; exact ⟨fun h => (by cases h), fun h => absurd h h1.1⟩
 ·cases hm : zlm a.live b.live with
  | none => rw [hm] at h2; exact ⟨fun _ => h2, fun _ => rfl⟩
  | some L => rw [hm] at h2; exact ⟨fun h => (by cases h), fun h => absurd h h2.1⟩
structure FormF (f : Fct) : Prop where
 adds : q6z f.adds
 gone : CanP f.gone
 recs : q3y f.recs
open Classical in
noncomputable def evErr (f : Fct) : Int := if ¬ FormF f then 1 else match f.adds, f.recs with
 | [e], [] => if lastP f.gone e.rep < e.num then 0 else 2
 | [], [] => 0
 | [], [_] => if q3i f.gone = 0 then 0 else 2
 | _, _ => 2
def evS (f : Fct) : Swt := ⟨f.adds, q1t [q4y f.adds, f.gone], f.recs⟩

open Classical in
noncomputable def formS (s : Swt) : Bool := decide (FormS s)
theorem q1z {s : Swt} (h : FormS s) : formS s = true := by classical exact decide_eq_true h
theorem q3l {s : Swt} (h : ¬ FormS s) : formS s = false := by classical exact decide_eq_false h
theorem q45 {s : Swt} : formS s = true ↔ FormS s := by classical exact decide_eq_true_iff
theorem qb6 {α : Type} (p : α → Bool) : ∀ l : List α, (l.filter p).length = l.length ↔ ∀ x ∈ l, p x = true
 | [] => by simp
 | x :: l => by
  have ih := qb6 p l
  have hle := List.length_filter_le p l
  by_cases h : p x = true
  ·rw [List.filter_cons_of_pos h, List.length_cons, List.length_cons, Nat.add_right_cancel_iff, ih]
   simp [h]
  ·rw [List.filter_cons_of_neg h, List.length_cons]
   constructor
   ·intro h'; omega
   ·intro h'; exact absurd (h' x (by simp)) h
theorem qis {l : List Rec} {p : Pst} : (q17 l p).length = l.length ↔ ∀ r ∈ l, q0n r.past p = false := by
 unfold q17
 rw [qb6]
 simp
theorem z78 {l : List Rec} {es : List Ent} : (q3j l es).length = es.length ↔ ∀ e ∈ es, ¬ q4u l e := by
 unfold q3j
 rw [qb6]
 simp only [decide_eq_true_eq, q4h]
theorem qbm {s : Swt} : FormS s ↔ q7k s.live = true ∧ q1g s.past = true ∧ q3m s.defer = true ∧ q0n (q4y s.live) s.past = true ∧ (q17 s.defer s.past).length = s.defer.length ∧ (q3j s.defer s.live).length = s.live.length := by
 rw [qe9, q3k, q7w, qis, z78]
 exact ⟨fun h => ⟨h.live, h.past, h.defer, h.dots, h.waits, h.bars⟩, fun h => ⟨h.1, h.2.1, h.2.2.1, h.2.2.2.1, h.2.2.2.2.1, h.2.2.2.2.2⟩⟩
theorem qca {l : List Ent} (hs : qs1 l) (h : ∀ e ∈ l, q25 e = 0) : q6z l := by
 refine ⟨fun i e he => h e (List.mem_of_getElem? he), fun i a b ha hb => ?_⟩
 unfold qs1 at hs
 rw [List.getElem?_eq_some_iff] at ha hb
 obtain ⟨h1, rfl⟩ := ha
 obtain ⟨h2, rfl⟩ := hb
 exact List.pairwise_iff_getElem.1 hs i (i + 1) h1 h2 (by omega)
theorem zkl {ka kb : Ent → Bool} {A B : List Ent} {e : Ent} (h : InM ka kb A B e) : e ∈ A ∨ e ∈ B := by
 rcases h with h | h
 ·exact .inl h.1
 ·exact .inr h.1
theorem qfp {a b : Swt} (ha : FormS a) (hb : FormS b) {M : List Ent} (hM : q21 a b = some M) : q6z M := by
 have h1 := q5g ha hb
 rw [hM] at h1
 exact qca h1.2.1 fun e he => (zkl ((h1.2.2 e).1 he)).elim (q2a ha.live e) (q2a hb.live e)
theorem qft {a b : Swt} (ha : FormS a) (hb : FormS b) : q3y (q4v a b) := qe6 ha.defer hb.defer
theorem q8h {a b : Swt} (ha : FormS a) (hb : FormS b) {M : List Ent} (hM : q21 a b = some M) : FormS (q0o a b) := by
 have h1 := q5g ha hb
 rw [hM] at h1
 have hMf := qfp ha hb hM
 have hl : (q0o a b).live = q3j (q4v a b) M := by unfold q0o; rw [hM]; rfl
 have he : ∀ e ∈ q3j (q4v a b) M, e ∈ M ∧ ¬ q4u (q4v a b) e := fun e he => by
  unfold q3j at he
  rw [List.mem_filter, decide_eq_true_eq, q4h] at he
  exact he
 refine ⟨?_, q2i _, qbn _ (qft ha hb), ?_, fun r hr => ?_, fun e hem => ?_⟩
 ·rw [hl]
  exact qca (h1.2.1.filter _) fun e hem => q2a hMf e (he e hem).1
 ·rw [hl]
  refine q3n.2 fun d hd => ?_
  rw [q44 fun e hem => q2a hMf e (he e hem).1] at hd
  obtain ⟨e, hem, rfl⟩ := hd
  show q1c (q1t [a.past, b.past]) e.dot = true
  rw [q4m, Bool.or_eq_true]
  exact (zkl ((h1.2.2 e).1 (he e hem).1)).imp (fun h => q3n.1 ha.dots _ ((q44 (q2a ha.live) _).2 ⟨e, h, rfl⟩)) (fun h => q3n.1 hb.dots _ ((q44 (q2a hb.live) _).2 ⟨e, h, rfl⟩))
 ·have : r ∈ q17 (q4v a b) (q1t [a.past, b.past]) := hr
  unfold q17 at this
  rw [List.mem_filter] at this
  show q0n r.past (q1t [a.past, b.past]) = false
  simpa using this.2
 ·rw [hl] at hem
  intro hc
  obtain ⟨r, hr, hcv⟩ := hc
  have : r ∈ q17 (q4v a b) (q1t [a.past, b.past]) := hr
  unfold q17 at this
  rw [List.mem_filter] at this
  exact (he e hem).2 ⟨r, this.1, hcv⟩
open Classical in
noncomputable def q6l (s : Swt) (d : Rn) : Int := if q1c s.past d = true then (if q26 s.live d then 1 else 2) else 0
open Classical in
noncomputable def q7m (a b : Swt) : Int := if FormS a ∧ FormS b then (if Clash a.live b.live then 10 else 0) else 1
def noS : Swt := ⟨[], ⟨[], []⟩, []⟩
open Classical in
noncomputable def q4e (a b : Swt) : Swt := if q7m a b = 0 then q0o a b else noS
theorem qed {a b : Swt} : q7m a b = 0 ↔ FormS a ∧ FormS b ∧ ∃ M, q21 a b = some M := by
 unfold q7m
 constructor
 ·intro h
  split at h
  ·rename_i hf
   split at h
   ·omega
   ·rename_i hc
    refine ⟨hf.1, hf.2, ?_⟩
    cases hm : q21 a b with
    | none => exact absurd ((q53 hf.1 hf.2).1.1 hm) hc
    | some M => exact ⟨M, rfl⟩
  ·omega
 ·rintro ⟨h1, h2, M, hM⟩
  rw [if_pos ⟨h1, h2⟩, if_neg]
  intro hc
  rw [(q53 h1 h2).1.2 hc] at hM
  cases hM
theorem qqk {a b : Swt} (h1 : a.live = b.live) (h2 : a.past = b.past) (h3 : a.defer = b.defer) : a = b := by
 cases a; cases b
 simp only at h1 h2 h3
 rw [h1, h2, h3]
theorem z95 {a b : Swt} {M : List Ent} (hM : q21 a b = some M) : (q0o a b).live = q3j (q4v a b) M := by unfold q0o; rw [hM]; rfl
theorem zm2 {a b : Swt} (ha : FormS a) (hb : FormS b) (e : Ent) : q4u (q4v a b) e ↔ q4u a.defer e ∨ q4u b.defer e := by
 unfold q4u q4v
 have hc := qeu ha.defer hb.defer
 constructor
 ·rintro ⟨r, hr, h⟩
  rw [q4k hc, List.mem_append] at hr
  exact hr.imp (fun x => ⟨r, x, h⟩) (fun x => ⟨r, x, h⟩)
 ·rintro (⟨r, hr, h⟩ | ⟨r, hr, h⟩)
  ·exact ⟨r, (q4k hc r).2 (List.mem_append.2 (.inl hr)), h⟩
  ·exact ⟨r, (q4k hc r).2 (List.mem_append.2 (.inr hr)), h⟩
theorem qa3 {a b : Swt} (ha : FormS a) (hb : FormS b) {M : List Ent} (hM : q21 a b = some M) (e : Ent) : e ∈ (q0o a b).live ↔
 ((e ∈ a.live ∧ (q26 b.live e.dot ∨ q1c b.past e.dot = false) ∧ ¬ q4u b.defer e) ∨ (e ∈ b.live ∧ (q26 a.live e.dot ∨ q1c a.past e.dot = false) ∧ ¬ q4u a.defer e)) ∧ ¬ q4u a.defer e ∧ ¬ q4u b.defer e := by
 have h1 := q5g ha hb
 rw [hM] at h1
 rw [z95 hM]
 unfold q3j
 rw [List.mem_filter, decide_eq_true_eq, q4h, zm2 ha hb, h1.2.2 e]
 unfold InM q1b
 rw [Bool.not_eq_true', Bool.not_eq_true']
 constructor
 ·rintro ⟨h | h, hn⟩
  ·exact ⟨.inl ⟨h.1, h.2, fun h' => hn (.inr h')⟩, fun h' => hn (.inl h'), fun h' => hn (.inr h')⟩
  ·exact ⟨.inr ⟨h.1, h.2, fun h' => hn (.inl h')⟩, fun h' => hn (.inl h'), fun h' => hn (.inr h')⟩
 ·rintro ⟨h | h, hn⟩
  ·exact ⟨.inl ⟨h.1, h.2.1⟩, fun h' => h'.elim hn.1 hn.2⟩
  ·exact ⟨.inr ⟨h.1, h.2.1⟩, fun h' => h'.elim hn.1 hn.2⟩

def q8a (a b : Swt) (d : Rn) : Prop := ∃ e ∈ a.live, e.dot = d ∧ q4u b.defer e
theorem zlz {l : List Ent} (h : q6z l) {e f : Ent} (he : e ∈ l) (hf : f ∈ l) (hd : e.dot = f.dot) : e = f := by
 have hs := q42 h.2
 unfold qs1 at hs
 obtain ⟨i, hi, rfl⟩ := List.getElem_of_mem he
 obtain ⟨j, hj, rfl⟩ := List.getElem_of_mem hf
 rcases Nat.lt_trichotomy i j with h1 | h1 | h1
 ·exact absurd hd (q43 (List.pairwise_iff_getElem.1 hs i j hi hj h1))
 ·subst h1; rfl
 ·exact absurd hd.symm (q43 (List.pairwise_iff_getElem.1 hs j i hj hi h1))
theorem qai {s : Swt} (h : FormS s) {d : Rn} (hd : q26 s.live d) : q1c s.past d = true := q3n.1 h.dots d ((q44 (q2a h.live) d).2 hd)
theorem q7z (s : Swt) (d : Rn) : q6l s d = 0 ↔ q1c s.past d = false := by
 unfold q6l
 cases h : q1c s.past d
 ·simp
 ·simp only [if_true]; split <;> simp
theorem q47 {s : Swt} (h : FormS s) (d : Rn) : q6l s d = 1 ↔ q26 s.live d := by
 unfold q6l
 constructor
 ·intro hf
  split at hf
  ·split at hf
   ·assumption
   ·omega
  ·omega
 ·intro hd
  rw [if_pos (qai h hd), if_pos hd]
theorem q80 (s : Swt) (d : Rn) : q6l s d = 2 ↔ q1c s.past d = true ∧ ¬ q26 s.live d := by
 unfold q6l
 by_cases h : q1c s.past d = true
 ·rw [if_pos h]
  by_cases h2 : q26 s.live d
  ·simp [h, h2]
  ·simp [h, h2]
 ·simp [h]
theorem q51 (s : Swt) (d : Rn) : q6l s d = 0 ∨ q6l s d = 1 ∨ q6l s d = 2 := by
 unfold q6l
 split
 ·split <;> omega
 ·omega
theorem qcc {a b : Swt} (ha : FormS a) (hb : FormS b) {M : List Ent} (hM : q21 a b = some M) (d : Rn) : q26 (q0o a b).live d ↔
 (∃ e, e.dot = d ∧ ¬ q4u a.defer e ∧ ¬ q4u b.defer e ∧ ((e ∈ a.live ∧ (q26 b.live d ∨ q1c b.past d = false)) ∨ (e ∈ b.live ∧ (q26 a.live d ∨ q1c a.past d = false)))) := by
 unfold q26
 constructor
 ·rintro ⟨e, he, rfl⟩
  rw [qa3 ha hb hM] at he
  exact ⟨e, rfl, he.2.1, he.2.2, he.1.imp (fun h => ⟨h.1, h.2.1⟩) (fun h => ⟨h.1, h.2.1⟩)⟩
 ·rintro ⟨e, rfl, h1, h2, h3⟩
  exact ⟨e, (qa3 ha hb hM e).2 ⟨h3.imp (fun h => ⟨h.1, h.2, h2⟩) (fun h => ⟨h.1, h.2, h1⟩), h1, h2⟩, rfl⟩
theorem q9x (a b : Swt) (d : Rn) : q1c (q0o a b).past d = (q1c a.past d || q1c b.past d) := q4m a.past b.past d
theorem qp8 {a b : Swt} (ha : FormS a) (hb : FormS b) {M : List Ent} (hM : q21 a b = some M) (d : Rn) :
 (q6l a d = 0 → q6l b d = 0 → q6l (q0o a b) d = 0) ∧ (q6l a d = 1 → q6l b d = 1 → q6l (q0o a b) d = 1) ∧ (q6l a d = 2 ∨ q6l b d = 2 → q6l (q0o a b) d = 2) ∧
 (q6l a d = 1 → q6l b d = 0 → (q6l (q0o a b) d = 2 ↔ q8a a b d) ∧ (q6l (q0o a b) d = 1 ↔ ¬ q8a a b d)) ∧
 (q6l a d = 0 → q6l b d = 1 → (q6l (q0o a b) d = 2 ↔ q8a b a d) ∧ (q6l (q0o a b) d = 1 ↔ ¬ q8a b a d)) := by
 have hj := q8h ha hb hM
 have hnc : ¬ Clash a.live b.live := by
  have := q5g ha hb
  rw [hM] at this
  exact this.1
 refine ⟨fun h1 h2 => ?_, fun h1 h2 => ?_, fun h => ?_, fun h1 h2 => ?_, fun h1 h2 => ?_⟩
 ·rw [q7z] at *
  rw [q9x, h1, h2]
  rfl
 ·rw [q47 ha] at h1
  rw [q47 hb] at h2
  rw [q47 hj, qcc ha hb hM]
  obtain ⟨e, he, hd⟩ := h1
  obtain ⟨f, hf, hd'⟩ := h2
  have : e = f := Classical.byContradiction fun hne => hnc ⟨e, he, f, hf, by rw [hd, hd'], hne⟩
  subst this
  exact ⟨e, hd, ha.bars e he, hb.bars e hf, .inl ⟨he, .inl ⟨e, hf, hd⟩⟩⟩
 ·rw [q80, q9x, qcc ha hb hM, Bool.or_eq_true]
  rw [q80, q80] at h
  refine ⟨h.imp And.left And.left, ?_⟩
  rintro ⟨e, hd, _, _, h3⟩
  rcases h with ⟨p1, p2⟩ | ⟨p1, p2⟩
  ·rcases h3 with ⟨h4, _⟩ | ⟨_, h5⟩
   ·exact p2 ⟨e, h4, hd⟩
   ·rcases h5 with h5 | h5
    ·exact p2 h5
    ·rw [p1] at h5; cases h5
  ·rcases h3 with ⟨_, h5⟩ | ⟨h4, _⟩
   ·rcases h5 with h5 | h5
    ·exact p2 h5
    ·rw [p1] at h5; cases h5
   ·exact p2 ⟨e, h4, hd⟩
 ·rw [q7z] at h2
  have h1' := (q47 ha d).1 h1
  have hp : q1c (q0o a b).past d = true := by rw [q9x, qai ha h1']; rfl
  have key : q26 (q0o a b).live d ↔ ¬ q8a a b d := by
   rw [qcc ha hb hM]
   constructor
   ·rintro ⟨e, hd, _, hc2, h3⟩ ⟨f, hf, hfd, hcf⟩
    rcases h3 with ⟨h4, _⟩ | ⟨h4, _⟩
    ·have := zlz ha.live h4 hf (by rw [hd, hfd])
     subst this
     exact hc2 hcf
    ·have := qai hb ⟨e, h4, hd⟩
     rw [h2] at this
     cases this
   ·intro hn
    obtain ⟨e, he, hd⟩ := h1'
    exact ⟨e, hd, ha.bars e he, fun hc => hn ⟨e, he, hd, hc⟩, .inl ⟨he, .inr h2⟩⟩
  rw [q80, q47 hj, key]
  exact ⟨⟨fun h => Classical.not_not.1 h.2, fun h => ⟨hp, fun hn => hn h⟩⟩, Iff.rfl⟩
 ·rw [q7z] at h1
  have h2' := (q47 hb d).1 h2
  have hp : q1c (q0o a b).past d = true := by rw [q9x, qai hb h2']; simp
  have key : q26 (q0o a b).live d ↔ ¬ q8a b a d := by
   rw [qcc ha hb hM]
   constructor
   ·rintro ⟨e, hd, hc1, _, h3⟩ ⟨f, hf, hfd, hcf⟩
    rcases h3 with ⟨h4, _⟩ | ⟨h4, _⟩
    ·have := qai ha ⟨e, h4, hd⟩
     rw [h1] at this
     cases this
    ·have := zlz hb.live h4 hf (by rw [hd, hfd])
     subst this
     exact hc1 hcf
   ·intro hn
    obtain ⟨e, he, hd⟩ := h2'
    exact ⟨e, hd, fun hc => hn ⟨e, he, hd, hc⟩, hb.bars e he, .inr ⟨he, .inr h1⟩⟩
  rw [q80, q47 hj, key]
  exact ⟨⟨fun h => Classical.not_not.1 h.2, fun h => ⟨hp, fun hn => hn h⟩⟩, Iff.rfl⟩

def q1u (f : Fct) : Pst := q1t [q4y f.adds, f.gone]
noncomputable def stF (f : Fct) : Swt := ⟨qow f.adds f.gone f.recs, q1u f, q17 f.recs (q1u f)⟩
def q5x (f g : Fct) (L : List Ent) : Fct := ⟨L, q1t [f.gone, g.gone], q9i (f.recs ++ g.recs)⟩
theorem q2x (l : List Ent) (p : Pst) (rs : List Rec) (e : Ent) : e ∈ qow l p rs ↔ e ∈ l ∧ q1c p e.dot = false ∧ ¬ q4u rs e := by
 unfold qow
 rw [List.mem_filter, Bool.and_eq_true, Bool.not_eq_true', decide_eq_true_eq, q4h]
theorem q30 (rs : List Rec) (p : Pst) (r : Rec) : r ∈ q17 rs p ↔ r ∈ rs ∧ q0n r.past p = false := by
 unfold q17
 rw [List.mem_filter]
 simp
theorem q2g {f : Fct} (hf : FormF f) (d : Rn) : q1c (q1u f) d = true ↔ q26 f.adds d ∨ q1c f.gone d = true := by
 unfold q1u
 rw [q4m, Bool.or_eq_true, q44 (q2a hf.adds)]
theorem qt4 {f : Fct} (hf : FormF f) : qs1 (qow f.adds f.gone f.recs) := (q42 hf.adds.2).filter _
theorem qgs {f : Fct} (hf : FormF f) : FormS (stF f) := by
 refine ⟨qca (qt4 hf) fun e he => q2a hf.adds e ((q2x _ _ _ e).1 he).1, q2i _, qbn _ hf.recs, ?_, fun r hr => ((q30 _ _ r).1 hr).2, fun e he hc => ?_⟩
 ·refine q3n.2 fun d hd => ?_
  have hd : q1c (q4y (qow f.adds f.gone f.recs)) d = true := hd
  rw [q44 fun e he => q2a hf.adds e ((q2x _ _ _ e).1 he).1] at hd
  obtain ⟨e, he, rfl⟩ := hd
  exact (q2g hf _).2 (.inl ⟨e, ((q2x _ _ _ e).1 he).1, rfl⟩)
 ·obtain ⟨r, hr, hcv⟩ := hc
  exact ((q2x _ _ _ e).1 he).2.2 ⟨r, ((q30 _ _ r).1 hr).1, hcv⟩
theorem qck {f g : Fct} (hf : FormF f) (hg : FormF g) {L : List Ent} (hL : zlm f.adds g.adds = some L) : FormF (q5x f g L) := by
 have h := q82 hf.adds hg.adds
 rw [hL] at h
 exact ⟨qca h.2.1 fun e he => ((h.2.2 e).1 he).elim (q2a hf.adds e) (q2a hg.adds e), q2i _, qe6 hf.recs hg.recs⟩
theorem cov_ord {a b : List Rec} (ha : q3y a) (hb : q3y b) (e : Ent) : q4u (q9i (a ++ b)) e ↔ q4u a e ∨ q4u b e := by
 unfold q4u
 have hc := qeu ha hb
 constructor
 ·rintro ⟨r, hr, h⟩
  rw [q4k hc, List.mem_append] at hr
  exact hr.imp (fun x => ⟨r, x, h⟩) (fun x => ⟨r, x, h⟩)
 ·rintro (⟨r, hr, h⟩ | ⟨r, hr, h⟩)
  ·exact ⟨r, (q4k hc r).2 (List.mem_append.2 (.inl hr)), h⟩
  ·exact ⟨r, (q4k hc r).2 (List.mem_append.2 (.inr hr)), h⟩
theorem z7r {f : Fct} {e : Ent} (h : ¬ q4u (q17 f.recs (q1u f)) e) (hd : q1c (q1u f) e.dot = false) : ¬ q4u f.recs e := by
 rintro ⟨r, hr, hc⟩
 cases hw : q0n r.past (q1u f) with
 | false => exact h ⟨r, (q30 _ _ r).2 ⟨hr, hw⟩, hc⟩
 | true =>
  have := q3n.1 hw e.dot ((q7c r e).1 hc).2
  rw [hd] at this
  cases this
theorem qqn {f g : Fct} (h : ¬ Clash f.adds g.adds) : ¬ Clash (stF f).live (stF g).live := by
 rintro ⟨a, ha, b, hb, hd, hne⟩
 exact h ⟨a, ((q2x _ _ _ a).1 ha).1, b, ((q2x _ _ _ b).1 hb).1, hd, hne⟩
theorem stF_join {f g : Fct} (hf : FormF f) (hg : FormF g) {L : List Ent} (hL : zlm f.adds g.adds = some L) :
 (∃ M, q21 (stF f) (stF g) = some M) ∧ q0o (stF f) (stF g) = stF (q5x f g L) := by
 have h := q82 hf.adds hg.adds
 rw [hL] at h
 obtain ⟨hnc, hs, hm⟩ := h
 have sf := qgs hf
 have sg := qgs hg
 have hu := qck hf hg hL
 obtain ⟨M, hM⟩ : ∃ M, q21 (stF f) (stF g) = some M := by
  cases hq : q21 (stF f) (stF g) with
  | none => exact absurd ((q53 sf sg).1.1 hq) (qqn hnc)
  | some M => exact ⟨M, rfl⟩
 refine ⟨⟨M, hM⟩, ?_⟩
 have hjf := q8h sf sg hM
 have hsame : ∀ {a b : Ent}, a ∈ f.adds → b ∈ g.adds → a.dot = b.dot → a = b := fun {a b} ha hb hd => Classical.byContradiction fun hne => hnc ⟨a, ha, b, hb, hd, hne⟩
 refine qqk ?_ ?_ ?_
 ·refine qgt (q42 hjf.live.2) (qt4 hu) fun e => ?_
  rw [qa3 sf sg hM]
  show _ ↔ e ∈ qow L (q1t [f.gone, g.gone]) (q9i (f.recs ++ g.recs))
  rw [q2x]
  show _ ↔ e ∈ L ∧ q1c (q1t [f.gone, g.gone]) e.dot = false ∧ ¬ q4u (q9i (f.recs ++ g.recs)) e
  rw [hm e, q4m, Bool.or_eq_false_iff, cov_ord hf.recs hg.recs]
  have lf : e ∈ (stF f).live ↔ e ∈ f.adds ∧ q1c f.gone e.dot = false ∧ ¬ q4u f.recs e := q2x _ _ _ e
  have lg : e ∈ (stF g).live ↔ e ∈ g.adds ∧ q1c g.gone e.dot = false ∧ ¬ q4u g.recs e := q2x _ _ _ e
  have pf : q1c (stF f).past e.dot = false → ¬ q26 f.adds e.dot ∧ q1c f.gone e.dot = false := fun h => by
   have := (q2g hf e.dot)
   rw [show q1c (q1u f) e.dot = false from h] at this
   exact ⟨fun h' => absurd (this.2 (.inl h')) (by simp), by cases hh : q1c f.gone e.dot with | false => rfl | true => exact absurd (this.2 (.inr hh)) (by simp)⟩
  have pg : q1c (stF g).past e.dot = false → ¬ q26 g.adds e.dot ∧ q1c g.gone e.dot = false := fun h => by
   have := (q2g hg e.dot)
   rw [show q1c (q1u g) e.dot = false from h] at this
   exact ⟨fun h' => absurd (this.2 (.inl h')) (by simp), by cases hh : q1c g.gone e.dot with | false => rfl | true => exact absurd (this.2 (.inr hh)) (by simp)⟩
  constructor
  ·rintro ⟨h1 | h1, c1, c2⟩
   ·obtain ⟨a1, a2, a3⟩ := lf.1 h1.1
    rcases h1.2.1 with hd | hd
    ·obtain ⟨x, hx, hxd⟩ := hd
     obtain ⟨b1, b2, b3⟩ := (q2x _ _ _ x).1 hx
     have := hsame a1 b1 hxd.symm
     subst this
     exact ⟨.inl a1, ⟨a2, b2⟩, fun h => h.elim a3 b3⟩
    ·obtain ⟨b1, b2⟩ := pg hd
     exact ⟨.inl a1, ⟨a2, b2⟩, fun h => h.elim a3 (z7r c2 hd)⟩
   ·obtain ⟨a1, a2, a3⟩ := lg.1 h1.1
    rcases h1.2.1 with hd | hd
    ·obtain ⟨x, hx, hxd⟩ := hd
     obtain ⟨b1, b2, b3⟩ := (q2x _ _ _ x).1 hx
     have := hsame b1 a1 hxd
     subst this
     exact ⟨.inr a1, ⟨b2, a2⟩, fun h => h.elim b3 a3⟩
    ·obtain ⟨b1, b2⟩ := pf hd
     exact ⟨.inr a1, ⟨b2, a2⟩, fun h => h.elim (z7r c1 hd) a3⟩
  ·rintro ⟨h1, ⟨g1, g2⟩, hc⟩
   have c1 : ¬ q4u f.recs e := fun h => hc (.inl h)
   have c2 : ¬ q4u g.recs e := fun h => hc (.inr h)
   have w1 : ¬ q4u (stF f).defer e := fun ⟨r, hr, h⟩ => c1 ⟨r, ((q30 _ _ r).1 hr).1, h⟩
   have w2 : ¬ q4u (stF g).defer e := fun ⟨r, hr, h⟩ => c2 ⟨r, ((q30 _ _ r).1 hr).1, h⟩
   refine ⟨?_, w1, w2⟩
   rcases h1 with h1 | h1
   ·refine .inl ⟨lf.2 ⟨h1, g1, c1⟩, ?_, w2⟩
    cases hp : q1c (stF g).past e.dot with
    | false => exact .inr rfl
    | true =>
     rcases (q2g hg e.dot).1 hp with ⟨x, hx, hxd⟩ | h2
     ·have := hsame h1 hx hxd.symm
      subst this
      exact .inl ⟨e, lg.2 ⟨hx, g2, c2⟩, rfl⟩
     ·rw [g2] at h2; cases h2
   ·refine .inr ⟨lg.2 ⟨h1, g2, c2⟩, ?_, w1⟩
    cases hp : q1c (stF f).past e.dot with
    | false => exact .inr rfl
    | true =>
     rcases (q2g hf e.dot).1 hp with ⟨x, hx, hxd⟩ | h2
     ·have := hsame hx h1 hxd
      subst this
      exact .inl ⟨x, lf.2 ⟨hx, g1, c1⟩, rfl⟩
     ·rw [g1] at h2; cases h2
 ·refine qe4 (q2i _) (q2i _) fun d => ?_
  show q1c (q1t [q1u f, q1u g]) d = true ↔ q1c (q1u (q5x f g L)) d = true
  rw [q4m, Bool.or_eq_true, q2g hf, q2g hg, q2g hu]
  show _ ↔ q26 L d ∨ q1c (q1t [f.gone, g.gone]) d = true
  rw [q4m, Bool.or_eq_true]
  have : q26 L d ↔ q26 f.adds d ∨ q26 g.adds d := by
   unfold q26
   constructor
   ·rintro ⟨e, he, hd⟩
    exact ((hm e).1 he).imp (fun h => ⟨e, h, hd⟩) (fun h => ⟨e, h, hd⟩)
   ·rintro (⟨e, he, hd⟩ | ⟨e, he, hd⟩)
    ·exact ⟨e, (hm e).2 (.inl he), hd⟩
    ·exact ⟨e, (hm e).2 (.inr he), hd⟩
  rw [this]
  exact or_or_or_comm
 ·have hp : q1t [q1u f, q1u g] = q1u (q5x f g L) := by
   refine qe4 (q2i _) (q2i _) fun d => ?_
   rw [q4m, Bool.or_eq_true, q2g hf, q2g hg, q2g hu]
   show _ ↔ q26 L d ∨ q1c (q1t [f.gone, g.gone]) d = true
   rw [q4m, Bool.or_eq_true]
   have : q26 L d ↔ q26 f.adds d ∨ q26 g.adds d := by
    unfold q26
    constructor
    ·rintro ⟨e, he, hd⟩
     exact ((hm e).1 he).imp (fun h => ⟨e, h, hd⟩) (fun h => ⟨e, h, hd⟩)
    ·rintro (⟨e, he, hd⟩ | ⟨e, he, hd⟩)
     ·exact ⟨e, (hm e).2 (.inl he), hd⟩
     ·exact ⟨e, (hm e).2 (.inr he), hd⟩
   rw [this]
   exact or_or_or_comm
  refine SrtR.ext (qab hjf.defer) ((qc6 _).filter _) fun r => ?_
  show r ∈ q17 (q9i (q17 f.recs (q1u f) ++ q17 g.recs (q1u g))) (q1t [q1u f, q1u g]) ↔ r ∈ q17 (q9i (f.recs ++ g.recs)) (q1u (q5x f g L))
  rw [hp, q30, q30, q4k (qeu hf.recs hg.recs), q4k (show ∀ y ∈ q17 f.recs (q1u f) ++ q17 g.recs (q1u g), qgi y from qeu sf.defer sg.defer), List.mem_append, List.mem_append, q30, q30]
  have wf : q0n (q1u f) (q1u (q5x f g L)) = true := by rw [← hp]; exact qir _ _
  have wg : q0n (q1u g) (q1u (q5x f g L)) = true := by rw [← hp]; exact qiq _ _
  constructor
  ·rintro ⟨h1, h2⟩
   exact ⟨h1.imp And.left And.left, h2⟩
  ·rintro ⟨h1, h2⟩
   refine ⟨h1.imp (fun h => ⟨h, ?_⟩) (fun h => ⟨h, ?_⟩), h2⟩
   ·cases hw : q0n r.past (q1u f) with
    | false => rfl
    | true => rw [qbf hw wf] at h2; cases h2
   ·cases hw : q0n r.past (q1u g) with
    | false => rfl
    | true => rw [qbf hw wg] at h2; cases h2

def Wkn (x y : AVal) : Prop := ∀ (D : Nat → Nat → Prop) (G : Gh) (B : Nat → Prop) (w : World) (v : Value), VR D G B w x v → VR D G B w y v
theorem Wkn.refl (x : AVal) : Wkn x x := fun _ _ _ _ _ h => h
theorem Wkn.nil (sz : Nat) : Wkn .nil (.sl sz []) := fun D G B w v h => by
 cases h
 exact .slnil sz
def Wkns : List AVal → List AVal → Prop
 | [], [] => True
 | a :: l, b :: m => Wkn a b ∧ Wkns l m
 | _, _ => False
theorem Wkns.len : ∀ {l m : List AVal}, Wkns l m → l.length = m.length
 | [], [], _ => rfl
 | a :: l, b :: m, h => by rw [List.length_cons, List.length_cons, Wkns.len h.2]
 | [], _ :: _, h => h.elim
 | _ :: _, [], h => h.elim
theorem Wkns.get : ∀ {l m : List AVal}, Wkns l m → ∀ (i : Nat) (y : AVal), m[i]? = some y → ∃ x, l[i]? = some x ∧ Wkn x y
 | [], [], _, i, y, h => by simp at h
 | a :: l, b :: m, hw, 0, y, h => by
  simp only [List.getElem?_cons_zero, Option.some.injEq] at h
  subst h
  exact ⟨a, rfl, hw.1⟩
 | a :: l, b :: m, hw, i + 1, y, h => by
  obtain ⟨x, hx, hxy⟩ := Wkns.get hw.2 i y (by simpa using h)
  exact ⟨x, by simpa using hx, hxy⟩
 | [], _ :: _, h, _, _, _ => h.elim
 | _ :: _, [], h, _, _, _ => h.elim
theorem Wkns.refl : ∀ l : List AVal, Wkns l l
 | [] => trivial
 | a :: l => ⟨Wkn.refl a, Wkns.refl l⟩
theorem Wkn.agg {l m : List AVal} (h : Wkns l m) : Wkn (.agg l) (.agg m) := fun D G B w v hv => by
 cases hv with
 | agg cs vs hl hh =>
  refine .agg m vs (by rw [hl, h.len]) fun n x u hx hu => ?_
  obtain ⟨y, hy, hyx⟩ := h.get n x hx
  exact hyx D G B w u (hh n y u hy hu)
theorem Ev.wks {P : Program} {f : FuncId} {l m : List AVal} {out : Out} (he : Ev P f m out) (h : Wkns l m) : Ev P f l out :=
 ⟨he.1, fun B w vs G ho hs hv hb => he.2 B w vs G ho (by rw [hs, h.len]) (fun i y v hy hvv => by
  obtain ⟨x, hx, hxy⟩ := h.get i y hy
  exact hxy _ G B w v (hv i x v hx hvv)) hb⟩

theorem Wkn.sl {sz : Nat} {xs ys : List AVal} (hl : xs.length = ys.length) (hf : Wkns (flat xs) (flat ys)) (h1 : ∀ x ∈ flat ys, x.one = true) (h2 : ∀ x ∈ ys, x.cells.length = sz) : Wkn (.sl sz xs) (.sl sz ys) := fun D G B w v h => by
 cases h with
 | slnil =>
  have : ys = [] := List.length_eq_zero_iff.1 hl.symm
  subst this
  exact .slnil sz
 | slemp _ a cap =>
  have : ys = [] := List.length_eq_zero_iff.1 hl.symm
  subst this
  exact .slemp sz a cap
 | sl _ _ b off cap f hcap hB hone hsz hc hv =>
  have hne : flat ys ≠ [] → flat xs ≠ [] := fun h h' => h (List.length_eq_zero_iff.1 (by rw [← hf.len, h']; rfl))
  have hg := fun n y (hy : (flat ys)[n]? = some y) => hf.get n y hy
  rw [hl]
  refine .sl sz ys b off cap f (by omega) (fun h => hB (hne h)) h1 h2 (fun n y hy => ?_) (fun n y hy => ?_)
  ·obtain ⟨x, hx, _⟩ := hg n y hy
   exact hc n x hx
  ·obtain ⟨x, hx, hxy⟩ := hg n y hy
   exact hxy D G B w _ (hv n x hx)
def sA : ByteArray := ⟨#[65]⟩
def sa : ByteArray := ⟨#[97]⟩
theorem rows0 : (q0k [⟨[], []⟩]).map q10 = [[], [], [], [], [], [], [], [], [], [], [], [], [], [], [], []] := by
 have h : q0k [⟨[], []⟩] = [[], [], [], [], [], [], [], [], [], [], [], [], [], [], [], []] := by decide
 rw [h]
 have n0 : q10 [] = [] := q4s Can.nil
 simp only [List.map_cons, List.map_nil, n0]
theorem kpe_size : q3i ⟨[], []⟩ = 0 := by
 unfold q3i q28
 simp only [qp3, rows0]
 rfl
theorem good_A : q7j sA = true := by decide +kernel

theorem qps : Tryz.prog.cellsOf 9 = 1 := by kernel_rfl
theorem qpt : Tryz.prog.cellsOf 91 = 3 := by kernel_rfl
theorem qpu : Tryz.prog.cellsOf 62 = 4 := by kernel_rfl
theorem z9v : Tryz.prog.cellsOf 27 = 1 := by kernel_rfl
theorem z9x : Tryz.prog.cellsOf 22 = 1 := by kernel_rfl
theorem op_str : Opens Tryz.prog 9 ByteArray (fun _ => True) (fun s => [.str s]) (fun s => s.size + 1) := Opens.string Tryz.underlying9
def okK (r : Rec) : Prop := okP r.past
def cellsK (r : Rec) : List AVal := [.str r.sku, .sl 1 (q05 r.past.vec), .sl 3 (q0c r.past.cloud)]
theorem op_Rec : Opens Tryz.prog 91 Rec okK cellsK wtK :=
 (Opens.struct Tryz.underlying91 qpt (OpensF.cons (k := 1) op_str (fun _ => rfl) qps rfl (OpensF.cons (k := 2) zjr (fun _ => rfl) qbb rfl (OpensF.nil _)))).map
  (fun x => ⟨x.1, x.2.1⟩) (fun x h => h.2.1) (fun _ => rfl) (fun x => by show wt x.2.1 + 1 ≤ x.1.size + 1 + (wt x.2.1 + 0) + 1; omega)
theorem op_recs : Opens Tryz.prog 27 (List Rec) (fun l => ∀ x ∈ l, okK x) (fun l => [.sl 3 (q09 l)]) (wtL wtK) :=
 Opens.slice (mk := q5n) Tryz.underlying27 op_Rec qpt (by decide) (fun _ => rfl) (fun _ => rfl) (fun x y hy => by simp [cellsK] at hy; rcases hy with rfl | rfl | rfl <;> rfl)
def okE (e : Ent) : Prop := True
def cellsE (e : Ent) : List AVal := [.int .i64 e.rep, .int .i64 e.num, .str e.sku, .int .i64 e.qty]
theorem op_Ent : Opens Tryz.prog 62 Ent okE cellsE (fun _ => 1) :=
 (Opens.struct Tryz.underlying62 qpu (OpensF.cons (k := 2) op_Dot (fun _ => rfl) qpv rfl (OpensF.cons (k := 1) op_str (fun _ => rfl) qps rfl (OpensF.cons (k := 1) qdm (fun _ => rfl) q5p rfl (OpensF.nil _))))).map
  (fun x => ⟨x.1.1, x.1.2, x.2.1, x.2.2.1⟩) (fun x h => trivial) (fun _ => rfl) (fun _ => Nat.le_add_left _ _)
theorem op_ents : Opens Tryz.prog 22 (List Ent) (fun l => ∀ x ∈ l, okE x) (fun l => [.sl 4 (q0e l)]) (wtL fun _ => 1) :=
 Opens.slice (mk := q93) Tryz.underlying22 op_Ent qpu (by decide) (fun _ => rfl) (fun _ => rfl) (fun x y hy => by simp [cellsE] at hy; rcases hy with rfl | rfl | rfl | rfl <;> rfl)
structure CasK where
 r : List Rec
 q : List Rec
 a : List Ent
 b : List Ent
 p : Pst
 o : Pst

theorem qay : ∀ (ka kb : Ent → Bool) (n : Nat) (A B : List Ent), (qf4 (q7l ka kb n A B)).length ≤ A.length + B.length
 | ka, kb, 0, A, B => by simp [q7l, qf4]
 | ka, kb, n + 1, [], [] => by simp [q7l, qf4]
 | ka, kb, n + 1, a :: A, [] => by
  have ih := qay ka kb n A []
  unfold q7l
  cases h : q7l ka kb n A [] with
  | none => simp [qf4]
  | some L => rw [h] at ih; simp only [qf4, Option.map_some, List.length_append, List.length_cons, List.length_nil, qh9] at *; split <;> simp at * <;> omega
 | ka, kb, n + 1, [], b :: B => by
  have ih := qay ka kb n [] B
  unfold q7l
  cases h : q7l ka kb n [] B with
  | none => simp [qf4]
  | some L => rw [h] at ih; simp only [qf4, Option.map_some, List.length_append, List.length_cons, List.length_nil, qh9] at *; split <;> simp at * <;> omega
 | ka, kb, n + 1, a :: A, b :: B => by
  unfold q7l
  split
  ·have ih := qay ka kb n A (b :: B)
   cases h : q7l ka kb n A (b :: B) with
   | none => simp [qf4]
   | some L => rw [h] at ih; simp only [qf4, Option.map_some, List.length_append, List.length_cons, qh9] at *; split <;> simp at * <;> omega
  ·split
   ·have ih := qay ka kb n (a :: A) B
    cases h : q7l ka kb n (a :: A) B with
    | none => simp [qf4]
    | some L => rw [h] at ih; simp only [qf4, Option.map_some, List.length_append, List.length_cons, qh9] at *; split <;> simp at * <;> omega
   ·split
    ·have ih := qay ka kb n A B
     cases h : q7l ka kb n A B with
     | none => simp [qf4]
     | some L => rw [h] at ih; simp only [qf4, Option.map_some, List.length_cons] at *; omega
    ·simp [qf4]

theorem ordR_id {l : List Rec} (h : q3y l) : q9i l = l := (qdk (fun r hr => (q4t h r hr).1) (qab h) fun x => Iff.rfl).symm
def zl4 (s : Swt) : Fct := ⟨s.live, goneP s, s.defer⟩
theorem q3c {s : Swt} (h : FormS s) : FormF (zl4 s) := ⟨h.live, qgd _ _, h.defer⟩
theorem q3t {a b : Swt} (h : q7m a b = 0) : q4e a b = q0o a b := if_pos h
theorem q7u {a b : Swt} (h : ¬ q7m a b = 0) : q4e a b = noS := if_neg h
def wtS (s : Swt) : Nat := s.live.length + wt s.past + q6m s.defer
theorem qqd (p : Rec → Bool) (l : List Rec) : q6m (l.filter p) ≤ q6m l := qgo ((List.filter_sublist (p := p) (l := l)).map wtK)
theorem z6z (ka kb : Ent → Bool) {A B : List Ent} : ∀ n, (qf4 (q7l ka kb n A B)).length ≤ A.length + B.length := fun n => qay ka kb n A B
theorem z79 (a b : Swt) : wtS (q0o a b) ≤ 16 + wtS a + wtS b := by
 unfold wtS q0o
 have h1 : (q3j (q4v a b) (qf4 (q21 a b))).length ≤ a.live.length + b.live.length := Nat.le_trans (List.length_filter_le _ _) (z6z _ _ _)
 have h2 := qa6 [a.past, b.past]
 have h3 : q6m (q17 (q4v a b) (q1t [a.past, b.past])) ≤ q6m a.defer + q6m b.defer := by
  refine Nat.le_trans (qqd _ _) (Nat.le_trans (qgj _) ?_)
  rw [qs5]
  exact Nat.le_refl _
 simp only [List.map_cons, List.map_nil, List.sum_cons, List.sum_nil] at h2
 simp only
 omega

def zeh : List SOp := [⟨some 2,.assign (.const (.slice none 0 0)),none⟩]
instance : Live zeh := ⟨[0]⟩
def zeg : List SOp := [⟨some 3,.move (.tmp 0),none⟩,⟨some 4,.binOp .eql 22 (.tmp 3) (.const (.slice none 0 0)) 22,none⟩]
instance : Live zeg := ⟨[0]⟩
def zef : List SOp := [⟨some 2,.assign (.const (.slice none 0 0)),none⟩]
instance : Live zef := ⟨[]⟩
def zee : List SOp := [⟨some 5,.buildSlice 22 0 #[],none⟩,⟨some 6,.move (.tmp 0),none⟩,⟨some 7,.call ⟨.builtin .append,#[.tmp 5,.tmp 6],#[22,22]⟩,none⟩,⟨some 2,.assign (.tmp 7),none⟩]
instance : Live zee := ⟨[0]⟩
def t_k63 : SC :=
 (.seq (.ops false zeh) (.seq (.seq (.ops false zeg) (.cond (.tmp 4) (.seq (.ops false zef) .ret) .skip)) (.seq (.ops false zee) .ret)))
theorem it_k63 : FnIs Tryz.prog 63 8 [.tmp 2] t_k63 := ⟨Tryz.f63, _, Tryz.func63, rfl, rfl, rfl, rfl, by kernel_rfl⟩

def zc4 : List SOp := [⟨some 2,.assign (.const (.slice none 0 0)),none⟩]
instance : Live zc4 := ⟨[0]⟩
def zc3 : List SOp := [⟨some 3,.move (.tmp 0),none⟩,⟨some 4,.binOp .eql 27 (.tmp 3) (.const (.slice none 0 0)) 27,none⟩]
instance : Live zc3 := ⟨[0]⟩
def zc2 : List SOp := [⟨some 2,.assign (.const (.slice none 0 0)),none⟩]
instance : Live zc2 := ⟨[]⟩
def zc1 : List SOp := [⟨some 5,.buildSlice 27 0 #[],none⟩,⟨some 6,.move (.tmp 0),none⟩,⟨some 7,.call ⟨.builtin .append,#[.tmp 5,.tmp 6],#[27,27]⟩,none⟩,⟨some 2,.assign (.tmp 7),none⟩]
instance : Live zc1 := ⟨[0]⟩
def t_k95 : SC :=
 (.seq (.ops false zc4) (.seq (.seq (.ops false zc3) (.cond (.tmp 4) (.seq (.ops false zc2) .ret) .skip)) (.seq (.ops false zc1) .ret)))
theorem it_k95 : FnIs Tryz.prog 95 8 [.tmp 2] t_k95 := ⟨Tryz.f95, _, Tryz.func95, rfl, rfl, rfl, rfl, by kernel_rfl⟩

end Go.Proofs.YthejoeiecenjkaaGreat.Avm
