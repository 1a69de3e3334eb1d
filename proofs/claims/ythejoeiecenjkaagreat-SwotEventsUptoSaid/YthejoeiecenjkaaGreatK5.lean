/- Part 5 of the proof: lemmas. -/
import Derived.Test.YthejoeiecenjkaaGreatK4
import Derived.Test.YthejoeiecenjkaaGreatProg
import Derived.KernelRfl
import Derived.Shelf.SlSortCmp.NoneTotal
set_option maxRecDepth 100000
set_option maxHeartbeats 4000000
set_option linter.unusedVariables false
set_option linter.unusedSimpArgs false
set_option linter.unusedSectionVars false
set_option linter.defProp false
namespace Go.Proofs.YthejoeiecenjkaaGreat.Avm
open Go.Proofs
theorem ev_k101 (e : Ent) : Ev (En Tryz.prog rfl).P 101 [encE e] (.ret (.int .i64 (entErr e))) := by
  refine Ev.of_body it_k101 (by simp) (Run.start ?_)
  unfold t_k101 encE entErr
  have c1 := ev_k137 e.sku
  generalize goodS e.sku = v at c1 ⊢
  by_cases h1 : e.rep < 0 ∨ 16 ≤ e.rep
  · rw [if_pos h1]
    rcases h1 with h1 | h1
    all_goals
      (focus (have hF := True.intro; (repeat' (first | refine go1 (k:=?_) | with_reducible refine Ny.of ?_ ?_ | (refine Hyp.of ?_; intro hc; (try simp only [hc]); (try simp only [Bh] at hc)))); all_goals clear hF))
    all_goals first | exact Fin.tmp' rfl rfl | (exfalso; omega)
  · rw [if_neg h1]
    by_cases h2 : e.num < 1 ∨ 1000000000 < e.num
    · rw [if_pos h2]
      rcases h2 with h2 | h2
      all_goals
        (focus (have hF := True.intro; (repeat' (first | refine go1 (k:=?_) | with_reducible refine Ny.of ?_ ?_ | (refine Hyp.of ?_; intro hc; (try simp only [hc]); (try simp only [Bh] at hc)))); all_goals clear hF))
      all_goals first | exact Fin.tmp' rfl rfl | (exfalso; omega)
    · rw [if_neg h2]
      (focus (have hF := True.intro; (repeat' (first | refine go1 (k:=?_) | with_reducible refine Ny.of ?_ ?_ | (refine Hyp.of ?_; intro hc; (try simp only [hc]); (try simp only [Bh] at hc)))); all_goals clear hF))
      all_goals
        refine stCall [.str e.sku] (he := c1) (k:=?_)
        cases v
        case' false =>
          rw [if_pos rfl]
          (focus (have hF := True.intro; (repeat' (first | refine go1 (k:=?_) | with_reducible refine Ny.of ?_ ?_ | (refine Hyp.of ?_; intro hc; (try simp only [hc]); (try simp only [Bh] at hc)))); all_goals clear hF))
          exact Fin.tmp' rfl rfl
        case' true =>
          rw [if_neg (by decide)]
          by_cases h3 : e.qty < 1 ∨ 1000000 < e.qty
          · rw [if_pos h3]
            rcases h3 with h3 | h3
            all_goals
              (focus (have hF := True.intro; (repeat' (first | refine go1 (k:=?_) | with_reducible refine Ny.of ?_ ?_ | (refine Hyp.of ?_; intro hc; (try simp only [hc]); (try simp only [Bh] at hc)))); all_goals clear hF))
            all_goals first | exact Fin.tmp' rfl rfl | (exfalso; omega)
          · rw [if_neg h3]
            (focus (have hF := True.intro; (repeat' (first | refine go1 (k:=?_) | with_reducible refine Ny.of ?_ ?_ | (refine Hyp.of ?_; intro hc; (try simp only [hc]); (try simp only [Bh] at hc)))); all_goals clear hF))
            all_goals first | exact Fin.tmp' rfl rfl | (exfalso; omega)
theorem ev_k102 (a b : Rn) : Ev (En Tryz.prog rfl).P 102 [encR a, encR b] (.ret (.bool (dotLt a b))) := by
  refine Ev.of_body it_k102 (by simp) (Run.start ?_)
  unfold t_k102 encR dotLt
  by_cases h1 : a.1 < b.1
  · rw [show (decide (a.1 < b.1) || (decide (a.1 = b.1) && decide (a.2 < b.2))) = true by simp [h1]]
    (focus (have hF := True.intro; (repeat' (first | refine go1 (k:=?_) | with_reducible refine Ny.of ?_ ?_ | (refine Hyp.of ?_; intro hc; (try simp only [hc]); (try simp only [Bh] at hc)))); all_goals clear hF))
    exact Fin.tmp' rfl rfl
  · by_cases h2 : a.1 = b.1
    · rw [show (decide (a.1 < b.1) || (decide (a.1 = b.1) && decide (a.2 < b.2))) = decide (a.2 < b.2) by simp [h1, h2]]
      (focus (have hF := True.intro; (repeat' (first | refine go1 (k:=?_) | with_reducible refine Ny.of ?_ ?_ | (refine Hyp.of ?_; intro hc; (try simp only [hc]); (try simp only [Bh] at hc)))); all_goals clear hF))
      exact Fin.tmp' rfl rfl
    · rw [show (decide (a.1 < b.1) || (decide (a.1 = b.1) && decide (a.2 < b.2))) = false by simp [h1, h2]]
      (focus (have hF := True.intro; (repeat' (first | refine go1 (k:=?_) | with_reducible refine Ny.of ?_ ?_ | (refine Hyp.of ?_; intro hc; (try simp only [hc]); (try simp only [Bh] at hc)))); all_goals clear hF))
      exact Fin.tmp' rfl rfl
theorem ev_k111 (d : Rn) : Ev (En Tryz.prog rfl).P 111 [encR d] (.ret (.bool (isDotR d.1 d.2))) := by
  refine Ev.of_body it_k111 (by simp) (Run.start ?_)
  unfold t_k111 encR isDotR
  by_cases h1 : 0 ≤ d.1 <;> by_cases h2 : d.1 < 16 <;> by_cases h3 : 1 ≤ d.2 <;> by_cases h4 : d.2 ≤ 1000000000
  all_goals
    simp only [h1, h2, h3, h4, decide_true, decide_false, Bool.and_true, Bool.and_false, Bool.true_and, Bool.false_and]
    (focus (have hF := True.intro; (repeat' (first | refine go1 (k:=?_) | with_reducible refine Ny.of ?_ ?_ | (refine Hyp.of ?_; intro hc; (try simp only [hc]); (try simp only [Bh] at hc)))); all_goals clear hF))
    all_goals first | exact Fin.tmp' rfl rfl | (exfalso; omega)
theorem formE_step {l : List Ent} {i : Nat} {r : Ent} (hr : l[i]? = some r) (hI : (∀ (j : Nat) q, j < i → l[j]? = some q → entErr q = 0) ∧ ∀ (j : Nat) a b, j + 1 < i → l[j]? = some a → l[j + 1]? = some b → dotLt a.dot b.dot = true) (h0 : entErr r = 0)
    (h1 : ∀ q, 0 < i → l[i - 1]? = some q → dotLt q.dot r.dot = true) : (∀ (j : Nat) q, j < i + 1 → l[j]? = some q → entErr q = 0) ∧ ∀ (j : Nat) a b, j + 1 < i + 1 → l[j]? = some a → l[j + 1]? = some b → dotLt a.dot b.dot = true := by
  refine ⟨fun j q hj hq => ?_, fun j a b hj ha hb => ?_⟩
  · by_cases e : j = i
    · subst e; rw [hr] at hq; cases hq; exact h0
    · exact hI.1 j q (by omega) hq
  · by_cases e : j + 1 = i
    · subst e
      rw [hr] at hb
      cases hb
      exact h1 a (by omega) (by simpa using ha)
    · exact hI.2 j a b (by omega) ha hb
theorem formE_all {l : List Ent} {i : Nat} (hi : l.length ≤ i) (hI : (∀ (j : Nat) q, j < i → l[j]? = some q → entErr q = 0) ∧ ∀ (j : Nat) a b, j + 1 < i → l[j]? = some a → l[j + 1]? = some b → dotLt a.dot b.dot = true) : FormE l :=
  ⟨fun j q hq => hI.1 j q (by
      rcases Nat.lt_or_ge j l.length with h | h
      · omega
      · rw [List.getElem?_eq_none h] at hq; cases hq) hq, fun j a b ha hb => hI.2 j a b (by
      rcases Nat.lt_or_ge (j + 1) l.length with h | h
      · omega
      · rw [List.getElem?_eq_none h] at hb; cases hb) ha hb⟩
theorem ev_k53 (l : List Ent) (hl : l.length ≤ 1000000000) : Ev (En Tryz.prog rfl).P 53 [.sl 4 (encEs l)] (.ret (.int .i64 (if formE l = true then 0 else 1))) := by
  refine Ev.of_body it_k53 (by simp) (Run.start ?_)
  unfold t_k53
  have e1 := encEs_len l
  have hS := stbK
  (focus (have hF := @e1; (repeat' (first | refine go1 (k:=?_) | with_reducible refine Ny.of ?_ ?_ | (refine Hyp.of ?_; intro hc; (try simp only [hc]); (try simp only [Bh] at hc)))); all_goals clear hF))
  refine Run.while (σ := Nat) (fun i => ⟨tms [(0, .sl 4 (encEs l)), (5, .sl 4 (encEs l)), (6, .int .i64 (l.length : Int)), (7, .int .i64 (i : Int))], mms []⟩)
    (fun i => i ≤ l.length ∧ (∀ (j : Nat) q, j < i → l[j]? = some q → entErr q = 0) ∧ ∀ (j : Nat) a b, j + 1 < i → l[j]? = some a → l[j + 1]? = some b → dotLt a.dot b.dot = true) (fun i => l.length - i) 0 (have hW := @encEs_stb; stWk) ⟨Nat.zero_le _, fun j q hj => absurd hj (Nat.not_lt_zero _), fun j a b hj => by omega⟩ ?_
  rintro i ⟨hi, hI⟩
  unfold t_k53_l1
  by_cases hlt : i < l.length
  · obtain ⟨r, hr⟩ : ∃ r, l[i]? = some r := ⟨l[i], by simp [hlt]⟩
    have g1 := encEs_get hr
    have c1 := ev_k101 r
    have hst := fun h0 h1 => formE_step hr hI h0 h1
    have hbad : entErr r ≠ 0 → ¬ FormE l := fun h hf => h (hf.1 i r hr)
    generalize entErr r = v at c1 hst hbad
    (focus (have hF := (And.intro @e1 @g1); (repeat' (first | refine go1 (k:=?_) | with_reducible refine Ny.of ?_ ?_ | (refine Hyp.of ?_; intro hc; (try simp only [hc]); (try simp only [Bh] at hc)))); all_goals clear hF))
    refine stCall [encE r] (he := c1) (k:=?_)
    by_cases hv : v = 0
    · by_cases h0 : i = 0
      · have hst := hst hv (fun q hq => by omega)
        have h0' : (i : Int) = 0 := by omega
        (focus (have hF := (And.intro (And.intro @e1 @g1) (And.intro @hv @h0')); (repeat' (first | refine go1 (k:=?_) | with_reducible refine Ny.of ?_ ?_ | (refine Hyp.of ?_; intro hc; (try simp only [hc]); (try simp only [Bh] at hc)))); all_goals clear hF))
        have hi1 : ((0 : Int) + 1) = ((i + 1 : Nat) : Int) := by omega
        (refine Fin.nextW (i + 1) ?_ (have hW := (And.intro @encEs_stb @hi1); stWk); (try dsimp only))
        exact ⟨⟨hlt, hst⟩, by omega⟩
      · obtain ⟨q, hq⟩ : ∃ q, l[i - 1]? = some q := ⟨l[i - 1]'(by omega), by simp [show i - 1 < l.length by omega]⟩
        have g2 := encEs_get hq
        have hpw : IntKind.i64.wrap ((i : Int) - 1) = ((i - 1 : Nat) : Int) := by rw [wrap_ok (by omega)]; omega
        have c2 := ev_k102 q.dot r.dot
        have hst := hst hv
        have hbad2 : dotLt q.dot r.dot = false → ¬ FormE l := fun h hf => by
          have := hf.2 (i - 1) q r hq (by rw [show i - 1 + 1 = i by omega]; exact hr)
          rw [h] at this
          cases this
        have hst : dotLt q.dot r.dot = true → _ := fun h => hst (fun q' _ hq' => by rw [hq] at hq'; cases hq'; exact h)
        generalize dotLt q.dot r.dot = u at c2 hst hbad2
        (focus (have hF := (And.intro (And.intro @e1 @g1) (And.intro @g2 (And.intro @hv @hpw))); (repeat' (first | refine go1 (k:=?_) | with_reducible refine Ny.of ?_ ?_ | (refine Hyp.of ?_; intro hc; (try simp only [hc]); (try simp only [Bh] at hc)))); all_goals clear hF))
        refine stCall [encR q.dot, encR r.dot] (he := c2) (k:=?_)
        cases u
        · rw [formE_false (hbad2 rfl)]
          (focus (have hF := (And.intro @e1 @g1); (repeat' (first | refine go1 (k:=?_) | with_reducible refine Ny.of ?_ ?_ | (refine Hyp.of ?_; intro hc; (try simp only [hc]); (try simp only [Bh] at hc)))); all_goals clear hF))
          exact Fin.tmp' rfl rfl
        · have hst := hst rfl
          (focus (have hF := (And.intro @e1 @g1); (repeat' (first | refine go1 (k:=?_) | with_reducible refine Ny.of ?_ ?_ | (refine Hyp.of ?_; intro hc; (try simp only [hc]); (try simp only [Bh] at hc)))); all_goals clear hF))
          (refine Fin.nextW (i + 1) ?_ (have hW := @encEs_stb; stWk); (try dsimp only))
          exact ⟨⟨hlt, hst⟩, by omega⟩
    · rw [formE_false (hbad hv)]
      (focus (have hF := (And.intro @e1 (And.intro @g1 @hv)); (repeat' (first | refine go1 (k:=?_) | with_reducible refine Ny.of ?_ ?_ | (refine Hyp.of ?_; intro hc; (try simp only [hc]); (try simp only [Bh] at hc)))); all_goals clear hF))
      exact Fin.tmp' rfl rfl
  · rw [formE_true (formE_all (by omega) hI)]
    (focus (have hF := @e1; (repeat' (first | refine go1 (k:=?_) | with_reducible refine Ny.of ?_ ?_ | (refine Hyp.of ?_; intro hc; (try simp only [hc]); (try simp only [Bh] at hc)))); all_goals clear hF))
    exact Fin.tmp' rfl rfl
theorem entErr_iff (e : Ent) : entErr e = 0 ↔ isDotR e.rep e.num = true ∧ goodS e.sku = true ∧ ¬ e.qty < 1 ∧ ¬ 1000000 < e.qty := by
  rw [isDot_iff]
  unfold entErr
  split
  · constructor
    · intro h; simp at h
    · intro h; omega
  · split
    · constructor
      · intro h; simp at h
      · intro h; omega
    · split
      · rename_i h
        constructor
        · intro h; simp at h
        · intro h'; rw [h] at h'; simp at h'
      · rename_i h
        split
        · constructor
          · intro h; simp at h
          · intro h; omega
        · constructor
          · intro _; exact ⟨by omega, by simpa using h, by omega, by omega⟩
          · intro _; rfl

def r_k62_1 : List SOp := [⟨some 2,.box 26 (.tmp 0),none⟩,⟨some 3,.box 41 (.tmp 1),none⟩,⟨some 4,.assign (.const (.bool false)),none⟩]
instance : Live r_k62_1 := ⟨[0,1]⟩
def r_k62_2 : List SOp := [⟨some 7,.load 41 (.tmp 3),none⟩,⟨some 8,.call ⟨.value (.func 111),#[.tmp 7],#[41]⟩,none⟩,⟨some 9,.unOp .not 4 (.tmp 8),none⟩]
instance : Live r_k62_2 := ⟨[2,3]⟩
def r_k62_3 : List SOp := [⟨some 4,.assign (.const (.bool false)),none⟩]
instance : Live r_k62_3 := ⟨[]⟩
def r_k62_4 : List SOp := [⟨some 10,.fieldAddr 41 (.tmp 3) 0,none⟩,⟨some 11,.load 3 (.tmp 10),none⟩,⟨some 12,.fieldAddr 26 (.tmp 2) 0,none⟩,⟨some 13,.load 23 (.tmp 12),none⟩,⟨some 14,.call ⟨.builtin .len,#[.tmp 13],#[23]⟩,none⟩,⟨some 15,.binOp .lss 3 (.tmp 11) (.tmp 14) 3,none⟩,⟨some 16,.move (.tmp 15),none⟩,⟨some 17,.fieldAddr 41 (.tmp 3) 1,some ((some 16),true)⟩,⟨some 18,.load 3 (.tmp 17),some ((some 16),true)⟩,⟨some 19,.fieldAddr 26 (.tmp 2) 0,some ((some 16),true)⟩,⟨some 20,.load 23 (.tmp 19),some ((some 16),true)⟩,⟨some 21,.fieldAddr 41 (.tmp 3) 0,some ((some 16),true)⟩,⟨some 22,.load 3 (.tmp 21),some ((some 16),true)⟩,⟨some 23,.indexAddr 23 (.tmp 20) (.tmp 22),some ((some 16),true)⟩,⟨some 24,.load 3 (.tmp 23),some ((some 16),true)⟩,⟨some 25,.binOp .leq 3 (.tmp 18) (.tmp 24) 3,some ((some 16),true)⟩,⟨some 26,.pick (.tmp 16) (.tmp 25) (.const (.bool false)),none⟩]
instance : Live r_k62_4 := ⟨[2,3]⟩
def r_k62_5 : List SOp := [⟨some 4,.assign (.const (.bool true)),none⟩]
instance : Live r_k62_5 := ⟨[]⟩
def r_k62_6 : List SOp := [⟨some 5,.assign (.const (.int .i64 0)),none⟩]
instance : Live r_k62_6 := ⟨[2,3]⟩
def r_k62_7 : List SOp := [⟨some 27,.move (.tmp 5),none⟩,⟨some 28,.fieldAddr 26 (.tmp 2) 1,none⟩,⟨some 29,.load 24 (.tmp 28),none⟩,⟨some 30,.call ⟨.builtin .len,#[.tmp 29],#[24]⟩,none⟩,⟨some 31,.binOp .lss 3 (.tmp 27) (.tmp 30) 3,none⟩]
instance : Live r_k62_7 := ⟨[2,3,5]⟩
def r_k62_8 : List SOp := [⟨some 34,.fieldAddr 26 (.tmp 2) 1,none⟩,⟨some 35,.load 24 (.tmp 34),none⟩,⟨some 36,.move (.tmp 5),none⟩,⟨some 37,.indexAddr 24 (.tmp 35) (.tmp 36),none⟩,⟨some 38,.load 127 (.tmp 37),none⟩,⟨some 6,.alloc 127,none⟩,⟨none,.store 127 (.tmp 6) (.tmp 38),none⟩]
instance : Live r_k62_8 := ⟨[2,3,5]⟩
def r_k62_9 : List SOp := [⟨some 39,.fieldAddr 127 (.tmp 6) 0,none⟩,⟨some 40,.load 3 (.tmp 39),none⟩,⟨some 41,.fieldAddr 41 (.tmp 3) 0,none⟩,⟨some 42,.load 3 (.tmp 41),none⟩,⟨some 43,.binOp .eql 3 (.tmp 40) (.tmp 42) 3,none⟩,⟨some 44,.move (.tmp 43),none⟩,⟨some 45,.fieldAddr 127 (.tmp 6) 1,some ((some 44),true)⟩,⟨some 46,.load 3 (.tmp 45),some ((some 44),true)⟩,⟨some 47,.fieldAddr 41 (.tmp 3) 1,some ((some 44),true)⟩,⟨some 48,.load 3 (.tmp 47),some ((some 44),true)⟩,⟨some 49,.binOp .leq 3 (.tmp 46) (.tmp 48) 3,some ((some 44),true)⟩,⟨some 50,.pick (.tmp 44) (.tmp 49) (.const (.bool false)),none⟩,⟨some 51,.move (.tmp 50),none⟩,⟨some 52,.fieldAddr 41 (.tmp 3) 1,some ((some 51),true)⟩,⟨some 53,.load 3 (.tmp 52),some ((some 51),true)⟩,⟨some 54,.fieldAddr 127 (.tmp 6) 2,some ((some 51),true)⟩,⟨some 55,.load 3 (.tmp 54),some ((some 51),true)⟩,⟨some 56,.binOp .leq 3 (.tmp 53) (.tmp 55) 3,some ((some 51),true)⟩,⟨some 57,.pick (.tmp 51) (.tmp 56) (.const (.bool false)),none⟩]
instance : Live r_k62_9 := ⟨[2,3,5,6]⟩
def r_k62_10 : List SOp := [⟨some 4,.assign (.const (.bool true)),none⟩]
instance : Live r_k62_10 := ⟨[]⟩
def r_k62_11 : List SOp := [⟨some 32,.move (.tmp 5),none⟩,⟨some 33,.binOp .add 3 (.tmp 32) (.const (.int .i64 1)) 3,none⟩,⟨some 5,.assign (.tmp 33),none⟩]
instance : Live r_k62_11 := ⟨[2,3,5]⟩
def r_k62_12 : List SOp := [⟨some 4,.assign (.const (.bool false)),none⟩]
instance : Live r_k62_12 := ⟨[]⟩
def t_k62_l1 : SC :=
  (.seq (.seq (.ops false r_k62_7) (.cond (.tmp 31) .skip (.exit 0))) (.seq (.block 1 (.seq (.ops false r_k62_8) (.seq (.ops false r_k62_9) (.cond (.tmp 57) (.seq (.ops false r_k62_10) .ret) .skip)))) (.ops false r_k62_11)))
def t_k62 : SC :=
  (.seq (.ops false r_k62_1) (.seq (.seq (.ops false r_k62_2) (.cond (.tmp 9) (.seq (.ops false r_k62_3) .ret) .skip)) (.seq (.seq (.ops true r_k62_4) (.cond (.tmp 26) (.seq (.ops false r_k62_5) .ret) .skip)) (.seq (.seq (.ops false r_k62_6) (.block 0 (.loop t_k62_l1))) (.seq (.ops false r_k62_12) .ret)))))
theorem it_k62 : FnIs Tryz.prog 62 58 [.tmp 4] t_k62 := ⟨Tryz.f62, _, Tryz.func62, rfl, rfl, rfl, rfl, by kernel_rfl⟩




theorem any_take {α : Type} {l : List α} {f : α → Bool} (i : Nat) (h : ∀ x ∈ l.take i, f x = false) (hi : l.length ≤ i) : l.any f = false := by
  rw [List.any_eq_false]
  intro x hx
  rw [List.take_of_length_le hi] at h
  simp [h x hx]
theorem take_snoc_all {α : Type} {l : List α} {q : α → Prop} {i : Nat} {x : α} (hx : l[i]? = some x) (h : ∀ y ∈ l.take i, q y) (hq : q x) : ∀ y ∈ l.take (i + 1), q y := by
  intro y hy
  rw [List.take_add_one, hx] at hy
  rcases List.mem_append.1 hy with hy | hy
  · exact h y hy
  · simp at hy; subst hy; exact hq
theorem ev_k62 (p : Pst) (d : Rn) (hw : wt p ≤ 900000000) : Ev (En Tryz.prog rfl).P 62 [encP p, encR d] (.ret (.bool (hasP p d))) := by
  refine Ev.of_body it_k62 (by simp) (Run.start ?_)
  have hwt : wt p = p.vec.length + p.cloud.length := rfl
  have e0 : (encIs p.vec).length = p.vec.length := encIs_len _
  have e9 : (encSs p.cloud).length = p.cloud.length := encSs_len _
  unfold t_k62 encP encR
  have c1 := ev_k111 d
  generalize hv : hasP p d = v
  unfold hasP at hv
  (focus (have hF := (And.intro @e0 @e9); (repeat' (first | refine go1 (k:=?_) | with_reducible refine Ny.of ?_ ?_ | (refine Hyp.of ?_; intro hc; (try simp only [hc]); (try simp only [Bh] at hc)))); all_goals clear hF))
  refine stCall [encR d] (he := c1) (k:=?_)
  cases c0 : isDotR d.1 d.2
  · rw [c0, Bool.false_and] at hv
    subst hv
    (focus (have hF := (And.intro @e0 @e9); (repeat' (first | refine go1 (k:=?_) | with_reducible refine Ny.of ?_ ?_ | (refine Hyp.of ?_; intro hc; (try simp only [hc]); (try simp only [Bh] at hc)))); all_goals clear hF))
    exact Fin.tmp' rfl rfl
  · have hd : 0 ≤ d.1 ∧ d.1 < 16 := by simp [isDotR] at c0; omega
    rw [c0, Bool.true_and] at hv
    obtain ⟨r, hr⟩ : ∃ r : Nat, d.1 = r := ⟨d.1.toNat, by omega⟩
    cases c2 : (decide (d.1 < p.vec.length) && decide (d.2 ≤ vecAt p.vec d.1.toNat))
    case' true =>
      rw [c2, Bool.true_or] at hv
      subst hv
      simp only [Bool.and_eq_true, decide_eq_true_eq] at c2
      have hrl : r < p.vec.length := by omega
      have e1 : (encIs p.vec)[r]? = some (.int .i64 (vecAt p.vec r)) := encIs_get (by simp [vecAt, hrl])
      have c3 := c2.2
      rw [hr, Int.toNat_natCast] at c3
      rw [hr]
      (focus (have hF := (And.intro (And.intro @e0 @e9) (And.intro @e1 (And.intro @hrl @c3))); (repeat' (first | refine go1 (k:=?_) | with_reducible refine Ny.of ?_ ?_ | (refine Hyp.of ?_; intro hc; (try simp only [hc]); (try simp only [Bh] at hc)))); all_goals clear hF))
      exact Fin.tmp' rfl rfl
    case' false =>
      rw [c2, Bool.false_or] at hv
      rw [hr] at c2 ⊢
      rw [Int.toNat_natCast] at c2
      by_cases h1 : (r : Int) < (p.vec.length : Int)
      case' pos =>
        have hrl : r < p.vec.length := by omega
        have e1 : (encIs p.vec)[r]? = some (.int .i64 (vecAt p.vec r)) := encIs_get (by simp [vecAt, hrl])
        have c3 : ¬ d.2 ≤ vecAt p.vec r := by simpa [h1] using c2
        (focus (have hF := (And.intro (And.intro @e0 @e9) (And.intro @e1 (And.intro @h1 @c3))); (repeat' (first | refine go1 (k:=?_) | with_reducible refine Ny.of ?_ ?_ | (refine Hyp.of ?_; intro hc; (try simp only [hc]); (try simp only [Bh] at hc)))); all_goals clear hF))
      case' neg =>
        (focus (have hF := (And.intro @e0 (And.intro @e9 @h1)); (repeat' (first | refine go1 (k:=?_) | with_reducible refine Ny.of ?_ ?_ | (refine Hyp.of ?_; intro hc; (try simp only [hc]); (try simp only [Bh] at hc)))); all_goals clear hF))
      all_goals
        refine Run.while (σ := Nat) (fun i => ⟨tms [(2, .ptr 2 0), (3, .ptr 3 0), (5, .int .i64 (i : Int))], mms [(2, .cells [.sl 1 (encIs p.vec), .sl 3 (encSs p.cloud)]), (3, .cells [.int .i64 r, .int .i64 d.2])]⟩)
          (fun i => i ≤ p.cloud.length ∧ ∀ s ∈ p.cloud.take i, inSn d s = false) (fun i => p.cloud.length - i) 0 (have hW := True.intro; stWk) ⟨Nat.zero_le _, by simp⟩ ?_
        rintro i ⟨hi, hI⟩
        unfold t_k62_l1
        by_cases hlt : i < p.cloud.length
        · obtain ⟨s, hs⟩ : ∃ s, p.cloud[i]? = some s := ⟨p.cloud[i], by simp [hlt]⟩
          have g1 : (encSs p.cloud)[i]? = some (.agg [.int .i64 s.1, .int .i64 s.2.1, .int .i64 s.2.2]) := encSs_get hs
          by_cases k1 : s.1 = r
          · by_cases k2 : s.2.1 ≤ d.2
            · by_cases k3 : d.2 ≤ s.2.2
              · have hu : v = true := by
                  rw [← hv, List.any_eq_true]
                  exact ⟨s, List.mem_of_getElem? hs, by simp [inSn, hr, k1, k2, k3]⟩
                rw [hu]
                (focus (have hF := (And.intro (And.intro @e0 (And.intro @e9 @g1)) (And.intro @k1 (And.intro @k2 @k3))); (repeat' (first | refine go1 (k:=?_) | with_reducible refine Ny.of ?_ ?_ | (refine Hyp.of ?_; intro hc; (try simp only [hc]); (try simp only [Bh] at hc)))); all_goals clear hF))
                exact Fin.tmp' rfl rfl
              · (focus (have hF := (And.intro (And.intro @e0 (And.intro @e9 @g1)) (And.intro @k1 (And.intro @k2 @k3))); (repeat' (first | refine go1 (k:=?_) | with_reducible refine Ny.of ?_ ?_ | (refine Hyp.of ?_; intro hc; (try simp only [hc]); (try simp only [Bh] at hc)))); all_goals clear hF))
                (refine Fin.nextW (i + 1) ?_ (have hW := True.intro; stWk); (try dsimp only))
                exact ⟨⟨hlt, take_snoc_all hs hI (by simp [inSn, hr, k1, k2, k3])⟩, by omega⟩
            · (focus (have hF := (And.intro (And.intro @e0 @e9) (And.intro @g1 (And.intro @k1 @k2))); (repeat' (first | refine go1 (k:=?_) | with_reducible refine Ny.of ?_ ?_ | (refine Hyp.of ?_; intro hc; (try simp only [hc]); (try simp only [Bh] at hc)))); all_goals clear hF))
              (refine Fin.nextW (i + 1) ?_ (have hW := True.intro; stWk); (try dsimp only))
              exact ⟨⟨hlt, take_snoc_all hs hI (by simp [inSn, hr, k1, k2])⟩, by omega⟩
          · (focus (have hF := (And.intro (And.intro @e0 @e9) (And.intro @g1 @k1)); (repeat' (first | refine go1 (k:=?_) | with_reducible refine Ny.of ?_ ?_ | (refine Hyp.of ?_; intro hc; (try simp only [hc]); (try simp only [Bh] at hc)))); all_goals clear hF))
            (refine Fin.nextW (i + 1) ?_ (have hW := True.intro; stWk); (try dsimp only))
            exact ⟨⟨hlt, take_snoc_all hs hI (by simp [inSn, hr, k1])⟩, by omega⟩
        · have hu : v = false := by
            rw [← hv]
            exact any_take i hI (by omega)
          rw [hu]
          (focus (have hF := (And.intro @e0 @e9); (repeat' (first | refine go1 (k:=?_) | with_reducible refine Ny.of ?_ ?_ | (refine Hyp.of ?_; intro hc; (try simp only [hc]); (try simp only [Bh] at hc)))); all_goals clear hF))
          exact Fin.tmp' rfl rfl
def covK (r : Rec) (e : Ent) : Bool := (decide (r.sku.size = 0) || decide (r.sku = e.sku)) && hasP r.past e.dot
def barsK (l : List Rec) (e : Ent) : Nat := (l.filter fun r => covK r e).length
theorem barsK_take {l : List Rec} {i : Nat} {r : Rec} (h : l[i]? = some r) (e : Ent) : barsK (l.take (i + 1)) e = barsK (l.take i) e + if covK r e = true then 1 else 0 := by
  unfold barsK
  rw [List.take_add_one, h, List.filter_append]
  cases hc : covK r e <;> simp [hc]


def sameSku (s : ByteArray) (r : Rec) : Bool := decide (r.sku = s)
def headG (l : List Rec) : List Rec := match l with | [] => [] | r :: t => l.takeWhile (sameSku r.sku)
def joinG (l : List Rec) : Pst := joinP ((headG l).map (·.past))
def newG (all : Pst) (s : ByteArray) (p : Pst) : Pst := if s.size = 0 then p else minusP p all
def allG (all : Pst) (s : ByteArray) (p : Pst) : Pst := if s.size = 0 then p else all
def outG (s : ByteArray) (p : Pst) : List Rec := if sizeP p = 0 then [] else [⟨s, p⟩]
def foldF : Nat → List Rec → Pst → List Rec
  | 0, _, _ => []
  | n + 1, [], _ => []
  | n + 1, r :: l, all => outG r.sku (newG all r.sku (joinG (r :: l))) ++ foldF n ((r :: l).dropWhile (sameSku r.sku)) (allG all r.sku (joinG (r :: l)))
def headN : List Rec → List Rec
  | [] => []
  | r :: l => if r.sku.size = 0 then ⟨r.sku, normP r.past⟩ :: l else r :: l
def foldK (l : List Rec) : List Rec := headN (foldF l.length l ⟨[], []⟩)
theorem takeWhile_take {α : Type} {p : α → Bool} : ∀ {l : List α} {m : Nat}, (∀ x ∈ l.take m, p x = true) → (∀ x, l[m]? = some x → p x = false) → l.takeWhile p = l.take m ∧ l.dropWhile p = l.drop m
  | [], m, _, _ => by simp
  | x :: l, 0, _, h => by
    have := h x rfl
    simp [List.takeWhile, List.dropWhile, this]
  | x :: l, m + 1, h, h' => by
    have hx : p x = true := h x (by simp)
    have ih := takeWhile_take (l := l) (m := m) (fun y hy => h y (by simp [hy])) (fun y hy => h' y (by simpa using hy))
    simp [List.takeWhile, List.dropWhile, hx, ih]
structure FoS where
  i : Nat
  all : Pst
  out : List Rec

theorem inP_lt {p : Pst} {r : Nat} {n : Int} (h : inP p r n) : r < 16 := h.1
theorem has_join (p q : Pst) (d : Rn) : hasP (joinP [p, q]) d = (hasP p d || hasP q d) := bool_eq (by
  rw [Bool.or_eq_true, hasP_iff, hasP_iff, hasP_iff]
  constructor
  · intro h
    have := (joinP_in [p, q] (inP_lt h.2) _).1 h.2
    simp only [List.mem_cons, List.not_mem_nil, or_false, exists_eq_or_imp, exists_eq_left] at this
    exact this.imp (fun x => ⟨h.1, x⟩) (fun x => ⟨h.1, x⟩)
  · rintro (h | h)
    · exact ⟨h.1, (joinP_in _ (inP_lt h.2) _).2 ⟨p, by simp, h.2⟩⟩
    · exact ⟨h.1, (joinP_in _ (inP_lt h.2) _).2 ⟨q, by simp, h.2⟩⟩)
theorem hasP_false {p : Pst} {d : Rn} : (!hasP p d) = true ↔ ¬ (0 ≤ d.1 ∧ inP p d.1.toNat d.2) := by
  rw [← hasP_iff]
  cases hasP p d <;> simp
theorem has_minus (p q : Pst) (d : Rn) : hasP (minusP p q) d = (hasP p d && !hasP q d) := bool_eq (by
  rw [Bool.and_eq_true, hasP_iff, hasP_iff, hasP_false]
  constructor
  · intro h
    have := (minusP_in p q (inP_lt h.2) _).1 h.2
    exact ⟨⟨h.1, this.1⟩, fun h' => this.2 h'.2⟩
  · rintro ⟨h, h'⟩
    exact ⟨h.1, (minusP_in p q (inP_lt h.2) _).2 ⟨h.2, fun x => h' ⟨h.1, x⟩⟩⟩)
theorem has_last {p : Pst} {d : Rn} (h : hasP p d = true) : d.2 ≤ lastP p d.1 := by
  have h' := hasP_iff p d |>.1 h
  have := (lastP_top p (inP_lt h'.2)).2 _ h'.2
  rwa [Int.toNat_of_nonneg h'.1] at this
theorem has_within {p q : Pst} {d : Rn} (hw : withinP p q = true) (h : hasP p d = true) : hasP q d = true := by
  have h' := (hasP_iff p d).1 h
  exact (hasP_iff q d).2 ⟨h'.1, withinP_iff.1 hw _ (inP_lt h'.2) _ h'.2⟩
theorem has_size {p : Pst} {d : Rn} (h : hasP p d = true) : 1 ≤ sizeP p := by
  have h' := (hasP_iff p d).1 h
  rw [sizeP_card]
  have := cardT_pos h'.2.2.1 h'.2.2.2.1 h'.2 (inP_lt h'.2)
  omega

def SrtK (l : List Rec) : Prop := ∀ (i : Nat) a b, l[i]? = some a → l[i + 1]? = some b → cmpR a b < 0
theorem SrtK.tail {t l : List Rec} (h : SrtK (t ++ l)) : SrtK l := fun i a b ha hb =>
  h (t.length + i) a b (by rw [List.getElem?_append_right (by omega)]; simpa using ha) (by rw [List.getElem?_append_right (by omega)]; rw [show t.length + i + 1 - t.length = i + 1 by omega]; exact hb)
theorem bs_len (s : ByteArray) : (bs s).length = s.size := by simp [bs]
theorem has_nil (d : Rn) : hasP ⟨[], []⟩ d = false := by
  unfold hasP
  simp
  intro h h1
  simp [isDotR] at h
  omega
def CovL (l : List Rec) (e : Ent) : Prop := ∃ r ∈ l, covK r e = true
theorem covK_iff (r : Rec) (e : Ent) : covK r e = true ↔ (r.sku.size = 0 ∨ r.sku = e.sku) ∧ hasP r.past e.dot = true := by
  unfold covK
  simp [Bool.and_eq_true, Bool.or_eq_true]


def leftE (l : List Rec) (es : List Ent) : List Ent := es.filter fun e => decide (barsK l e = 0)









theorem sameP_self (p : Pst) : sameP p p = true := sameP_true ⟨rfl, rfl⟩

section
open Go.Shelf Go.RowKit Go.Lib Go.Sort
section
variable {P : Program} {ρ : Ren} {τ : Type}
end
end
section
open Go.Proofs Go.Shelf Go.RowKit Go.Lib Go.Sort
end

section
open Go.Proofs Go.Shelf Go.RowKit Go.Lib Go.Sort
def WkQ (n : Nat) (Q : Ex → AS → Prop) : Ex → AS → Prop
  | .pan x, s => Q (.pan x) s
  | e, s => ∃ s2, Wk n s s2 ∧ Q e s2
theorem AW.wkEnd {E : Env} {n : Nat} {Q : Ex → AS → Prop} {s : AS} {x : SC} (h : AW E n x (WkQ n Q) s) : AW E n x Q s := fun c hc B G a w hR Q' hP =>
  h c hc B G a w hR Q' fun e s1 a' w' G' hA hR' hq => by
    cases e with
    | pan x => exact hP (.pan x) s1 a' w' G' hA hR' hq
    | normal => obtain ⟨s2, hw, hq2⟩ := hq; obtain ⟨G2, h2, a2⟩ := hw B G' a' w' hR'; exact hP .normal s2 a' w' G2 (hA.trans a2) h2 hq2
    | ret => obtain ⟨s2, hw, hq2⟩ := hq; obtain ⟨G2, h2, a2⟩ := hw B G' a' w' hR'; exact hP .ret s2 a' w' G2 (hA.trans a2) h2 hq2
    | exit id => obtain ⟨s2, hw, hq2⟩ := hq; obtain ⟨G2, h2, a2⟩ := hw B G' a' w' hR'; exact hP (.exit id) s2 a' w' G2 (hA.trans a2) h2 hq2
end
def skuOk (r : Rec) : Bool := decide (r.sku.size = 0) || goodS r.sku

structure MrS where
  i : Nat
  j : Nat
  out : List Rec




theorem skuOk_of {r : Rec} (h : recErr r = 0) : skuOk r = true := by
  unfold recErr at h
  unfold skuOk
  split at h
  · omega
  · rename_i h1
    by_cases h2 : r.sku.size = 0
    · simp [h2]
    · by_cases h3 : goodS r.sku = true
      · simp [h3]
      · exact absurd ⟨h2, by simpa using h3⟩ h1
theorem canR_of {r : Rec} (h : recErr r = 0) : CanR r ∧ sizeP r.past ≠ 0 := by
  unfold recErr at h
  split at h
  · omega
  · split at h
    · omega
    · rename_i h1
      simp only [not_or] at h1
      exact ⟨isNormP_iff.1 (by simpa using h1.1), h1.2⟩
theorem formK_can {l : List Rec} (h : FormK l) : ∀ r ∈ l, CanR r ∧ sizeP r.past ≠ 0 ∧ skuOk r = true := by
  intro r hr
  obtain ⟨i, hi⟩ := List.mem_iff_getElem?.1 hr
  have := h.1 i r hi
  exact ⟨(canR_of this).1, (canR_of this).2, skuOk_of this⟩


noncomputable def waitsL (l : List Rec) (p : Pst) : List Rec := l.filter fun r => !withinP r.past p
theorem waitsL_take {l : List Rec} {p : Pst} {i : Nat} {r : Rec} (h : l[i]? = some r) : waitsL (l.take (i + 1)) p = waitsL (l.take i) p ++ if withinP r.past p = true then [] else [r] := by
  unfold waitsL
  rw [List.take_add_one, h, List.filter_append]
  by_cases hw : withinP r.past p = true
  · simp [hw]
  · simp [hw]
theorem waitsL_len (l : List Rec) (p : Pst) : (waitsL l p).length ≤ l.length := List.length_filter_le _ _

def ltS (a b : Rec) : Prop := cmpB a.sku b.sku < 0
theorem headN_can {m : List Rec} (h : ∀ r ∈ m, CanP r.past) : headN m = m := by
  cases m with
  | nil => rfl
  | cons r m =>
    show (if r.sku.size = 0 then (⟨r.sku, normP r.past⟩ : Rec) :: m else r :: m) = r :: m
    split
    · have : normP r.past = r.past := h r (by simp)
      rw [this]
    · rfl
structure Folded (L K : List Rec) : Prop where
  from_ : ∀ r ∈ K, ∃ q ∈ L, q.sku = r.sku
  can : ∀ r ∈ K, CanP r.past
  size : ∀ r ∈ K, sizeP r.past ≠ 0
  lt : K.Pairwise ltS
  apart : ∀ a ∈ K, ∀ b ∈ K, a.sku.size = 0 → b.sku.size ≠ 0 → ∀ d, hasP b.past d = true → hasP a.past d = false
theorem Folded.one {L K : List Rec} (h : Folded L K) (e : Ent) : barsK K e ≤ 1 := by
  unfold barsK
  have hp : (K.filter fun r => covK r e).Pairwise ltS := h.lt.filter _
  have hm : ∀ r ∈ K.filter (fun r => covK r e), r ∈ K ∧ covK r e = true := fun r hr => List.mem_filter.1 hr
  generalize K.filter (fun r => covK r e) = F at hp hm
  match F, hp, hm with
  | [], _, _ => exact Nat.zero_le _
  | [a], _, _ => exact Nat.le_refl _
  | a :: b :: F, hp, hm =>
    exfalso
    obtain ⟨ha, hac⟩ := hm a (by simp)
    obtain ⟨hb, hbc⟩ := hm b (by simp)
    have hab : ltS a b := (List.pairwise_cons.1 hp).1 b (by simp)
    have hne : a.sku ≠ b.sku := fun he => by
      unfold ltS at hab
      rw [he, cmpB_zero.2 rfl] at hab
      omega
    obtain ⟨h1, h2⟩ := (covK_iff a e).1 hac
    obtain ⟨h3, h4⟩ := (covK_iff b e).1 hbc
    by_cases ha0 : a.sku.size = 0
    · by_cases hb0 : b.sku.size = 0
      · exact hne (by rw [size_zero.2 ha0, size_zero.2 hb0])
      · have := h.apart a ha b hb ha0 hb0 e.dot h4
        rw [h2] at this; cases this
    · by_cases hb0 : b.sku.size = 0
      · have := h.apart b hb a ha hb0 ha0 e.dot h2
        rw [h4] at this; cases this
      · exact hne ((h1.resolve_left ha0).trans (h3.resolve_left hb0).symm)

theorem lt_ne {a b : ByteArray} (h : cmpB a b < 0) : b.size ≠ 0 := by
  intro hb
  have h1 : bs b = [] := by
    have := bs_len b
    rw [hb] at this
    exact List.length_eq_zero_iff.1 this
  unfold cmpB at h
  rw [h1] at h
  cases h3 : bs a with
  | nil => rw [h3] at h; simp [lexI] at h
  | cons x l => rw [h3] at h; simp [lexI] at h
theorem group_one {r : Rec} {K : List Rec} (hp : (r :: K).Pairwise ltS) (hc : CanP r.past) : joinG (r :: K) = r.past ∧ (r :: K).dropWhile (sameSku r.sku) = K := by
  have h := takeWhile_take (p := sameSku r.sku) (l := r :: K) (m := 1) (fun x hx => by simp at hx; subst hx; simp [sameSku]) (fun x hx => by
    have hm : x ∈ K := List.mem_of_getElem? (by simpa using hx)
    have := (List.pairwise_cons.1 hp).1 x hm
    refine decide_eq_false fun he => ?_
    unfold ltS at this
    rw [he, cmpB_zero.2 rfl] at this
    omega)
  refine ⟨?_, by rw [h.2]; rfl⟩
  unfold joinG headG
  simp only
  rw [h.1]
  exact hc
theorem minus_apart {p all : Pst} (hc : CanP p) (h : ∀ d, hasP p d = true → hasP all d = false) : minusP p all = p := by
  refine (canP_minus _ _).ext hc fun r hr n => ?_
  rw [minusP_in _ _ hr]
  constructor
  · exact fun h => h.1
  · intro hi
    refine ⟨hi, fun ha => ?_⟩
    have h1 : hasP p ((r : Int), n) = true := (hasP_iff p _).2 ⟨by show (0 : Int) ≤ (r : Int); omega, by simpa using hi⟩
    have h2 : hasP all ((r : Int), n) = true := (hasP_iff all _).2 ⟨by show (0 : Int) ≤ (r : Int); omega, by simpa using ha⟩
    rw [h _ h1] at h2
    cases h2
theorem foldF_rest : ∀ (n : Nat) (K : List Rec) (all : Pst), K.length ≤ n → K.Pairwise ltS → (∀ r ∈ K, r.sku.size ≠ 0 ∧ CanP r.past ∧ sizeP r.past ≠ 0 ∧ ∀ d, hasP r.past d = true → hasP all d = false) → foldF n K all = K
  | 0, K, all, h, _, _ => by
    have : K = [] := List.length_eq_zero_iff.1 (by omega)
    subst this
    rfl
  | n + 1, [], all, _, _, _ => rfl
  | n + 1, r :: K, all, h, hp, hk => by
    obtain ⟨h1, h2, h3, h4⟩ := hk r (by simp)
    obtain ⟨g1, g2⟩ := group_one hp h2
    have ih := foldF_rest n K all (by simp at h; omega) (List.pairwise_cons.1 hp).2 (fun x hx => hk x (by simp [hx]))
    show outG r.sku (newG all r.sku (joinG (r :: K))) ++ foldF n ((r :: K).dropWhile (sameSku r.sku)) (allG all r.sku (joinG (r :: K))) = _
    rw [show newG all r.sku (joinG (r :: K)) = minusP (joinG (r :: K)) all from if_neg h1, show allG all r.sku (joinG (r :: K)) = all from if_neg h1, g1, g2, ih, minus_apart h2 h4]
    rw [show outG r.sku r.past = [⟨r.sku, r.past⟩] from if_neg h3]
    rfl
theorem Folded.rest {L K : List Rec} (h : Folded L K) : foldK K = K := by
  have hhd : foldF K.length K ⟨[], []⟩ = K := by
    cases K with
    | nil => rfl
    | cons r K =>
      have hlt := (List.pairwise_cons.1 h.lt).1
      have hne : ∀ x ∈ K, x.sku.size ≠ 0 := fun x hx => lt_ne (hlt x hx)
      by_cases hz : r.sku.size = 0
      · obtain ⟨g1, g2⟩ := group_one h.lt (h.can r (by simp))
        show outG r.sku (newG ⟨[], []⟩ r.sku (joinG (r :: K))) ++ foldF K.length ((r :: K).dropWhile (sameSku r.sku)) (allG ⟨[], []⟩ r.sku (joinG (r :: K))) = _
        rw [show newG ⟨[], []⟩ r.sku (joinG (r :: K)) = joinG (r :: K) from if_pos hz, show allG ⟨[], []⟩ r.sku (joinG (r :: K)) = joinG (r :: K) from if_pos hz, g1, g2]
        rw [foldF_rest K.length K r.past (Nat.le_refl _) (List.pairwise_cons.1 h.lt).2 (fun x hx => ⟨hne x hx, h.can x (by simp [hx]), h.size x (by simp [hx]), fun d hd => h.apart r (by simp) x (by simp [hx]) hz (hne x hx) d hd⟩)]
        rw [show outG r.sku r.past = [⟨r.sku, r.past⟩] from if_neg (h.size r (by simp))]
        rfl
      · refine foldF_rest (r :: K).length (r :: K) ⟨[], []⟩ (Nat.le_refl _) h.lt fun x hx => ⟨?_, h.can x hx, h.size x hx, fun d _ => has_nil d⟩
        rcases List.mem_cons.1 hx with rfl | hx
        · exact hz
        · exact hne x hx
  unfold foldK
  rw [hhd]
  exact headN_can h.can


theorem within_self (p : Pst) : withinP p p = true := withinP_iff.2 fun r hr n h => h

def lt2 (a b : Ent) : Prop := dotLt a.dot b.dot = true
abbrev SrtE (l : List Ent) : Prop := l.Pairwise lt2
def eqE (a b : Ent) : Bool := (((decide (a.rep = b.rep) && decide (a.num = b.num)) && decide (a.sku = b.sku)) && decide (a.qty = b.qty))
def opt1 (k : Bool) (a : Ent) : List Ent := if k = true then [a] else []
def mrgF (ka kb : Ent → Bool) : Nat → List Ent → List Ent → Option (List Ent)
  | 0, _, _ => some []
  | n + 1, [], [] => some []
  | n + 1, a :: A, [] => (mrgF ka kb n A []).map (opt1 (ka a) a ++ ·)
  | n + 1, [], b :: B => (mrgF ka kb n [] B).map (opt1 (kb b) b ++ ·)
  | n + 1, a :: A, b :: B =>
    if dotLt a.dot b.dot = true then (mrgF ka kb n A (b :: B)).map (opt1 (ka a) a ++ ·)
    else if dotLt b.dot a.dot = true then (mrgF ka kb n (a :: A) B).map (opt1 (kb b) b ++ ·)
    else if eqE a b = true then (mrgF ka kb n A B).map (a :: ·) else none
def DotIn (l : List Ent) (d : Rn) : Prop := ∃ e ∈ l, e.dot = d
def Clash (A B : List Ent) : Prop := ∃ a ∈ A, ∃ b ∈ B, a.dot = b.dot ∧ a ≠ b
def InM (ka kb : Ent → Bool) (A B : List Ent) (e : Ent) : Prop := (e ∈ A ∧ (DotIn B e.dot ∨ ka e = true)) ∨ (e ∈ B ∧ (DotIn A e.dot ∨ kb e = true))
def MSpec (ka kb : Ent → Bool) (A B : List Ent) : Option (List Ent) → Prop
  | none => Clash A B
  | some L => ¬ Clash A B ∧ SrtE L ∧ ∀ e, e ∈ L ↔ InM ka kb A B e
theorem Clash.symm {A B : List Ent} (h : Clash A B) : Clash B A := by
  obtain ⟨a, ha, b, hb, e, hne⟩ := h
  exact ⟨b, hb, a, ha, e.symm, fun h => hne h.symm⟩
theorem MSpec.symm {ka kb : Ent → Bool} {A B : List Ent} {r : Option (List Ent)} (h : MSpec ka kb A B r) : MSpec kb ka B A r := by
  cases r with
  | none => exact Clash.symm h
  | some L => exact ⟨fun hc => h.1 hc.symm, h.2.1, fun e => by rw [h.2.2 e]; unfold InM; exact or_comm⟩



def outO : Option (List Ent) → List Ent | none => [] | some l => l
def errO : Option (List Ent) → Int | none => 10 | some _ => 0
def keptBy (p : Pst) (e : Ent) : Bool := !hasP p e.dot
def okM (A : List Ent) (ap : Pst) (B : List Ent) (bp : Pst) : Prop := formE A = true ∧ isNormP ap = true ∧ formE B = true ∧ isNormP bp = true
structure MgS where
  i : Nat
  j : Nat
  out : List Ent

open Classical in
noncomputable def leftF (A B : List Ent) (bp : Pst) : List Ent := A.filter fun e => decide (DotIn B e.dot) || keptBy bp e

open Classical in
noncomputable def mrgP (A : List Ent) (ap : Pst) (B : List Ent) (bp : Pst) : List Ent × Int :=
  if okM A ap B bp then (outO (mrgF (keptBy bp) (keptBy ap) (A.length + B.length) A B), errO (mrgF (keptBy bp) (keptBy ap) (A.length + B.length) A B)) else ([], 1)

structure Swt where
  live : List Ent
  past : Pst
  defer : List Rec
structure Fct where
  adds : List Ent
  gone : Pst
  recs : List Rec
theorem inP_has (p : Pst) (r : Nat) (n : Int) : inP p r n ↔ hasP p ((r : Int), n) = true := by
  rw [hasP_iff]
  simp
theorem within_iff {p q : Pst} : withinP p q = true ↔ ∀ d, hasP p d = true → hasP q d = true := by
  constructor
  · exact fun h d hd => has_within h hd
  · intro h
    refine withinP_iff.2 fun r _ n hn => ?_
    rw [inP_has] at hn ⊢
    exact h _ hn
def dotsP (l : List Ent) : Pst := ofP (l.map Ent.dot)
theorem canP_of2 (ds : List Rn) : CanP (ofP ds) := canP_of _ (ofT_le ds).1
theorem entErr_dot {e : Ent} (h : entErr e = 0) : 0 ≤ e.rep ∧ e.rep < 16 ∧ 1 ≤ e.num ∧ e.num ≤ 1000000000 := by
  unfold entErr at h
  split at h
  · omega
  · split at h
    · omega
    · omega
theorem has_dots {l : List Ent} (h : ∀ e ∈ l, entErr e = 0) (d : Rn) : hasP (dotsP l) d = true ↔ DotIn l d := by
  rw [hasP_iff]
  unfold dotsP DotIn
  constructor
  · rintro ⟨h0, hd⟩
    have := ((ofP_in _ (inP_lt hd) _).1 hd).2.2
    obtain ⟨e, he, hed⟩ := List.mem_map.1 this
    refine ⟨e, he, ?_⟩
    rw [hed]
    have : ((d.1.toNat : Nat) : Int) = d.1 := Int.toNat_of_nonneg h0
    rw [this]
  · rintro ⟨e, he, rfl⟩
    obtain ⟨h1, h2, h3, h4⟩ := entErr_dot (h e he)
    refine ⟨h1, (ofP_in _ (show e.dot.1.toNat < 16 by show e.rep.toNat < 16; omega) _).2 ⟨h3, h4, ?_⟩⟩
    have : ((e.dot.1.toNat : Nat) : Int) = e.dot.1 := Int.toNat_of_nonneg h1
    rw [this]
    exact List.mem_map.2 ⟨e, he, rfl⟩
structure FormS (s : Swt) : Prop where
  live : FormE s.live
  past : CanP s.past
  defer : FormK s.defer
  dots : withinP (dotsP s.live) s.past = true
  waits : ∀ r ∈ s.defer, withinP r.past s.past = false
  bars : ∀ e ∈ s.live, ¬ CovL s.defer e
def joinR (a b : Swt) : List Rec := ordR (a.defer ++ b.defer)
def mergeS (a b : Swt) : Option (List Ent) := mrgF (keptBy b.past) (keptBy a.past) (a.live.length + b.live.length) a.live b.live
noncomputable def joinS (a b : Swt) : Swt := ⟨leftE (joinR a b) (outO (mergeS a b)), joinP [a.past, b.past], waitsL (joinR a b) (joinP [a.past, b.past])⟩
def liveF (adds : List Ent) (gone : Pst) (recs : List Rec) : List Ent := adds.filter fun e => !hasP gone e.dot && decide (barsK recs e = 0)
structure FormF (f : Fct) : Prop where
  adds : FormE f.adds
  gone : CanP f.gone
  recs : FormK f.recs
open Classical in
noncomputable def evErr (f : Fct) : Int := if ¬ FormF f then 1 else match f.adds, f.recs with
  | [e], [] => if lastP f.gone e.rep < e.num then 0 else 2
  | [], [] => 0
  | [], [_] => if sizeP f.gone = 0 then 0 else 2
  | _, _ => 2
def evS (f : Fct) : Swt := ⟨f.adds, joinP [dotsP f.adds, f.gone], f.recs⟩
theorem size_has {p : Pst} (h : ∀ d, hasP p d = false) : sizeP p = 0 := by
  have hz : sizeP (minusP p p) = 0 := by
    have := within_size p p
    rw [within_self] at this
    simpa using this
  rw [sizeP_card] at hz ⊢
  rw [← hz]
  congr 1
  exact cardT_congr fun r _ n _ _ => by rw [inP_has, inP_has, has_minus, h]; simp
theorem state_event {f : Fct} (h : evErr f = 0) : liveF f.adds f.gone f.recs = f.adds ∧ waitsL f.recs (joinP [dotsP f.adds, f.gone]) = f.recs := by
  unfold evErr at h
  split at h
  · omega
  rename_i hf
  simp only [Classical.not_not] at hf
  split at h
  · rename_i e ha hr
    rw [ha, hr]
    split at h
    · rename_i hl
      refine ⟨?_, rfl⟩
      have hn : hasP f.gone e.dot = false := by
        cases hh : hasP f.gone e.dot with
        | false => rfl
        | true => have := has_last hh; have : e.num ≤ lastP f.gone e.rep := this; omega
      simp [liveF, barsK, hn]
    · omega
  · rename_i ha hr
    rw [ha, hr]
    exact ⟨rfl, rfl⟩
  · rename_i r ha hr
    rw [ha, hr]
    split at h
    · rename_i hs
      refine ⟨rfl, ?_⟩
      have hrs : sizeP r.past ≠ 0 := (formK_can hf.recs r (by rw [hr]; simp)).2.1
      have hnw : withinP r.past (joinP [dotsP [], f.gone]) = false := by
        cases hw : withinP r.past (joinP [dotsP [], f.gone]) with
        | false => rfl
        | true =>
          exfalso
          apply hrs
          refine size_has fun d => ?_
          cases hd : hasP r.past d with
          | false => rfl
          | true =>
            have := within_iff.1 hw d hd
            rw [has_join, Bool.or_eq_true, has_dots (by simp)] at this
            rcases this with ⟨e, he, _⟩ | h2
            · cases he
            · have := has_size h2; omega
      unfold waitsL
      simp [hnw]
    · omega
  · omega

open Classical in
noncomputable def formS (s : Swt) : Bool := decide (FormS s)
open Classical in
noncomputable def fate (s : Swt) (d : Rn) : Int := if hasP s.past d = true then (if DotIn s.live d then 1 else 2) else 0
open Classical in
noncomputable def errJ (a b : Swt) : Int := if FormS a ∧ FormS b then (if Clash a.live b.live then 10 else 0) else 1
def noS : Swt := ⟨[], ⟨[], []⟩, []⟩
open Classical in
noncomputable def joinE (a b : Swt) : Swt := if errJ a b = 0 then joinS a b else noS
theorem swt_ext {a b : Swt} (h1 : a.live = b.live) (h2 : a.past = b.past) (h3 : a.defer = b.defer) : a = b := by
  cases a; cases b
  simp only at h1 h2 h3
  rw [h1, h2, h3]


def heardP (f : Fct) : Pst := joinP [dotsP f.adds, f.gone]
noncomputable def stF (f : Fct) : Swt := ⟨liveF f.adds f.gone f.recs, heardP f, waitsL f.recs (heardP f)⟩

def Wkn (x y : AVal) : Prop := ∀ (D : Nat → Nat → Prop) (G : Gh) (B : Nat → Prop) (w : World) (v : Value), VR D G B w x v → VR D G B w y v
theorem Wkn.refl (x : AVal) : Wkn x x := fun _ _ _ _ _ h => h
theorem Wkn.nil (sz : Nat) : Wkn .nil (.sl sz []) := fun D G B w v h => by
  cases h
  exact .slnil sz
def Wkns : List AVal → List AVal → Prop
  | [], [] => True
  | a :: l, b :: m => Wkn a b ∧ Wkns l m
  | _, _ => False
theorem Wkns.len : ∀ {l m : List AVal}, Wkns l m → l.length = m.length
  | [], [], _ => rfl
  | a :: l, b :: m, h => by rw [List.length_cons, List.length_cons, Wkns.len h.2]
  | [], _ :: _, h => h.elim
  | _ :: _, [], h => h.elim
theorem Wkns.get : ∀ {l m : List AVal}, Wkns l m → ∀ (i : Nat) (y : AVal), m[i]? = some y → ∃ x, l[i]? = some x ∧ Wkn x y
  | [], [], _, i, y, h => by simp at h
  | a :: l, b :: m, hw, 0, y, h => by
    simp only [List.getElem?_cons_zero, Option.some.injEq] at h
    subst h
    exact ⟨a, rfl, hw.1⟩
  | a :: l, b :: m, hw, i + 1, y, h => by
    obtain ⟨x, hx, hxy⟩ := Wkns.get hw.2 i y (by simpa using h)
    exact ⟨x, by simpa using hx, hxy⟩
  | [], _ :: _, h, _, _, _ => h.elim
  | _ :: _, [], h, _, _, _ => h.elim
theorem Wkns.refl : ∀ l : List AVal, Wkns l l
  | [] => trivial
  | a :: l => ⟨Wkn.refl a, Wkns.refl l⟩
theorem Wkn.agg {l m : List AVal} (h : Wkns l m) : Wkn (.agg l) (.agg m) := fun D G B w v hv => by
  cases hv with
  | agg cs vs hl hh =>
    refine .agg m vs (by rw [hl, h.len]) fun n x u hx hu => ?_
    obtain ⟨y, hy, hyx⟩ := h.get n x hx
    exact hyx D G B w u (hh n y u hy hu)
theorem Ev.wks {P : Program} {f : FuncId} {l m : List AVal} {out : Out} (he : Ev P f m out) (h : Wkns l m) : Ev P f l out :=
  ⟨he.1, fun B w vs G ho hs hv hb => he.2 B w vs G ho (by rw [hs, h.len]) (fun i y v hy hvv => by
    obtain ⟨x, hx, hxy⟩ := h.get i y hy
    exact hxy _ G B w v (hv i x v hx hvv)) hb⟩

theorem Wkn.sl {sz : Nat} {xs ys : List AVal} (hl : xs.length = ys.length) (hf : Wkns (flat xs) (flat ys)) (h1 : ∀ x ∈ flat ys, x.one = true) (h2 : ∀ x ∈ ys, x.cells.length = sz) : Wkn (.sl sz xs) (.sl sz ys) := fun D G B w v h => by
  cases h with
  | slnil =>
    have : ys = [] := List.length_eq_zero_iff.1 hl.symm
    subst this
    exact .slnil sz
  | slemp _ a cap =>
    have : ys = [] := List.length_eq_zero_iff.1 hl.symm
    subst this
    exact .slemp sz a cap
  | sl _ _ b off cap f hcap hB hone hsz hc hv =>
    have hne : flat ys ≠ [] → flat xs ≠ [] := fun h h' => h (List.length_eq_zero_iff.1 (by rw [← hf.len, h']; rfl))
    have hg := fun n y (hy : (flat ys)[n]? = some y) => hf.get n y hy
    rw [hl]
    refine .sl sz ys b off cap f (by omega) (fun h => hB (hne h)) h1 h2 (fun n y hy => ?_) (fun n y hy => ?_)
    · obtain ⟨x, hx, _⟩ := hg n y hy
      exact hc n x hx
    · obtain ⟨x, hx, hxy⟩ := hg n y hy
      exact hxy D G B w _ (hv n x hx)
def sA : ByteArray := ⟨#[65]⟩
def sa : ByteArray := ⟨#[97]⟩
theorem rows0 : (openT [⟨[], []⟩]).map normR = [[], [], [], [], [], [], [], [], [], [], [], [], [], [], [], []] := by
  have h : openT [⟨[], []⟩] = [[], [], [], [], [], [], [], [], [], [], [], [], [], [], [], []] := by decide
  rw [h]
  have n0 : normR [] = [] := normR_of_can Can.nil
  simp only [List.map_cons, List.map_nil, n0]
theorem good_A : goodS sA = true := by decide +kernel

theorem cells_str : Tryz.prog.cellsOf 9 = 1 := by kernel_rfl
theorem cells_Rec : Tryz.prog.cellsOf 91 = 3 := by kernel_rfl
theorem cells_Ent : Tryz.prog.cellsOf 62 = 4 := by kernel_rfl
theorem cells_recs : Tryz.prog.cellsOf 27 = 1 := by kernel_rfl
theorem cells_ents : Tryz.prog.cellsOf 22 = 1 := by kernel_rfl
theorem op_str : Opens Tryz.prog 9 ByteArray (fun _ => True) (fun s => [.str s]) (fun s => s.size + 1) := Opens.string Tryz.underlying9
def okK (r : Rec) : Prop := okP r.past
def cellsK (r : Rec) : List AVal := [.str r.sku, .sl 1 (encIs r.past.vec), .sl 3 (encSs r.past.cloud)]
theorem op_Rec : Opens Tryz.prog 91 Rec okK cellsK wtK :=
  (Opens.struct Tryz.underlying91 cells_Rec (OpensF.cons (k := 1) op_str (fun _ => rfl) cells_str rfl (OpensF.cons (k := 2) op_Past (fun _ => rfl) cells_Past rfl (OpensF.nil _)))).map
    (fun x => ⟨x.1, x.2.1⟩) (fun x h => h.2.1) (fun _ => rfl) (fun x => by show wt x.2.1 + 1 ≤ x.1.size + 1 + (wt x.2.1 + 0) + 1; omega)
theorem op_recs : Opens Tryz.prog 27 (List Rec) (fun l => ∀ x ∈ l, okK x) (fun l => [.sl 3 (encKs l)]) (wtL wtK) :=
  Opens.slice (mk := encK) Tryz.underlying27 op_Rec cells_Rec (by decide) (fun _ => rfl) (fun _ => rfl) (fun x y hy => by simp [cellsK] at hy; rcases hy with rfl | rfl | rfl <;> rfl)
def okE (e : Ent) : Prop := True
def cellsE (e : Ent) : List AVal := [.int .i64 e.rep, .int .i64 e.num, .str e.sku, .int .i64 e.qty]
theorem op_Ent : Opens Tryz.prog 62 Ent okE cellsE (fun _ => 1) :=
  (Opens.struct Tryz.underlying62 cells_Ent (OpensF.cons (k := 2) op_Dot (fun _ => rfl) cells_Dot rfl (OpensF.cons (k := 1) op_str (fun _ => rfl) cells_str rfl (OpensF.cons (k := 1) op_int (fun _ => rfl) cells_int rfl (OpensF.nil _))))).map
    (fun x => ⟨x.1.1, x.1.2, x.2.1, x.2.2.1⟩) (fun x h => trivial) (fun _ => rfl) (fun _ => Nat.le_add_left _ _)
theorem op_ents : Opens Tryz.prog 22 (List Ent) (fun l => ∀ x ∈ l, okE x) (fun l => [.sl 4 (encEs l)]) (wtL fun _ => 1) :=
  Opens.slice (mk := encE) Tryz.underlying22 op_Ent cells_Ent (by decide) (fun _ => rfl) (fun _ => rfl) (fun x y hy => by simp [cellsE] at hy; rcases hy with rfl | rfl | rfl | rfl <;> rfl)
structure CasK where
  r : List Rec
  q : List Rec
  a : List Ent
  b : List Ent
  p : Pst
  o : Pst


def wtS (s : Swt) : Nat := s.live.length + wt s.past + wtKs s.defer
def wtF (f : Fct) : Nat := f.adds.length + wt f.gone + wtKs f.recs

def r_k63_1 : List SOp := [⟨some 2,.assign (.const (.slice none 0 0)),none⟩]
instance : Live r_k63_1 := ⟨[0]⟩
def r_k63_2 : List SOp := [⟨some 3,.move (.tmp 0),none⟩,⟨some 4,.binOp .eql 22 (.tmp 3) (.const (.slice none 0 0)) 22,none⟩]
instance : Live r_k63_2 := ⟨[0]⟩
def r_k63_3 : List SOp := [⟨some 2,.assign (.const (.slice none 0 0)),none⟩]
instance : Live r_k63_3 := ⟨[]⟩
def r_k63_4 : List SOp := [⟨some 5,.buildSlice 22 0 #[],none⟩,⟨some 6,.move (.tmp 0),none⟩,⟨some 7,.call ⟨.builtin .append,#[.tmp 5,.tmp 6],#[22,22]⟩,none⟩,⟨some 2,.assign (.tmp 7),none⟩]
instance : Live r_k63_4 := ⟨[0]⟩
def t_k63 : SC :=
  (.seq (.ops false r_k63_1) (.seq (.seq (.ops false r_k63_2) (.cond (.tmp 4) (.seq (.ops false r_k63_3) .ret) .skip)) (.seq (.ops false r_k63_4) .ret)))
theorem it_k63 : FnIs Tryz.prog 63 8 [.tmp 2] t_k63 := ⟨Tryz.f63, _, Tryz.func63, rfl, rfl, rfl, rfl, by kernel_rfl⟩

def r_k95_1 : List SOp := [⟨some 2,.assign (.const (.slice none 0 0)),none⟩]
instance : Live r_k95_1 := ⟨[0]⟩
def r_k95_2 : List SOp := [⟨some 3,.move (.tmp 0),none⟩,⟨some 4,.binOp .eql 27 (.tmp 3) (.const (.slice none 0 0)) 27,none⟩]
instance : Live r_k95_2 := ⟨[0]⟩
def r_k95_3 : List SOp := [⟨some 2,.assign (.const (.slice none 0 0)),none⟩]
instance : Live r_k95_3 := ⟨[]⟩
def r_k95_4 : List SOp := [⟨some 5,.buildSlice 27 0 #[],none⟩,⟨some 6,.move (.tmp 0),none⟩,⟨some 7,.call ⟨.builtin .append,#[.tmp 5,.tmp 6],#[27,27]⟩,none⟩,⟨some 2,.assign (.tmp 7),none⟩]
instance : Live r_k95_4 := ⟨[0]⟩
def t_k95 : SC :=
  (.seq (.ops false r_k95_1) (.seq (.seq (.ops false r_k95_2) (.cond (.tmp 4) (.seq (.ops false r_k95_3) .ret) .skip)) (.seq (.ops false r_k95_4) .ret)))
theorem it_k95 : FnIs Tryz.prog 95 8 [.tmp 2] t_k95 := ⟨Tryz.f95, _, Tryz.func95, rfl, rfl, rfl, rfl, by kernel_rfl⟩

def r_k47_1 : List SOp := [⟨some 2,.alloc 26,none⟩,⟨some 3,.assign (.const (.int .i64 0)),none⟩]
instance : Live r_k47_1 := ⟨[0]⟩
def r_k47_2 : List SOp := [⟨some 7,.move (.tmp 0),none⟩,⟨some 8,.call ⟨.value (.func 53),#[.tmp 7],#[22]⟩,none⟩,⟨some 9,.binOp .neq 32 (.tmp 8) (.const (.int .i64 0)) 32,none⟩]
instance : Live r_k47_2 := ⟨[0,2]⟩
def r_k47_3 : List SOp := [⟨some 10,.build 26 #[],none⟩,⟨none,.store 26 (.tmp 2) (.tmp 10),none⟩,⟨some 3,.assign (.const (.int .i64 1)),none⟩]
instance : Live r_k47_3 := ⟨[2]⟩
def r_k47_4 : List SOp := [⟨some 11,.move (.tmp 0),none⟩,⟨some 12,.call ⟨.builtin .len,#[.tmp 11],#[22]⟩,none⟩,⟨some 13,.makeSlice 38 (.tmp 12) (.tmp 12),none⟩,⟨some 4,.assign (.tmp 13),none⟩]
instance : Live r_k47_4 := ⟨[0,2]⟩
def r_k47_5 : List SOp := [⟨some 14,.move (.tmp 0),none⟩,⟨some 15,.call ⟨.builtin .len,#[.tmp 14],#[22]⟩,none⟩,⟨some 16,.move (.const (.int .i64 0)),none⟩]
instance : Live r_k47_5 := ⟨[0,2,4]⟩
def r_k47_6 : List SOp := [⟨some 17,.binOp .lss 3 (.tmp 16) (.tmp 15) 3,none⟩]
instance : Live r_k47_6 := ⟨[2,4,14,15,16]⟩
def r_k47_7 : List SOp := [⟨some 18,.move (.tmp 16),none⟩,⟨some 19,.indexAddr 22 (.tmp 14) (.tmp 16),none⟩,⟨some 20,.load 62 (.tmp 19),none⟩,⟨some 6,.alloc 62,none⟩,⟨some 5,.assign (.tmp 18),none⟩,⟨none,.store 62 (.tmp 6) (.tmp 20),none⟩]
instance : Live r_k47_7 := ⟨[2,4,14,15,16]⟩
def r_k47_8 : List SOp := [⟨some 21,.move (.tmp 4),none⟩,⟨some 22,.move (.tmp 5),none⟩,⟨some 23,.fieldAddr 62 (.tmp 6) 0,none⟩,⟨some 24,.load 41 (.tmp 23),none⟩,⟨some 25,.indexAddr 38 (.tmp 21) (.tmp 22),none⟩,⟨none,.store 41 (.tmp 25) (.tmp 24),none⟩]
instance : Live r_k47_8 := ⟨[2,4,5,6,14,15,16]⟩
def r_k47_9 : List SOp := [⟨some 26,.binOp .add 3 (.tmp 16) (.const (.int .i64 1)) 3,none⟩,⟨some 16,.move (.tmp 26),none⟩]
instance : Live r_k47_9 := ⟨[2,4,14,15,16]⟩
def r_k47_10 : List SOp := [⟨some 27,.move (.tmp 4),none⟩,⟨some 28,.call ⟨.value (.func 94),#[.tmp 27],#[38]⟩,none⟩,⟨none,.store 26 (.tmp 2) (.tmp 28),none⟩,⟨some 3,.assign (.const (.int .i64 0)),none⟩]
instance : Live r_k47_10 := ⟨[2,4]⟩
def t_k47_l1 : SC :=
  (.seq (.ops false r_k47_6) (.seq (.cond (.tmp 17) .skip (.exit 0)) (.seq (.block 1 (.seq (.ops false r_k47_7) (.ops false r_k47_8))) (.ops false r_k47_9))))
def t_k47 : SC :=
  (.seq (.ops false r_k47_1) (.seq (.seq (.ops false r_k47_2) (.cond (.tmp 9) (.seq (.ops false r_k47_3) .ret) .skip)) (.seq (.ops false r_k47_4) (.seq (.seq (.ops false r_k47_5) (.block 0 (.loop t_k47_l1))) (.seq (.ops false r_k47_10) .ret)))))
theorem it_k47 : FnIs Tryz.prog 47 29 [.cell 2 26, .tmp 3] t_k47 := ⟨Tryz.f47, _, Tryz.func47, rfl, rfl, rfl, rfl, by kernel_rfl⟩

def r_k48_1 : List SOp := [⟨some 1,.box 31 (.tmp 0),none⟩,⟨some 2,.alloc 31,none⟩]
instance : Live r_k48_1 := ⟨[0]⟩
def r_k48_2 : List SOp := [⟨some 6,.fieldAddr 31 (.tmp 1) 0,none⟩,⟨some 7,.load 22 (.tmp 6),none⟩,⟨some 8,.call ⟨.value (.func 63),#[.tmp 7],#[22]⟩,none⟩,⟨some 9,.fieldAddr 31 (.tmp 1) 1,none⟩,⟨some 10,.load 26 (.tmp 9),none⟩,⟨some 11,.call ⟨.value (.func 64),#[.tmp 10],#[26]⟩,none⟩,⟨some 12,.fieldAddr 31 (.tmp 1) 2,none⟩,⟨some 13,.load 27 (.tmp 12),none⟩,⟨some 14,.call ⟨.value (.func 95),#[.tmp 13],#[27]⟩,none⟩,⟨some 15,.build 31 #[(0,.tmp 8),(1,.tmp 11),(2,.tmp 14)],none⟩,⟨some 3,.alloc 31,none⟩,⟨none,.store 31 (.tmp 3) (.tmp 15),none⟩]
instance : Live r_k48_2 := ⟨[1,2]⟩
def r_k48_3 : List SOp := [⟨some 16,.fieldAddr 31 (.tmp 3) 2,none⟩,⟨some 17,.load 27 (.tmp 16),none⟩,⟨some 18,.call ⟨.builtin .len,#[.tmp 17],#[27]⟩,none⟩,⟨some 19,.move (.const (.int .i64 0)),none⟩]
instance : Live r_k48_3 := ⟨[2,3]⟩
def r_k48_4 : List SOp := [⟨some 20,.binOp .lss 3 (.tmp 19) (.tmp 18) 3,none⟩]
instance : Live r_k48_4 := ⟨[2,3,17,18,19]⟩
def r_k48_5 : List SOp := [⟨some 21,.move (.tmp 19),none⟩,⟨some 22,.indexAddr 27 (.tmp 17) (.tmp 19),none⟩,⟨some 23,.load 91 (.tmp 22),none⟩,⟨some 5,.alloc 91,none⟩,⟨some 4,.assign (.tmp 21),none⟩,⟨none,.store 91 (.tmp 5) (.tmp 23),none⟩]
instance : Live r_k48_5 := ⟨[2,3,17,18,19]⟩
def r_k48_6 : List SOp := [⟨some 24,.fieldAddr 31 (.tmp 3) 2,none⟩,⟨some 25,.load 27 (.tmp 24),none⟩,⟨some 26,.move (.tmp 4),none⟩,⟨some 27,.fieldAddr 91 (.tmp 5) 1,none⟩,⟨some 28,.load 26 (.tmp 27),none⟩,⟨some 29,.call ⟨.value (.func 64),#[.tmp 28],#[26]⟩,none⟩,⟨some 30,.indexAddr 27 (.tmp 25) (.tmp 26),none⟩,⟨some 31,.fieldAddr 91 (.tmp 30) 1,none⟩,⟨none,.store 26 (.tmp 31) (.tmp 29),none⟩]
instance : Live r_k48_6 := ⟨[2,3,4,5,17,18,19]⟩
def r_k48_7 : List SOp := [⟨some 32,.binOp .add 3 (.tmp 19) (.const (.int .i64 1)) 3,none⟩,⟨some 19,.move (.tmp 32),none⟩]
instance : Live r_k48_7 := ⟨[2,3,17,18,19]⟩
def r_k48_8 : List SOp := [⟨some 33,.load 31 (.tmp 3),none⟩,⟨none,.store 31 (.tmp 2) (.tmp 33),none⟩]
instance : Live r_k48_8 := ⟨[2,3]⟩
def t_k48_l1 : SC :=
  (.seq (.ops false r_k48_4) (.seq (.cond (.tmp 20) .skip (.exit 0)) (.seq (.block 1 (.seq (.ops false r_k48_5) (.ops true r_k48_6))) (.ops false r_k48_7))))
def t_k48 : SC :=
  (.seq (.ops false r_k48_1) (.seq (.ops true r_k48_2) (.seq (.seq (.ops false r_k48_3) (.block 0 (.loop t_k48_l1))) (.seq (.ops false r_k48_8) .ret))))
theorem it_k48 : FnIs Tryz.prog 48 34 [.cell 2 31] t_k48 := ⟨Tryz.f48, _, Tryz.func48, rfl, rfl, rfl, rfl, by kernel_rfl⟩

def encW (s : Swt) : AVal := .agg [.sl 4 (encEs s.live), .sl 1 (encIs s.past.vec), .sl 3 (encSs s.past.cloud), .sl 3 (encKs s.defer)]
def encF (f : Fct) : AVal := .agg [.sl 4 (encEs f.adds), .sl 1 (encIs f.gone.vec), .sl 3 (encSs f.gone.cloud), .sl 3 (encKs f.recs)]
theorem stbW (a : List Ent) (v : List Int) (c : List Sn) (r : List Rec) : stbs [AVal.sl 4 (encEs a), .sl 1 (encIs v), .sl 3 (encSs c), .sl 3 (encKs r)] = true := by simp [stbs, AVal.stb, encIs_stb, encSs_stb, encKs_stb, encEs_stb]
theorem encW_stb (s : Swt) : (encW s).stb = true := stbW _ _ _ _
theorem encF_stb (s : Fct) : (encF s).stb = true := stbW _ _ _ _
theorem stbF : (∀ e, (encE e).stb = true) ∧ (∀ r, (encK r).stb = true) ∧ (∀ l, stbs (encEs l) = true) ∧ (∀ l, stbs (encKs l) = true) ∧ (∀ s, (encW s).stb = true) ∧ (∀ s, (encF s).stb = true) := ⟨encE_stb, encK_stb, encEs_stb, encKs_stb, encW_stb, encF_stb⟩
theorem Wk.cells_nil {n : Nat} {T : Tmps} {M : Mem} {k : Nat} {cs ds : List AVal} (hk : M k = some (.cells cs)) (h : subs cs ds) : Wk n ⟨T, M⟩ ⟨T, upd M k (some (.cells ds))⟩ := by
  intro B G a w hR
  obtain ⟨c, el, b1, b2, b3, b4, b5⟩ := hR.mem k _ hk
  have hD : ∀ j e, Dm M j e → Dm (upd M k (some (.cells ds))) j e := fun j e => Dm_upd (by rw [hk]; trivial)
  have hw : ∀ b, b < w.heap.size → ¬ B b → G.ow b = none → w.heap[b]? = w.heap[b]? ∧ ¬ B b ∧ G.ow b = none := fun b _ hn ho => ⟨rfl, hn, ho⟩
  refine ⟨G, hR.update (.refl G w) k (.cells ds) (by show Succ (M k) _; rw [hk]; trivial) (fun _ _ _ => ⟨rfl, rfl⟩) (fun b key _ _ ho _ => ⟨rfl, ho⟩) (fun b hb => hR.ol b hb) ?_, .refl G w⟩
  refine ⟨c, el, b1, b2, b3, by rw [b4, subs_len h], fun i y hy => ?_⟩
  obtain ⟨x, hx, hs⟩ := subs_get h hy
  obtain ⟨u, hu, hr⟩ := b5 i x hx
  refine ⟨u, hu, ?_⟩
  rcases hs with rfl | ⟨rfl, sz, rfl⟩
  · cases x with
    | own sz' xs' => exact OwnAt.mono hD (fun _ _ _ => ⟨rfl, rfl⟩) hw (fun b _ hb2 hb3 => ⟨rfl, hb2, hb3⟩) hr
    | hole => trivial
    | _ => exact VR.mono hD (fun _ _ _ => ⟨rfl, rfl⟩) hw hr
  · have hr : VR (Dm M) G B w .nil u := hr
    cases hr
    exact .slnil sz
theorem sub4 : subs [.nil, .nil, .nil, .nil] [.sl 4 [], .sl 1 [], .sl 3 [], .sl 3 []] := ⟨.inr ⟨rfl, 4, rfl⟩, .inr ⟨rfl, 1, rfl⟩, .inr ⟨rfl, 3, rfl⟩, .inr ⟨rfl, 3, rfl⟩, trivial⟩
theorem sub2 : subs [.nil, .nil] [.sl 1 [], .sl 3 []] := ⟨.inr ⟨rfl, 1, rfl⟩, .inr ⟨rfl, 3, rfl⟩, trivial⟩
theorem ev_cloneEnt (l : List Ent) (hl : l.length ≤ 100000000) : Ev (En Tryz.prog rfl).P 63 [.sl 4 (encEs l)] (.ret (.sl 4 (encEs l))) := by
  refine Ev.of_body it_k63 (by simp) (Run.start ?_)
  unfold t_k63
  cases l with
  | nil =>
    have e0 : encEs [] = [] := rfl
    rw [e0]
    (focus (have hF := True.intro; (repeat' (first | refine go0 (k:=?_) | fail)); all_goals clear hF))
    refine awp_hook (Hook.nil_eq (En Tryz.prog rfl).hT (sz := 4) TE_22 (by simp only [opS, opA, ev, cst, upd, evs, evp, initT, initO, NoM, En_TE, En_EQ, En_P, Option.getD, Option.map_some, Option.map_none, List.map_cons, List.map_nil, List.getElem?_cons_zero, List.getElem?_cons_succ, List.getElem?_nil, List.all_cons, List.all_nil, List.length_cons, List.length_nil, List.take_succ_cons, List.take_zero, List.drop_succ_cons, List.drop_zero, List.set_cons_zero, List.set_cons_succ, List.cons_append, List.nil_append, List.append_nil, List.toList_toArray, allocA, boxA, loadA, storeA, fieldAddrA, fieldA, moveA, indexAddrA, indexA, buildA, fillA, placeS, partA, binA, arithA, shiftA, strA, eqvA, nilS, nilP, nilF, nils, unA, convA, lenA, builtinA, mmA, sliceA, boundA, appendA, srcA, buildSliceA, setP, makeSliceA, TyI.zeros, TyI.zeroElem, TyI.okElem, TD.isAgg, Value.cells, AVal.known, AVal.cells, AVal.one, AVal.plain, splice, AVal.withCells, reduceCtorEq, ↓reduceIte, if_true, if_false, Bool.false_eq_true, false_implies, true_implies, implies_true, true_and, and_true, and_self, ne_eq, not_true, not_false_iff, Bool.and_true, Bool.true_and, Bool.and_false, Bool.false_and, Bool.or_true, Bool.true_or, Bool.or_false, Bool.false_or, Bool.not_true, Bool.not_false, beq_self_eq_true, Nat.reduceAdd, Nat.reduceMul, Nat.reduceLeDiff, Nat.reduceEqDiff, Nat.reduceBEq, Nat.mul_one, Nat.le_refl, Nat.zero_add, Nat.add_zero, Option.isSome_some, decide_true, decide_false, pick_bool, pick_int, List.replicate_succ, List.replicate_zero, List.flatMap_cons, List.flatMap_nil, flat, tms, mms, Array.size_empty, dchk, rkOk, isStore, Op.operands, AVal.at, AVal.atR, opCls, clsO, clsW, Option.map_some, List.contains_cons, List.contains_nil, List.isEmpty_nil, List.isEmpty_cons, Int.toNat_natCast, Int.natCast_nonneg, Int.reduceLE, Int.reduceLT, Int.reduceToNat, Nat.reduceLT, Nat.reduceSub, Int.reduceNeg, Int.reduceEq])) ?_
    rintro v M' ⟨rfl, b, rfl⟩
    dsimp only [AS.put]
    (focus (have hF := True.intro; (repeat' (first | refine go0 (k:=?_) | fail)); all_goals clear hF))
    refine Run.cond _ rfl (fun hc => ?_) (fun hc => ?_)
    · (focus (have hF := True.intro; (repeat' (first | refine go0 (k:=?_) | fail)); all_goals clear hF))
      exact Fin.nil rfl
    · (focus (have hF := True.intro; (repeat' (first | refine go0 (k:=?_) | fail)); all_goals clear hF))
      exact Fin.tmp' rfl rfl
  | cons x l =>
    have e1 : encEs (x :: l) = encE x :: encEs l := rfl
    have e2 : (encEs l).length = l.length := encEs_len l
    have hl2 : l.length + 1 ≤ 100000000 := by simpa using hl
    rw [e1]
    (focus (have hF := @e2; (repeat' (first | refine go1 (k:=?_) | with_reducible refine Ny.of ?_ ?_ | (refine Hyp.of ?_; intro hc; (try simp only [hc]); (try simp only [Bh] at hc)))); all_goals clear hF))
    exact Fin.tmp' rfl (encEs_stb (x :: l))
theorem ev_cloneRec (l : List Rec) (hl : l.length ≤ 100000000) : EvFresh (En Tryz.prog rfl).P 95 [.sl 3 (encKs l)] 3 (encKs l) := by
  refine EvFresh.of_body it_k95 (by simp) (AW.wkEnd (Run.start ?_))
  unfold t_k95
  cases l with
  | nil =>
    have e0 : encKs [] = [] := rfl
    rw [e0]
    (focus (have hF := True.intro; (repeat' (first | refine go0 (k:=?_) | fail)); all_goals clear hF))
    refine awp_hook (Hook.nil_eq (En Tryz.prog rfl).hT (sz := 3) TE_27 (by simp only [opS, opA, ev, cst, upd, evs, evp, initT, initO, NoM, En_TE, En_EQ, En_P, Option.getD, Option.map_some, Option.map_none, List.map_cons, List.map_nil, List.getElem?_cons_zero, List.getElem?_cons_succ, List.getElem?_nil, List.all_cons, List.all_nil, List.length_cons, List.length_nil, List.take_succ_cons, List.take_zero, List.drop_succ_cons, List.drop_zero, List.set_cons_zero, List.set_cons_succ, List.cons_append, List.nil_append, List.append_nil, List.toList_toArray, allocA, boxA, loadA, storeA, fieldAddrA, fieldA, moveA, indexAddrA, indexA, buildA, fillA, placeS, partA, binA, arithA, shiftA, strA, eqvA, nilS, nilP, nilF, nils, unA, convA, lenA, builtinA, mmA, sliceA, boundA, appendA, srcA, buildSliceA, setP, makeSliceA, TyI.zeros, TyI.zeroElem, TyI.okElem, TD.isAgg, Value.cells, AVal.known, AVal.cells, AVal.one, AVal.plain, splice, AVal.withCells, reduceCtorEq, ↓reduceIte, if_true, if_false, Bool.false_eq_true, false_implies, true_implies, implies_true, true_and, and_true, and_self, ne_eq, not_true, not_false_iff, Bool.and_true, Bool.true_and, Bool.and_false, Bool.false_and, Bool.or_true, Bool.true_or, Bool.or_false, Bool.false_or, Bool.not_true, Bool.not_false, beq_self_eq_true, Nat.reduceAdd, Nat.reduceMul, Nat.reduceLeDiff, Nat.reduceEqDiff, Nat.reduceBEq, Nat.mul_one, Nat.le_refl, Nat.zero_add, Nat.add_zero, Option.isSome_some, decide_true, decide_false, pick_bool, pick_int, List.replicate_succ, List.replicate_zero, List.flatMap_cons, List.flatMap_nil, flat, tms, mms, Array.size_empty, dchk, rkOk, isStore, Op.operands, AVal.at, AVal.atR, opCls, clsO, clsW, Option.map_some, List.contains_cons, List.contains_nil, List.isEmpty_nil, List.isEmpty_cons, Int.toNat_natCast, Int.natCast_nonneg, Int.reduceLE, Int.reduceLT, Int.reduceToNat, Nat.reduceLT, Nat.reduceSub, Int.reduceNeg, Int.reduceEq])) ?_
    rintro v M' ⟨rfl, b, rfl⟩
    dsimp only [AS.put]
    (focus (have hF := True.intro; (repeat' (first | refine go0 (k:=?_) | fail)); all_goals clear hF))
    refine Run.cond _ rfl (fun hc => ?_) (fun hc => ?_)
    · (focus (have hF := True.intro; (repeat' (first | refine go0 (k:=?_) | fail)); all_goals clear hF))
      exact Fin.done ⟨_, Wk.own_nil 2 99 3 rfl rfl, 99, 0, rfl, rfl, rfl⟩
    · (focus (have hF := True.intro; (repeat' (first | refine go0 (k:=?_) | fail)); all_goals clear hF))
      exact Fin.done ⟨_, Wk.refl _ _, _, _, rfl, rfl, rfl⟩
  | cons x l =>
    have e1 : encKs (x :: l) = encK x :: encKs l := rfl
    have e2 : (encKs l).length = l.length := encKs_len l
    have hl2 : l.length + 1 ≤ 100000000 := by simpa using hl
    rw [e1]
    (focus (have hF := @e2; (repeat' (first | refine go1 (k:=?_) | with_reducible refine Ny.of ?_ ?_ | (refine Hyp.of ?_; intro hc; (try simp only [hc]); (try simp only [Bh] at hc)))); all_goals clear hF))
    exact Fin.done ⟨_, Wk.refl _ _, _, _, rfl, rfl, encKs_stb (x :: l)⟩
theorem encKs_put {l : List Rec} {i : Nat} {r : Rec} (h : l[i]? = some r) : (encKs l).set i (.agg [.str r.sku, .sl 1 (encIs r.past.vec), .sl 3 (encSs r.past.cloud)]) = encKs l := by
  have hi : i < l.length := by
    rcases Nat.lt_or_ge i l.length with h' | h'
    · exact h'
    · rw [List.getElem?_eq_none h'] at h; cases h
  have e : l.set i r = l := by
    rw [List.getElem?_eq_getElem hi] at h
    rw [← Option.some.inj h, List.set_getElem_self]
  have e2 : (encKs l).set i (encK r) = encKs (l.set i r) := by unfold encKs; rw [List.map_set]
  rw [e] at e2
  exact e2
theorem ev_k48 (s : Swt) (hw : wtS s ≤ 30000000) (hc : CanP s.past) (hr : ∀ r ∈ s.defer, CanR r) : Ev (En Tryz.prog rfl).P 48 [encW s] (.ret (encW s)) := by
  refine Ev.of_body it_k48 (by simp) (Run.start ?_)
  unfold t_k48 encW
  have hS := stbF
  have hcs := stbW s.live s.past.vec s.past.cloud s.defer
  have hlen := wtKs_len s.defer
  have hww := hw
  unfold wtS at hww
  have c1 := ev_cloneEnt s.live (by omega)
  have c2 := ev_k64 s.past (by omega)
  have c3 := ev_cloneRec s.defer (by omega)
  have hn : normP s.past = s.past := hc
  rw [hn] at c2
  have eK := encKs_len s.defer
  (focus (have hF := @hcs; (repeat' (first | refine go1 (k:=?_) | with_reducible refine Ny.of ?_ ?_ | (refine Hyp.of ?_; intro hc; (try simp only [hc]); (try simp only [Bh] at hc)))); all_goals clear hF))
  refine stCall [.sl 4 (encEs s.live)] (he := c1) (k:=?_)
  (focus (have hF := @hcs; (repeat' (first | refine go1 (k:=?_) | with_reducible refine Ny.of ?_ ?_ | (refine Hyp.of ?_; intro hc; (try simp only [hc]); (try simp only [Bh] at hc)))); all_goals clear hF))
  refine stCall [encP s.past] (he := c2) (k:=?_)
  unfold encP
  (focus (have hF := @hcs; (repeat' (first | refine go1 (k:=?_) | with_reducible refine Ny.of ?_ ?_ | (refine Hyp.of ?_; intro hc; (try simp only [hc]); (try simp only [Bh] at hc)))); all_goals clear hF))
  refine stFresh [.sl 3 (encKs s.defer)] (he := c3) (k:=?_)
  (focus (have hF := (And.intro @hcs @eK); (repeat' (first | refine go1 (k:=?_) | with_reducible refine Ny.of ?_ ?_ | (refine Hyp.of ?_; intro hc; (try simp only [hc]); (try simp only [Bh] at hc)))); all_goals clear hF))
  have hoff : ∀ a b c, offL [(2, a), (3, b), (14, c)] 14 = false := fun _ _ _ => rfl
  refine Run.while (σ := Nat) (fun i => ⟨tms [(2, .ptr 2 0), (3, .ptr 3 0), (17, .os 14 0), (18, .int .i64 (s.defer.length : Int)), (19, .int .i64 (i : Int))], mms [(2, .cells [.nil, .nil, .nil, .nil]), (3, .cells [.sl 4 (encEs s.live), .sl 1 (encIs s.past.vec), .sl 3 (encSs s.past.cloud), .os 14 0]), (14, .arr 0 3 (encKs s.defer))]⟩)
    (fun i => i ≤ s.defer.length) (fun i => s.defer.length - i) 0 (have hW := (And.intro @encEs_stb (And.intro @encKs_stb @hoff)); stWk) (Nat.zero_le _) ?_
  intro i hi
  unfold t_k48_l1
  by_cases hlt : i < s.defer.length
  · obtain ⟨r, hrr⟩ : ∃ r, s.defer[i]? = some r := ⟨s.defer[i], by simp [hlt]⟩
    have g1 := encKs_get hrr
    have hrl := List.mem_of_getElem? hrr
    have hwr := wtK_le hrl
    unfold wtK at hwr
    have c4 := ev_k64 r.past (by omega)
    have hn2 : normP r.past = r.past := hr r hrl
    rw [hn2] at c4
    have hput := encKs_put hrr
    (focus (have hF := (And.intro @eK @g1); (repeat' (first | refine go1 (k:=?_) | with_reducible refine Ny.of ?_ ?_ | (refine Hyp.of ?_; intro hc; (try simp only [hc]); (try simp only [Bh] at hc)))); all_goals clear hF))
    refine stCall [encP r.past] (he := c4) (k:=?_)
    unfold encP
    (focus (have hF := (And.intro @eK @g1); (repeat' (first | refine go1 (k:=?_) | with_reducible refine Ny.of ?_ ?_ | (refine Hyp.of ?_; intro hc; (try simp only [hc]); (try simp only [Bh] at hc)))); all_goals clear hF))
    (refine Fin.nextW (i + 1) ?_ (have hW := (And.intro (And.intro @encEs_stb @encKs_stb) (And.intro @hput @hoff)); stWk); (try dsimp only))
    omega
  · (focus (have hF := @eK; (repeat' (first | refine go1 (k:=?_) | with_reducible refine Ny.of ?_ ?_ | (refine Hyp.of ?_; intro hc; (try simp only [hc]); (try simp only [Bh] at hc)))); all_goals clear hF))
    exact Fin.all (xs := [encW s]) (by with_unfolding_all rfl) (by simp [stbs, encW_stb]) rfl
theorem encRs_set (l : List Rn) (i : Nat) (a b : Int) : (encRs l).set i (.agg [.int .i64 a, .int .i64 b]) = encRs (l.set i (a, b)) := by
  unfold encRs
  rw [List.map_set]
  rfl

def r_k91_1 : List SOp := [⟨some 1,.box 29 (.tmp 0),none⟩,⟨some 2,.assign (.const (.bool false)),none⟩]
instance : Live r_k91_1 := ⟨[0]⟩
def r_k91_2 : List SOp := [⟨some 3,.fieldAddr 29 (.tmp 1) 0,none⟩,⟨some 4,.load 22 (.tmp 3),none⟩,⟨some 5,.call ⟨.value (.func 53),#[.tmp 4],#[22]⟩,none⟩,⟨some 6,.binOp .eql 32 (.tmp 5) (.const (.int .i64 0)) 32,none⟩,⟨some 7,.move (.tmp 6),none⟩,⟨some 8,.fieldAddr 29 (.tmp 1) 1,some ((some 7),true)⟩,⟨some 9,.load 26 (.tmp 8),some ((some 7),true)⟩,⟨some 10,.call ⟨.value (.func 54),#[.tmp 9],#[26]⟩,some ((some 7),true)⟩,⟨some 11,.pick (.tmp 7) (.tmp 10) (.const (.bool false)),none⟩,⟨some 12,.move (.tmp 11),none⟩,⟨some 13,.fieldAddr 29 (.tmp 1) 2,some ((some 12),true)⟩,⟨some 14,.load 27 (.tmp 13),some ((some 12),true)⟩,⟨some 15,.call ⟨.value (.func 55),#[.tmp 14],#[27]⟩,some ((some 12),true)⟩,⟨some 16,.binOp .eql 32 (.tmp 15) (.const (.int .i64 0)) 32,some ((some 12),true)⟩,⟨some 17,.pick (.tmp 12) (.tmp 16) (.const (.bool false)),none⟩,⟨some 2,.assign (.tmp 17),none⟩]
instance : Live r_k91_2 := ⟨[1]⟩
def t_k91 : SC :=
  (.seq (.ops false r_k91_1) (.seq (.ops false r_k91_2) .ret))
theorem it_k91 : FnIs Tryz.prog 91 18 [.tmp 2] t_k91 := ⟨Tryz.f91, _, Tryz.func91, rfl, rfl, rfl, rfl, by kernel_rfl⟩

def r_k46_1 : List SOp := [⟨some 1,.box 29 (.tmp 0),none⟩,⟨some 2,.assign (.const (.int .i64 0)),none⟩]
instance : Live r_k46_1 := ⟨[0]⟩
def r_k46_2 : List SOp := [⟨some 5,.load 29 (.tmp 1),none⟩,⟨some 6,.call ⟨.value (.func 91),#[.tmp 5],#[29]⟩,none⟩,⟨some 7,.unOp .not 4 (.tmp 6),none⟩]
instance : Live r_k46_2 := ⟨[1]⟩
def r_k46_3 : List SOp := [⟨some 2,.assign (.const (.int .i64 1)),none⟩]
instance : Live r_k46_3 := ⟨[]⟩
def r_k46_4 : List SOp := [⟨some 8,.fieldAddr 29 (.tmp 1) 1,none⟩,⟨some 9,.load 26 (.tmp 8),none⟩,⟨some 10,.call ⟨.value (.func 92),#[.tmp 9],#[26]⟩,none⟩,⟨some 3,.assign (.tmp 10),none⟩]
instance : Live r_k46_4 := ⟨[1]⟩
def r_k46_5 : List SOp := [⟨some 12,.fieldAddr 29 (.tmp 1) 0,none⟩,⟨some 13,.load 22 (.tmp 12),none⟩,⟨some 14,.call ⟨.builtin .len,#[.tmp 13],#[22]⟩,none⟩,⟨some 15,.binOp .eql 3 (.tmp 14) (.const (.int .i64 1)) 3,none⟩,⟨some 16,.move (.tmp 15),none⟩,⟨some 17,.fieldAddr 29 (.tmp 1) 2,some ((some 16),true)⟩,⟨some 18,.load 27 (.tmp 17),some ((some 16),true)⟩,⟨some 19,.call ⟨.builtin .len,#[.tmp 18],#[27]⟩,some ((some 16),true)⟩,⟨some 20,.binOp .eql 3 (.tmp 19) (.const (.int .i64 0)) 3,some ((some 16),true)⟩,⟨some 21,.pick (.tmp 16) (.tmp 20) (.const (.bool false)),none⟩,⟨some 11,.assign (.tmp 21),none⟩]
instance : Live r_k46_5 := ⟨[1,3]⟩
def r_k46_6 : List SOp := [⟨some 22,.fieldAddr 29 (.tmp 1) 0,none⟩,⟨some 23,.load 22 (.tmp 22),none⟩,⟨some 24,.indexAddr 22 (.tmp 23) (.const (.int .i64 0)),none⟩,⟨some 25,.fieldAddr 62 (.tmp 24) 0,none⟩,⟨some 26,.load 41 (.tmp 25),none⟩,⟨some 4,.alloc 41,none⟩,⟨none,.store 41 (.tmp 4) (.tmp 26),none⟩]
instance : Live r_k46_6 := ⟨[1]⟩
def r_k46_7 : List SOp := [⟨some 27,.fieldAddr 29 (.tmp 1) 1,none⟩,⟨some 28,.load 26 (.tmp 27),none⟩,⟨some 29,.fieldAddr 41 (.tmp 4) 0,none⟩,⟨some 30,.load 3 (.tmp 29),none⟩,⟨some 31,.call ⟨.value (.func 93),#[.tmp 28,.tmp 30],#[26,3]⟩,none⟩,⟨some 32,.fieldAddr 41 (.tmp 4) 1,none⟩,⟨some 33,.load 3 (.tmp 32),none⟩,⟨some 34,.binOp .lss 3 (.tmp 31) (.tmp 33) 3,none⟩]
instance : Live r_k46_7 := ⟨[1,4]⟩
def r_k46_8 : List SOp := [⟨some 2,.assign (.const (.int .i64 0)),none⟩]
instance : Live r_k46_8 := ⟨[]⟩
def r_k46_9 : List SOp := [⟨some 36,.fieldAddr 29 (.tmp 1) 0,none⟩,⟨some 37,.load 22 (.tmp 36),none⟩,⟨some 38,.call ⟨.builtin .len,#[.tmp 37],#[22]⟩,none⟩,⟨some 39,.binOp .eql 3 (.tmp 38) (.const (.int .i64 0)) 3,none⟩,⟨some 40,.move (.tmp 39),none⟩,⟨some 41,.fieldAddr 29 (.tmp 1) 2,some ((some 40),true)⟩,⟨some 42,.load 27 (.tmp 41),some ((some 40),true)⟩,⟨some 43,.call ⟨.builtin .len,#[.tmp 42],#[27]⟩,some ((some 40),true)⟩,⟨some 44,.binOp .eql 3 (.tmp 43) (.const (.int .i64 0)) 3,some ((some 40),true)⟩,⟨some 45,.pick (.tmp 40) (.tmp 44) (.const (.bool false)),none⟩,⟨some 35,.assign (.tmp 45),none⟩]
instance : Live r_k46_9 := ⟨[1,3]⟩
def r_k46_10 : List SOp := [⟨some 2,.assign (.const (.int .i64 0)),none⟩]
instance : Live r_k46_10 := ⟨[]⟩
def r_k46_11 : List SOp := [⟨some 47,.fieldAddr 29 (.tmp 1) 0,none⟩,⟨some 48,.load 22 (.tmp 47),none⟩,⟨some 49,.call ⟨.builtin .len,#[.tmp 48],#[22]⟩,none⟩,⟨some 50,.binOp .eql 3 (.tmp 49) (.const (.int .i64 0)) 3,none⟩,⟨some 51,.move (.tmp 50),none⟩,⟨some 52,.fieldAddr 29 (.tmp 1) 2,some ((some 51),true)⟩,⟨some 53,.load 27 (.tmp 52),some ((some 51),true)⟩,⟨some 54,.call ⟨.builtin .len,#[.tmp 53],#[27]⟩,some ((some 51),true)⟩,⟨some 55,.binOp .eql 3 (.tmp 54) (.const (.int .i64 1)) 3,some ((some 51),true)⟩,⟨some 56,.pick (.tmp 51) (.tmp 55) (.const (.bool false)),none⟩,⟨some 57,.move (.tmp 56),none⟩,⟨some 58,.move (.tmp 3),some ((some 57),true)⟩,⟨some 59,.pick (.tmp 57) (.tmp 58) (.const (.bool false)),none⟩,⟨some 46,.assign (.tmp 59),none⟩]
instance : Live r_k46_11 := ⟨[1,3]⟩
def r_k46_12 : List SOp := [⟨some 2,.assign (.const (.int .i64 0)),none⟩]
instance : Live r_k46_12 := ⟨[]⟩
def r_k46_13 : List SOp := [⟨some 2,.assign (.const (.int .i64 2)),none⟩]
instance : Live r_k46_13 := ⟨[]⟩
def t_k46 : SC :=
  (.seq (.ops false r_k46_1) (.seq (.seq (.ops false r_k46_2) (.cond (.tmp 7) (.seq (.ops false r_k46_3) .ret) .skip)) (.seq (.ops false r_k46_4) (.seq (.block 0 (.seq (.ops false r_k46_5) (.cond (.tmp 11) (.seq (.ops false r_k46_6) (.seq (.ops true r_k46_7) (.cond (.tmp 34) (.seq (.ops false r_k46_8) .ret) .skip))) (.seq (.ops false r_k46_9) (.cond (.tmp 35) (.seq (.ops false r_k46_10) .ret) (.seq (.ops false r_k46_11) (.cond (.tmp 46) (.seq (.ops false r_k46_12) .ret) .skip))))))) (.seq (.ops false r_k46_13) .ret)))))
theorem it_k46 : FnIs Tryz.prog 46 60 [.tmp 2] t_k46 := ⟨Tryz.f46, _, Tryz.func46, rfl, rfl, rfl, rfl, by kernel_rfl⟩

def r_k13_1 : List SOp := [⟨some 1,.box 29 (.tmp 0),none⟩,⟨some 2,.alloc 31,none⟩,⟨some 3,.assign (.const (.int .i64 0)),none⟩]
instance : Live r_k13_1 := ⟨[0]⟩
def r_k13_2 : List SOp := [⟨some 7,.load 29 (.tmp 1),none⟩,⟨some 8,.call ⟨.value (.func 46),#[.tmp 7],#[29]⟩,none⟩,⟨some 4,.assign (.tmp 8),none⟩]
instance : Live r_k13_2 := ⟨[1,2]⟩
def r_k13_3 : List SOp := [⟨some 9,.move (.tmp 4),none⟩,⟨some 10,.binOp .neq 32 (.tmp 9) (.const (.int .i64 0)) 32,none⟩]
instance : Live r_k13_3 := ⟨[1,2,4]⟩
def r_k13_4 : List SOp := [⟨some 11,.build 31 #[],none⟩,⟨some 12,.move (.tmp 4),none⟩,⟨none,.store 31 (.tmp 2) (.tmp 11),none⟩,⟨some 3,.assign (.tmp 12),none⟩]
instance : Live r_k13_4 := ⟨[2,4]⟩
def r_k13_5 : List SOp := [⟨some 14,.fieldAddr 29 (.tmp 1) 0,none⟩,⟨some 15,.load 22 (.tmp 14),none⟩,⟨some 16,.call ⟨.value (.func 47),#[.tmp 15],#[22]⟩,none⟩,⟨some 13,.move (.tmp 16),none⟩,⟨some 17,.extract (.tmp 13) 0,none⟩,⟨some 18,.extract (.tmp 13) 1,none⟩,⟨some 5,.alloc 26,none⟩,⟨none,.store 26 (.tmp 5) (.tmp 17),none⟩,⟨some 6,.assign (.tmp 18),none⟩]
instance : Live r_k13_5 := ⟨[1,2]⟩
def r_k13_6 : List SOp := [⟨some 19,.fieldAddr 29 (.tmp 1) 0,none⟩,⟨some 20,.load 22 (.tmp 19),none⟩,⟨some 21,.load 26 (.tmp 5),none⟩,⟨some 22,.fieldAddr 29 (.tmp 1) 1,none⟩,⟨some 23,.load 26 (.tmp 22),none⟩,⟨some 24,.buildSlice 116 2 #[(0,.tmp 21),(1,.tmp 23)],none⟩,⟨some 25,.call ⟨.value (.func 49),#[.tmp 24],#[116]⟩,none⟩,⟨some 26,.fieldAddr 29 (.tmp 1) 2,none⟩,⟨some 27,.load 27 (.tmp 26),none⟩,⟨some 28,.build 31 #[(0,.tmp 20),(1,.tmp 25),(2,.tmp 27)],none⟩,⟨some 29,.call ⟨.value (.func 48),#[.tmp 28],#[31]⟩,none⟩,⟨none,.store 31 (.tmp 2) (.tmp 29),none⟩,⟨some 3,.assign (.const (.int .i64 0)),none⟩]
instance : Live r_k13_6 := ⟨[1,2,5]⟩
def t_k13 : SC :=
  (.seq (.ops false r_k13_1) (.seq (.seq (.ops false r_k13_2) (.seq (.ops false r_k13_3) (.cond (.tmp 10) (.seq (.ops false r_k13_4) .ret) .skip))) (.seq (.ops false r_k13_5) (.seq (.ops true r_k13_6) .ret))))
theorem it_k13 : FnIs Tryz.prog 13 30 [.cell 2 31, .tmp 3] t_k13 := ⟨Tryz.f13, _, Tryz.func13, rfl, rfl, rfl, rfl, by kernel_rfl⟩

def fillD (l : List Ent) (i : Nat) : List Rn := (l.take i).map Ent.dot ++ List.replicate (l.length - i) (0, 0)
theorem fillD_zero (l : List Ent) : fillD l 0 = List.replicate l.length (0, 0) := by simp [fillD]
theorem fillD_len {l : List Ent} {i : Nat} (h : i ≤ l.length) : (fillD l i).length = l.length := by simp [fillD]; omega
theorem fillD_all (l : List Ent) : fillD l l.length = l.map Ent.dot := by simp [fillD]
theorem fillD_set {l : List Ent} {i : Nat} {e : Ent} (h : l[i]? = some e) : (fillD l i).set i e.dot = fillD l (i + 1) := by
  have hi : i < l.length := by
    rcases Nat.lt_or_ge i l.length with h' | h'
    · exact h'
    · rw [List.getElem?_eq_none h'] at h; cases h
  unfold fillD
  rw [List.set_append_right _ _ (by simp; omega), List.take_add_one, h, List.map_append, List.append_assoc]
  congr 1
  have : l.length - i = l.length - (i + 1) + 1 := by omega
  rw [this, List.replicate_succ]
  simp [show i - min i l.length = 0 by omega]
theorem encRs_rep (n : Nat) : List.replicate n (AVal.agg [.int .i64 0, .int .i64 0]) = encRs (List.replicate n (0, 0)) := by simp [encRs, encR]
theorem ev_k47 (l : List Ent) (hl : l.length ≤ 10000000) : Ev (En Tryz.prog rfl).P 47 [.sl 4 (encEs l)] (.ret (.tup [encP (if formE l = true then dotsP l else ⟨[], []⟩), .int .i64 (if formE l = true then 0 else 1)])) := by
  refine Ev.of_body it_k47 (by simp) (AW.wkEnd (Run.start ?_))
  unfold t_k47
  have e1 := encEs_len l
  have hS := stbF
  have c1 := ev_k53 l (by omega)
  by_cases hf : formE l = true
  case' neg =>
    rw [if_neg hf] at c1
    rw [if_neg hf, if_neg hf]
    (focus (have hF := @e1; (repeat' (first | refine go1 (k:=?_) | with_reducible refine Ny.of ?_ ?_ | (refine Hyp.of ?_; intro hc; (try simp only [hc]); (try simp only [Bh] at hc)))); all_goals clear hF))
    refine stCall [.sl 4 (encEs l)] (he := c1) (k:=?_)
    (focus (have hF := @e1; (repeat' (first | refine go1 (k:=?_) | with_reducible refine Ny.of ?_ ?_ | (refine Hyp.of ?_; intro hc; (try simp only [hc]); (try simp only [Bh] at hc)))); all_goals clear hF))
    exact Fin.done ⟨_, Wk.cells_nil (k := 2) rfl sub2, _, by with_unfolding_all rfl, rfl, _, subs_refl _, rfl⟩
  case' pos =>
    rw [if_pos hf] at c1
    rw [if_pos hf, if_pos hf]
    have hz := fillD_zero l
    have er := encRs_rep l.length
    (focus (have hF := (And.intro @e1 @er); (repeat' (first | refine go1 (k:=?_) | with_reducible refine Ny.of ?_ ?_ | (refine Hyp.of ?_; intro hc; (try simp only [hc]); (try simp only [Bh] at hc)))); all_goals clear hF))
    refine stCall [.sl 4 (encEs l)] (he := c1) (k:=?_)
    (focus (have hF := (And.intro @e1 @er); (repeat' (first | refine go1 (k:=?_) | with_reducible refine Ny.of ?_ ?_ | (refine Hyp.of ?_; intro hc; (try simp only [hc]); (try simp only [Bh] at hc)))); all_goals clear hF))
    rw [← hz]
    refine Run.while (σ := Nat) (fun i => ⟨tms [(2, .ptr 2 0), (4, .os 13 0), (14, .sl 4 (encEs l)), (15, .int .i64 (l.length : Int)), (16, .int .i64 (i : Int))], mms [(2, .cells [.nil, .nil]), (13, .arr 0 2 (encRs (fillD l i)))]⟩)
      (fun i => i ≤ l.length) (fun i => l.length - i) 0 (have hW := @encEs_stb; stWk) (Nat.zero_le _) ?_
    intro i hi
    unfold t_k47_l1
    by_cases hlt : i < l.length
    · obtain ⟨e, he⟩ : ∃ e, l[i]? = some e := ⟨l[i], by simp [hlt]⟩
      have g1 := encEs_get he
      have hfs := fillD_set he
      have hfl := fillD_len hi
      have e3 := encRs_len (fillD l i)
      rw [hfl] at e3
      obtain ⟨d0, hd0⟩ : ∃ d, (fillD l i)[i]? = some d := ⟨(fillD l i)[i]'(by omega), by simp [show i < (fillD l i).length by omega]⟩
      have g2 : (encRs (fillD l i))[i]? = some (.agg [.int .i64 d0.1, .int .i64 d0.2]) := encRs_get hd0
      have hst : (encRs (fillD l i)).set i (.agg [.int .i64 e.rep, .int .i64 e.num]) = encRs (fillD l (i + 1)) := by rw [← hfs]; exact encRs_set _ _ _ _
      (focus (have hF := (And.intro (And.intro @e1 @e3) (And.intro @g1 @g2)); (repeat' (first | refine go1 (k:=?_) | with_reducible refine Ny.of ?_ ?_ | (refine Hyp.of ?_; intro hc; (try simp only [hc]); (try simp only [Bh] at hc)))); all_goals clear hF))
      (refine Fin.nextW (i + 1) ?_ (have hW := (And.intro @encEs_stb @hst); stWk); (try dsimp only))
      omega
    · have hie : i = l.length := by omega
      subst hie
      rw [fillD_all]
      have c2 := ev_k94 (l.map Ent.dot) (by simp; omega)
      (focus (have hF := @e1; (repeat' (first | refine go1 (k:=?_) | with_reducible refine Ny.of ?_ ?_ | (refine Hyp.of ?_; intro hc; (try simp only [hc]); (try simp only [Bh] at hc)))); all_goals clear hF))
      refine stGive (fun j => j == 13) [.sl 2 (encRs (l.map Ent.dot))] (he := c2) (k:=?_)
      (focus (have hF := @e1; (repeat' (first | refine go1 (k:=?_) | with_reducible refine Ny.of ?_ ?_ | (refine Hyp.of ?_; intro hc; (try simp only [hc]); (try simp only [Bh] at hc)))); all_goals clear hF))
      exact Fin.done ⟨_, Wk.refl _ _, [encP (dotsP l), .int .i64 0], by with_unfolding_all rfl, by simp [stbs, encP_stb, AVal.stb], _, subs_refl _, rfl⟩
open Classical in
noncomputable def formF (f : Fct) : Bool := decide (FormF f)
theorem formF_true {f : Fct} (h : FormF f) : formF f = true := by classical exact decide_eq_true h
theorem formF_false {f : Fct} (h : ¬ FormF f) : formF f = false := by classical exact decide_eq_false h
theorem formF_checks {f : Fct} : FormF f ↔ formE f.adds = true ∧ isNormP f.gone = true ∧ formK f.recs = true := by
  rw [formE_iff, isNormP_iff, formK_iff]
  exact ⟨fun h => ⟨h.adds, h.gone, h.recs⟩, fun h => ⟨h.1, h.2.1, h.2.2⟩⟩
theorem wtF_parts {f : Fct} {W : Nat} (h : wtF f ≤ W) : f.adds.length ≤ W ∧ wt f.gone ≤ W ∧ f.recs.length ≤ W ∧ wtKs f.recs ≤ W ∧ ∀ r ∈ f.recs, wt r.past ≤ W := by
  unfold wtF at h
  have := wtKs_len f.recs
  exact ⟨by omega, by omega, by omega, by omega, fun r hr => by have := wtK_le hr; unfold wtK at this; omega⟩
theorem wtS_parts {s : Swt} {W : Nat} (h : wtS s ≤ W) : s.live.length ≤ W ∧ wt s.past ≤ W ∧ s.defer.length ≤ W ∧ wtKs s.defer ≤ W ∧ ∀ r ∈ s.defer, wt r.past ≤ W := by
  unfold wtS at h
  have := wtKs_len s.defer
  exact ⟨by omega, by omega, by omega, by omega, fun r hr => by have := wtK_le hr; unfold wtK at this; omega⟩
theorem ev_k91 (f : Fct) (hw : wtF f ≤ 30000000) : Ev (En Tryz.prog rfl).P 91 [encF f] (.ret (.bool (formF f))) := by
  refine Ev.of_body it_k91 (by simp) (Run.start ?_)
  unfold t_k91 encF
  obtain ⟨w1, w2, w3, w4, w5⟩ := wtF_parts hw
  have hS := stbF
  have hcs := stbW f.adds f.gone.vec f.gone.cloud f.recs
  have c1 := ev_k53 f.adds (by omega)
  have c2 := ev_k54 f.gone (by omega)
  have c3 := ev_keepCheckW f.recs (by omega) (fun r hr => by have := w5 r hr; omega)
  have hch := formF_checks (f := f)
  by_cases h1 : formE f.adds = true
  · rw [if_pos h1] at c1
    by_cases h2 : isNormP f.gone = true
    · rw [h2] at c2
      by_cases h3 : formK f.recs = true
      · rw [if_pos h3] at c3
        rw [formF_true (hch.2 ⟨h1, h2, h3⟩)]
        (focus (have hF := @hcs; (repeat' (first | refine go1 (k:=?_) | with_reducible refine Ny.of ?_ ?_ | (refine Hyp.of ?_; intro hc; (try simp only [hc]); (try simp only [Bh] at hc)))); all_goals clear hF))
        refine stCall [.sl 4 (encEs f.adds)] (he := c1) (k:=?_)
        (focus (have hF := @hcs; (repeat' (first | refine go1 (k:=?_) | with_reducible refine Ny.of ?_ ?_ | (refine Hyp.of ?_; intro hc; (try simp only [hc]); (try simp only [Bh] at hc)))); all_goals clear hF))
        refine stCall [encP f.gone] (he := c2) (k:=?_)
        (focus (have hF := @hcs; (repeat' (first | refine go1 (k:=?_) | with_reducible refine Ny.of ?_ ?_ | (refine Hyp.of ?_; intro hc; (try simp only [hc]); (try simp only [Bh] at hc)))); all_goals clear hF))
        refine stCall [.sl 3 (encKs f.recs)] (he := c3) (k:=?_)
        (focus (have hF := @hcs; (repeat' (first | refine go1 (k:=?_) | with_reducible refine Ny.of ?_ ?_ | (refine Hyp.of ?_; intro hc; (try simp only [hc]); (try simp only [Bh] at hc)))); all_goals clear hF))
        exact Fin.tmp' rfl rfl
      · rw [if_neg h3] at c3
        rw [formF_false (fun h => h3 (hch.1 h).2.2)]
        (focus (have hF := @hcs; (repeat' (first | refine go1 (k:=?_) | with_reducible refine Ny.of ?_ ?_ | (refine Hyp.of ?_; intro hc; (try simp only [hc]); (try simp only [Bh] at hc)))); all_goals clear hF))
        refine stCall [.sl 4 (encEs f.adds)] (he := c1) (k:=?_)
        (focus (have hF := @hcs; (repeat' (first | refine go1 (k:=?_) | with_reducible refine Ny.of ?_ ?_ | (refine Hyp.of ?_; intro hc; (try simp only [hc]); (try simp only [Bh] at hc)))); all_goals clear hF))
        refine stCall [encP f.gone] (he := c2) (k:=?_)
        (focus (have hF := @hcs; (repeat' (first | refine go1 (k:=?_) | with_reducible refine Ny.of ?_ ?_ | (refine Hyp.of ?_; intro hc; (try simp only [hc]); (try simp only [Bh] at hc)))); all_goals clear hF))
        refine stCall [.sl 3 (encKs f.recs)] (he := c3) (k:=?_)
        (focus (have hF := @hcs; (repeat' (first | refine go1 (k:=?_) | with_reducible refine Ny.of ?_ ?_ | (refine Hyp.of ?_; intro hc; (try simp only [hc]); (try simp only [Bh] at hc)))); all_goals clear hF))
        exact Fin.tmp' rfl rfl
    · rw [show isNormP f.gone = false by simpa using h2] at c2
      rw [formF_false (fun h => h2 (hch.1 h).2.1)]
      (focus (have hF := @hcs; (repeat' (first | refine go1 (k:=?_) | with_reducible refine Ny.of ?_ ?_ | (refine Hyp.of ?_; intro hc; (try simp only [hc]); (try simp only [Bh] at hc)))); all_goals clear hF))
      refine stCall [.sl 4 (encEs f.adds)] (he := c1) (k:=?_)
      (focus (have hF := @hcs; (repeat' (first | refine go1 (k:=?_) | with_reducible refine Ny.of ?_ ?_ | (refine Hyp.of ?_; intro hc; (try simp only [hc]); (try simp only [Bh] at hc)))); all_goals clear hF))
      refine stCall [encP f.gone] (he := c2) (k:=?_)
      (focus (have hF := @hcs; (repeat' (first | refine go1 (k:=?_) | with_reducible refine Ny.of ?_ ?_ | (refine Hyp.of ?_; intro hc; (try simp only [hc]); (try simp only [Bh] at hc)))); all_goals clear hF))
      exact Fin.tmp' rfl rfl
  · rw [if_neg h1] at c1
    rw [formF_false (fun h => h1 (hch.1 h).1)]
    (focus (have hF := @hcs; (repeat' (first | refine go1 (k:=?_) | with_reducible refine Ny.of ?_ ?_ | (refine Hyp.of ?_; intro hc; (try simp only [hc]); (try simp only [Bh] at hc)))); all_goals clear hF))
    refine stCall [.sl 4 (encEs f.adds)] (he := c1) (k:=?_)
    (focus (have hF := @hcs; (repeat' (first | refine go1 (k:=?_) | with_reducible refine Ny.of ?_ ?_ | (refine Hyp.of ?_; intro hc; (try simp only [hc]); (try simp only [Bh] at hc)))); all_goals clear hF))
    exact Fin.tmp' rfl rfl
theorem evErr_bad {f : Fct} (h : ¬ FormF f) : evErr f = 1 := by unfold evErr; rw [if_pos h]
theorem evErr_form {f : Fct} (h : FormF f) : evErr f = match f.adds, f.recs with
  | [e], [] => if lastP f.gone e.rep < e.num then 0 else 2
  | [], [] => 0
  | [], [_] => if sizeP f.gone = 0 then 0 else 2
  | _, _ => 2 := by
  unfold evErr
  rw [if_neg (fun h' => h' h)]
  all_goals (rcases f.adds with _ | ⟨e, _ | ⟨e2, t⟩⟩ <;> rcases f.recs with _ | ⟨r, _ | ⟨r2, t2⟩⟩ <;> rfl)
theorem ev_k46 (f : Fct) (hw : wtF f ≤ 30000000) : Ev (En Tryz.prog rfl).P 46 [encF f] (.ret (.int .i64 (evErr f))) := by
  refine Ev.of_body it_k46 (by simp) (Run.start ?_)
  unfold t_k46
  obtain ⟨w1, w2, w3, w4, w5⟩ := wtF_parts hw
  have hS := stbF
  have c1 := ev_k91 f hw
  unfold encF at c1 ⊢
  have hcs := stbW f.adds f.gone.vec f.gone.cloud f.recs
  have c2 := ev_k92 f.gone (by omega)
  by_cases hf : FormF f
  case' neg =>
    rw [formF_false hf] at c1
    rw [evErr_bad hf]
    (focus (have hF := @hcs; (repeat' (first | refine go1 (k:=?_) | with_reducible refine Ny.of ?_ ?_ | (refine Hyp.of ?_; intro hc; (try simp only [hc]); (try simp only [Bh] at hc)))); all_goals clear hF))
    refine stCall [encF f] (he := c1) (k:=?_)
    (focus (have hF := @hcs; (repeat' (first | refine go1 (k:=?_) | with_reducible refine Ny.of ?_ ?_ | (refine Hyp.of ?_; intro hc; (try simp only [hc]); (try simp only [Bh] at hc)))); all_goals clear hF))
    exact Fin.tmp' rfl rfl
  case' pos =>
    rw [formF_true hf] at c1
    rw [evErr_form hf]
    have ea := encEs_len f.adds
    have er := encKs_len f.recs
    have hcs' := hcs
    generalize hA : f.adds = A at *
    generalize hR : f.recs = R at *
    rcases A with _ | ⟨e, _ | ⟨e2, t⟩⟩ <;> rcases R with _ | ⟨r, _ | ⟨r2, t2⟩⟩
    all_goals
      simp only [List.length_nil, List.length_cons, Nat.zero_add] at ea er
      (focus (have hF := (And.intro @hcs (And.intro @ea @er)); (repeat' (first | refine go1 (k:=?_) | with_reducible refine Ny.of ?_ ?_ | (refine Hyp.of ?_; intro hc; (try simp only [hc]); (try simp only [Bh] at hc)))); all_goals clear hF))
      refine stCall [_] (he := c1) (k:=?_)
      (focus (have hF := (And.intro @hcs (And.intro @ea @er)); (repeat' (first | refine go1 (k:=?_) | with_reducible refine Ny.of ?_ ?_ | (refine Hyp.of ?_; intro hc; (try simp only [hc]); (try simp only [Bh] at hc)))); all_goals clear hF))
      refine stCall [encP f.gone] (he := c2) (k:=?_)
    · (focus (have hF := (And.intro @hcs (And.intro @ea @er)); (repeat' (first | refine go1 (k:=?_) | with_reducible refine Ny.of ?_ ?_ | (refine Hyp.of ?_; intro hc; (try simp only [hc]); (try simp only [Bh] at hc)))); all_goals clear hF))
      exact Fin.tmp' rfl rfl
    · by_cases hs : sizeP f.gone = 0
      · simp only [hs, if_true, decide_true]
        (focus (have hF := (And.intro @hcs (And.intro @ea @er)); (repeat' (first | refine go1 (k:=?_) | with_reducible refine Ny.of ?_ ?_ | (refine Hyp.of ?_; intro hc; (try simp only [hc]); (try simp only [Bh] at hc)))); all_goals clear hF))
        exact Fin.tmp' rfl rfl
      · simp only [hs, if_false, decide_false]
        (focus (have hF := (And.intro @hcs (And.intro @ea @er)); (repeat' (first | refine go1 (k:=?_) | with_reducible refine Ny.of ?_ ?_ | (refine Hyp.of ?_; intro hc; (try simp only [hc]); (try simp only [Bh] at hc)))); all_goals clear hF))
        exact Fin.tmp' rfl rfl
    · (focus (have hF := (And.intro @hcs (And.intro @ea @er)); (repeat' (first | refine go1 (k:=?_) | with_reducible refine Ny.of ?_ ?_ | (refine Hyp.of ?_; intro hc; (try simp only [hc]); (try simp only [Bh] at hc)))); all_goals clear hF))
      all_goals first | (exfalso; omega) | exact Fin.tmp' rfl rfl
    · have g1 : (encEs [e])[0]? = some (.agg [.int .i64 e.rep, .int .i64 e.num, .str e.sku, .int .i64 e.qty]) := rfl
      have c3 := ev_k93 f.gone e.rep (by omega)
      (focus (have hF := (And.intro (And.intro @hcs @ea) (And.intro @er @g1)); (repeat' (first | refine go1 (k:=?_) | with_reducible refine Ny.of ?_ ?_ | (refine Hyp.of ?_; intro hc; (try simp only [hc]); (try simp only [Bh] at hc)))); all_goals clear hF))
      refine stCall [encP f.gone, .int .i64 e.rep] (he := c3) (k:=?_)
      by_cases hl : lastP f.gone e.rep < e.num
      · simp only [hl, if_true]
        (focus (have hF := (And.intro @hcs (And.intro @ea @er)); (repeat' (first | refine go1 (k:=?_) | with_reducible refine Ny.of ?_ ?_ | (refine Hyp.of ?_; intro hc; (try simp only [hc]); (try simp only [Bh] at hc)))); all_goals clear hF))
        exact Fin.tmp' rfl rfl
      · simp only [hl, if_false]
        (focus (have hF := (And.intro @hcs (And.intro @ea @er)); (repeat' (first | refine go1 (k:=?_) | with_reducible refine Ny.of ?_ ?_ | (refine Hyp.of ?_; intro hc; (try simp only [hc]); (try simp only [Bh] at hc)))); all_goals clear hF))
        exact Fin.tmp' rfl rfl
    all_goals
      (focus (have hF := (And.intro @hcs (And.intro @ea @er)); (repeat' (first | refine go1 (k:=?_) | with_reducible refine Ny.of ?_ ?_ | (refine Hyp.of ?_; intro hc; (try simp only [hc]); (try simp only [Bh] at hc)))); all_goals clear hF))
      all_goals first | (exfalso; omega) | exact Fin.tmp' rfl rfl
theorem dotsP_wt (l : List Ent) : wt (dotsP l) ≤ 16 + l.length := by
  have := ofP_wt (l.map Ent.dot)
  rw [List.length_map] at this
  exact this
open Classical in
noncomputable def evtS (f : Fct) : Swt := if evErr f = 0 then evS f else noS
theorem evErr_ok {f : Fct} (h : evErr f = 0) : FormF f := by
  refine Classical.byContradiction fun hn => ?_
  rw [evErr_bad hn] at h
  omega
theorem ev_k13 (f : Fct) (hw : wtF f ≤ 3000000) : Ev (En Tryz.prog rfl).P 13 [encF f] (.ret (.tup [encW (evtS f), .int .i64 (evErr f)])) := by
  refine Ev.of_body it_k13 (by simp) (AW.wkEnd (Run.start ?_))
  unfold t_k13
  obtain ⟨w1, w2, w3, w4, w5⟩ := wtF_parts hw
  have hS := stbF
  have c1 := ev_k46 f (by omega)
  unfold encF at c1 ⊢
  have hcs := stbW f.adds f.gone.vec f.gone.cloud f.recs
  by_cases he : evErr f = 0
  case' neg =>
    unfold evtS
    rw [if_neg he]
    generalize evErr f = v at *
    (focus (have hF := @hcs; (repeat' (first | refine go1 (k:=?_) | with_reducible refine Ny.of ?_ ?_ | (refine Hyp.of ?_; intro hc; (try simp only [hc]); (try simp only [Bh] at hc)))); all_goals clear hF))
    refine stCall [_] (he := c1) (k:=?_)
    (focus (have hF := @hcs; (repeat' (first | refine go1 (k:=?_) | with_reducible refine Ny.of ?_ ?_ | (refine Hyp.of ?_; intro hc; (try simp only [hc]); (try simp only [Bh] at hc)))); all_goals clear hF))
    exact Fin.done ⟨_, Wk.cells_nil (k := 2) rfl sub4, [encW noS, .int .i64 v], by with_unfolding_all rfl, by simp [stbs, encW_stb, AVal.stb], _, subs_refl _, rfl⟩
  case' pos =>
    have hF := evErr_ok he
    have hfe := formE_true hF.adds
    have c2 := ev_k47 f.adds (by omega)
    rw [if_pos hfe, if_pos hfe] at c2
    have hdw := dotsP_wt f.adds
    have c3 := ev_k49 [dotsP f.adds, f.gone] (show 2 ≤ 1000000000 by omega) (by simp only [List.map_cons, List.map_nil, List.sum_cons, List.sum_nil]; omega)
    have hjw := joinP_wt [dotsP f.adds, f.gone]
    simp only [List.map_cons, List.map_nil, List.sum_cons, List.sum_nil] at hjw
    have hes : evtS f = ⟨f.adds, joinP [dotsP f.adds, f.gone], f.recs⟩ := if_pos he
    have c4 := ev_k48 ⟨f.adds, joinP [dotsP f.adds, f.gone], f.recs⟩ (by unfold wtS; simp only; omega) (canP_join _) (fun r hr => (formK_can hF.recs r hr).1)
    rw [hes, he]
    rw [he] at c1
    clear hes hdw hjw
    generalize joinP [dotsP f.adds, f.gone] = q at *
    generalize dotsP f.adds = d at *
    (focus (have hF := @hcs; (repeat' (first | refine go1 (k:=?_) | with_reducible refine Ny.of ?_ ?_ | (refine Hyp.of ?_; intro hc; (try simp only [hc]); (try simp only [Bh] at hc)))); all_goals clear hF))
    refine stCall [_] (he := c1) (k:=?_)
    (focus (have hF := @hcs; (repeat' (first | refine go1 (k:=?_) | with_reducible refine Ny.of ?_ ?_ | (refine Hyp.of ?_; intro hc; (try simp only [hc]); (try simp only [Bh] at hc)))); all_goals clear hF))
    refine stCall [.sl 4 (encEs f.adds)] (he := c2) (k:=?_)
    unfold encP
    (focus (have hF := @hcs; (repeat' (first | refine go1 (k:=?_) | with_reducible refine Ny.of ?_ ?_ | (refine Hyp.of ?_; intro hc; (try simp only [hc]); (try simp only [Bh] at hc)))); all_goals clear hF))
    refine stCall [.sl 2 (encPs [d, f.gone])] (he := c3) (k:=?_)
    unfold encP
    (focus (have hF := @hcs; (repeat' (first | refine go1 (k:=?_) | with_reducible refine Ny.of ?_ ?_ | (refine Hyp.of ?_; intro hc; (try simp only [hc]); (try simp only [Bh] at hc)))); all_goals clear hF))
    refine stCall [encW ⟨f.adds, q, f.recs⟩] (he := c4) (k:=?_)
    unfold encW
    (focus (have hF := @hcs; (repeat' (first | refine go1 (k:=?_) | with_reducible refine Ny.of ?_ ?_ | (refine Hyp.of ?_; intro hc; (try simp only [hc]); (try simp only [Bh] at hc)))); all_goals clear hF))
    exact Fin.done ⟨_, Wk.refl _ _, [encW ⟨f.adds, q, f.recs⟩, .int .i64 0], by with_unfolding_all rfl, by simp [stbs, encW_stb, AVal.stb], _, subs_refl _, rfl⟩

def r_k115_1 : List SOp := [⟨some 1,.box 62 (.tmp 0),none⟩,⟨some 2,.assign (.const (.bool false)),none⟩]
instance : Live r_k115_1 := ⟨[0]⟩
def r_k115_2 : List SOp := [⟨some 3,.fieldAddr 62 (.tmp 1) 0,none⟩,⟨some 4,.load 41 (.tmp 3),none⟩,⟨some 5,.call ⟨.value (.func 111),#[.tmp 4],#[41]⟩,none⟩,⟨some 6,.move (.tmp 5),none⟩,⟨some 7,.fieldAddr 62 (.tmp 1) 1,some ((some 6),true)⟩,⟨some 8,.load 9 (.tmp 7),some ((some 6),true)⟩,⟨some 9,.call ⟨.value (.func 146),#[.tmp 8],#[9]⟩,some ((some 6),true)⟩,⟨some 10,.pick (.tmp 6) (.tmp 9) (.const (.bool false)),none⟩,⟨some 11,.move (.tmp 10),none⟩,⟨some 12,.fieldAddr 62 (.tmp 1) 2,some ((some 11),true)⟩,⟨some 13,.load 3 (.tmp 12),some ((some 11),true)⟩,⟨some 14,.binOp .geq 3 (.tmp 13) (.const (.int .i64 1)) 3,some ((some 11),true)⟩,⟨some 15,.pick (.tmp 11) (.tmp 14) (.const (.bool false)),none⟩,⟨some 16,.move (.tmp 15),none⟩,⟨some 17,.fieldAddr 62 (.tmp 1) 2,some ((some 16),true)⟩,⟨some 18,.load 3 (.tmp 17),some ((some 16),true)⟩,⟨some 19,.binOp .leq 3 (.tmp 18) (.const (.int .i64 1000000)) 3,some ((some 16),true)⟩,⟨some 20,.pick (.tmp 16) (.tmp 19) (.const (.bool false)),none⟩,⟨some 2,.assign (.tmp 20),none⟩]
instance : Live r_k115_2 := ⟨[1]⟩
def t_k115 : SC :=
  (.seq (.ops false r_k115_1) (.seq (.ops false r_k115_2) .ret))
theorem it_k115 : FnIs Tryz.prog 115 21 [.tmp 2] t_k115 := ⟨Tryz.f115, _, Tryz.func115, rfl, rfl, rfl, rfl, by kernel_rfl⟩

def r_k116_1 : List SOp := [⟨some 2,.box 41 (.tmp 0),none⟩,⟨some 3,.box 41 (.tmp 1),none⟩,⟨some 4,.assign (.const (.bool false)),none⟩]
instance : Live r_k116_1 := ⟨[0,1]⟩
def r_k116_2 : List SOp := [⟨some 5,.fieldAddr 41 (.tmp 2) 0,none⟩,⟨some 6,.load 3 (.tmp 5),none⟩,⟨some 7,.fieldAddr 41 (.tmp 3) 0,none⟩,⟨some 8,.load 3 (.tmp 7),none⟩,⟨some 9,.binOp .lss 3 (.tmp 6) (.tmp 8) 3,none⟩,⟨some 10,.move (.tmp 9),none⟩,⟨some 11,.fieldAddr 41 (.tmp 2) 0,some ((some 10),false)⟩,⟨some 12,.load 3 (.tmp 11),some ((some 10),false)⟩,⟨some 13,.fieldAddr 41 (.tmp 3) 0,some ((some 10),false)⟩,⟨some 14,.load 3 (.tmp 13),some ((some 10),false)⟩,⟨some 15,.binOp .eql 3 (.tmp 12) (.tmp 14) 3,some ((some 10),false)⟩,⟨some 16,.move (.tmp 15),some ((some 10),false)⟩,⟨some 17,.fieldAddr 41 (.tmp 2) 1,some ((some 16),true)⟩,⟨some 18,.load 3 (.tmp 17),some ((some 16),true)⟩,⟨some 19,.fieldAddr 41 (.tmp 3) 1,some ((some 16),true)⟩,⟨some 20,.load 3 (.tmp 19),some ((some 16),true)⟩,⟨some 21,.binOp .lss 3 (.tmp 18) (.tmp 20) 3,some ((some 16),true)⟩,⟨some 22,.pick (.tmp 16) (.tmp 21) (.const (.bool false)),some ((some 10),false)⟩,⟨some 23,.pick (.tmp 10) (.const (.bool true)) (.tmp 22),none⟩,⟨some 4,.assign (.tmp 23),none⟩]
instance : Live r_k116_2 := ⟨[2,3]⟩
def t_k116 : SC :=
  (.seq (.ops false r_k116_1) (.seq (.ops false r_k116_2) .ret))
theorem it_k116 : FnIs Tryz.prog 116 24 [.tmp 4] t_k116 := ⟨Tryz.f116, _, Tryz.func116, rfl, rfl, rfl, rfl, by kernel_rfl⟩

def r_k67_1 : List SOp := [⟨some 2,.assign (.const (.bool false)),none⟩]
instance : Live r_k67_1 := ⟨[0]⟩
def r_k67_2 : List SOp := [⟨some 3,.assign (.const (.int .i64 0)),none⟩]
instance : Live r_k67_2 := ⟨[0]⟩
def r_k67_3 : List SOp := [⟨some 4,.move (.tmp 3),none⟩,⟨some 5,.move (.tmp 0),none⟩,⟨some 6,.call ⟨.builtin .len,#[.tmp 5],#[22]⟩,none⟩,⟨some 7,.binOp .lss 3 (.tmp 4) (.tmp 6) 3,none⟩]
instance : Live r_k67_3 := ⟨[0,3]⟩
def r_k67_4 : List SOp := [⟨some 10,.move (.tmp 0),none⟩,⟨some 11,.move (.tmp 3),none⟩,⟨some 12,.indexAddr 22 (.tmp 10) (.tmp 11),none⟩,⟨some 13,.load 62 (.tmp 12),none⟩,⟨some 14,.call ⟨.value (.func 115),#[.tmp 13],#[62]⟩,none⟩,⟨some 15,.unOp .not 4 (.tmp 14),none⟩,⟨some 16,.move (.tmp 15),none⟩,⟨some 17,.move (.tmp 3),some ((some 16),false)⟩,⟨some 18,.binOp .gtr 3 (.tmp 17) (.const (.int .i64 0)) 3,some ((some 16),false)⟩,⟨some 19,.move (.tmp 18),some ((some 16),false)⟩,⟨some 20,.move (.tmp 0),some ((some 19),true)⟩,⟨some 21,.move (.tmp 3),some ((some 19),true)⟩,⟨some 22,.binOp .sub 3 (.tmp 21) (.const (.int .i64 1)) 3,some ((some 19),true)⟩,⟨some 23,.indexAddr 22 (.tmp 20) (.tmp 22),some ((some 19),true)⟩,⟨some 24,.fieldAddr 62 (.tmp 23) 0,some ((some 19),true)⟩,⟨some 25,.load 41 (.tmp 24),some ((some 19),true)⟩,⟨some 26,.move (.tmp 0),some ((some 19),true)⟩,⟨some 27,.move (.tmp 3),some ((some 19),true)⟩,⟨some 28,.indexAddr 22 (.tmp 26) (.tmp 27),some ((some 19),true)⟩,⟨some 29,.fieldAddr 62 (.tmp 28) 0,some ((some 19),true)⟩,⟨some 30,.load 41 (.tmp 29),some ((some 19),true)⟩,⟨some 31,.call ⟨.value (.func 116),#[.tmp 25,.tmp 30],#[41,41]⟩,some ((some 19),true)⟩,⟨some 32,.unOp .not 4 (.tmp 31),some ((some 19),true)⟩,⟨some 33,.pick (.tmp 19) (.tmp 32) (.const (.bool false)),some ((some 16),false)⟩,⟨some 34,.pick (.tmp 16) (.const (.bool true)) (.tmp 33),none⟩]
instance : Live r_k67_4 := ⟨[0,3]⟩
def r_k67_5 : List SOp := [⟨some 2,.assign (.const (.bool false)),none⟩]
instance : Live r_k67_5 := ⟨[]⟩
def r_k67_6 : List SOp := [⟨some 8,.move (.tmp 3),none⟩,⟨some 9,.binOp .add 3 (.tmp 8) (.const (.int .i64 1)) 3,none⟩,⟨some 3,.assign (.tmp 9),none⟩]
instance : Live r_k67_6 := ⟨[0,3]⟩
def r_k67_7 : List SOp := [⟨some 2,.assign (.const (.bool true)),none⟩]
instance : Live r_k67_7 := ⟨[]⟩
def t_k67_l1 : SC :=
  (.seq (.seq (.ops false r_k67_3) (.cond (.tmp 7) .skip (.exit 0))) (.seq (.block 1 (.seq (.ops true r_k67_4) (.cond (.tmp 34) (.seq (.ops false r_k67_5) .ret) .skip))) (.ops false r_k67_6)))
def t_k67 : SC :=
  (.seq (.ops false r_k67_1) (.seq (.seq (.ops false r_k67_2) (.block 0 (.loop t_k67_l1))) (.seq (.ops false r_k67_7) .ret)))
theorem it_k67 : FnIs Tryz.prog 67 35 [.tmp 2] t_k67 := ⟨Tryz.f67, _, Tryz.func67, rfl, rfl, rfl, rfl, by kernel_rfl⟩

def r_k118_1 : List SOp := [⟨some 1,.box 91 (.tmp 0),none⟩,⟨some 2,.assign (.const (.bool false)),none⟩]
instance : Live r_k118_1 := ⟨[0]⟩
def r_k118_2 : List SOp := [⟨some 3,.fieldAddr 91 (.tmp 1) 0,none⟩,⟨some 4,.load 9 (.tmp 3),none⟩,⟨some 5,.binOp .eql 9 (.tmp 4) (.const (.string ⟨#[]⟩)) 9,none⟩,⟨some 6,.move (.tmp 5),none⟩,⟨some 7,.fieldAddr 91 (.tmp 1) 0,some ((some 6),false)⟩,⟨some 8,.load 9 (.tmp 7),some ((some 6),false)⟩,⟨some 9,.call ⟨.value (.func 146),#[.tmp 8],#[9]⟩,some ((some 6),false)⟩,⟨some 10,.pick (.tmp 6) (.const (.bool true)) (.tmp 9),none⟩,⟨some 11,.move (.tmp 10),none⟩,⟨some 12,.fieldAddr 91 (.tmp 1) 1,some ((some 11),true)⟩,⟨some 13,.load 26 (.tmp 12),some ((some 11),true)⟩,⟨some 14,.call ⟨.value (.func 68),#[.tmp 13],#[26]⟩,some ((some 11),true)⟩,⟨some 15,.pick (.tmp 11) (.tmp 14) (.const (.bool false)),none⟩,⟨some 16,.move (.tmp 15),none⟩,⟨some 17,.fieldAddr 91 (.tmp 1) 1,some ((some 16),true)⟩,⟨some 18,.load 26 (.tmp 17),some ((some 16),true)⟩,⟨some 19,.call ⟨.value (.func 76),#[.tmp 18],#[26]⟩,some ((some 16),true)⟩,⟨some 20,.unOp .not 4 (.tmp 19),some ((some 16),true)⟩,⟨some 21,.pick (.tmp 16) (.tmp 20) (.const (.bool false)),none⟩,⟨some 2,.assign (.tmp 21),none⟩]
instance : Live r_k118_2 := ⟨[1]⟩
def t_k118 : SC :=
  (.seq (.ops false r_k118_1) (.seq (.ops false r_k118_2) .ret))
theorem it_k118 : FnIs Tryz.prog 118 22 [.tmp 2] t_k118 := ⟨Tryz.f118, _, Tryz.func118, rfl, rfl, rfl, rfl, by kernel_rfl⟩

def r_k69_1 : List SOp := [⟨some 2,.assign (.const (.bool false)),none⟩]
instance : Live r_k69_1 := ⟨[0]⟩
def r_k69_2 : List SOp := [⟨some 3,.assign (.const (.int .i64 0)),none⟩]
instance : Live r_k69_2 := ⟨[0]⟩
def r_k69_3 : List SOp := [⟨some 6,.move (.tmp 3),none⟩,⟨some 7,.move (.tmp 0),none⟩,⟨some 8,.call ⟨.builtin .len,#[.tmp 7],#[27]⟩,none⟩,⟨some 9,.binOp .lss 3 (.tmp 6) (.tmp 8) 3,none⟩]
instance : Live r_k69_3 := ⟨[0,3]⟩
def r_k69_4 : List SOp := [⟨some 12,.move (.tmp 0),none⟩,⟨some 13,.move (.tmp 3),none⟩,⟨some 14,.indexAddr 27 (.tmp 12) (.tmp 13),none⟩,⟨some 15,.load 91 (.tmp 14),none⟩,⟨some 16,.call ⟨.value (.func 118),#[.tmp 15],#[91]⟩,none⟩,⟨some 17,.unOp .not 4 (.tmp 16),none⟩]
instance : Live r_k69_4 := ⟨[0,3]⟩
def r_k69_5 : List SOp := [⟨some 2,.assign (.const (.bool false)),none⟩]
instance : Live r_k69_5 := ⟨[]⟩
def r_k69_6 : List SOp := [⟨some 18,.move (.tmp 3),none⟩,⟨some 19,.binOp .gtr 3 (.tmp 18) (.const (.int .i64 0)) 3,none⟩]
instance : Live r_k69_6 := ⟨[0,3]⟩
def r_k69_7 : List SOp := [⟨some 20,.move (.tmp 0),none⟩,⟨some 21,.move (.tmp 3),none⟩,⟨some 22,.binOp .sub 3 (.tmp 21) (.const (.int .i64 1)) 3,none⟩,⟨some 23,.indexAddr 27 (.tmp 20) (.tmp 22),none⟩,⟨some 24,.load 91 (.tmp 23),none⟩,⟨some 25,.move (.tmp 0),none⟩,⟨some 26,.move (.tmp 3),none⟩,⟨some 27,.indexAddr 27 (.tmp 25) (.tmp 26),none⟩,⟨some 28,.load 91 (.tmp 27),none⟩,⟨some 4,.alloc 91,none⟩,⟨some 5,.alloc 91,none⟩,⟨none,.store 91 (.tmp 4) (.tmp 24),none⟩,⟨none,.store 91 (.tmp 5) (.tmp 28),none⟩]
instance : Live r_k69_7 := ⟨[0,3]⟩
instance : Rd r_k69_7 := ⟨fun j => j == 0⟩
def r_k69_8 : List SOp := [⟨some 29,.fieldAddr 91 (.tmp 4) 0,none⟩,⟨some 30,.load 9 (.tmp 29),none⟩,⟨some 31,.fieldAddr 91 (.tmp 5) 0,none⟩,⟨some 32,.load 9 (.tmp 31),none⟩,⟨some 33,.binOp .gtr 9 (.tmp 30) (.tmp 32) 9,none⟩,⟨some 34,.move (.tmp 33),none⟩,⟨some 35,.fieldAddr 91 (.tmp 4) 0,some ((some 34),false)⟩,⟨some 36,.load 9 (.tmp 35),some ((some 34),false)⟩,⟨some 37,.fieldAddr 91 (.tmp 5) 0,some ((some 34),false)⟩,⟨some 38,.load 9 (.tmp 37),some ((some 34),false)⟩,⟨some 39,.binOp .eql 9 (.tmp 36) (.tmp 38) 9,some ((some 34),false)⟩,⟨some 40,.move (.tmp 39),some ((some 34),false)⟩,⟨some 41,.fieldAddr 91 (.tmp 4) 1,some ((some 40),true)⟩,⟨some 42,.load 26 (.tmp 41),some ((some 40),true)⟩,⟨some 43,.fieldAddr 91 (.tmp 5) 1,some ((some 40),true)⟩,⟨some 44,.load 26 (.tmp 43),some ((some 40),true)⟩,⟨some 45,.call ⟨.value (.func 119),#[.tmp 42,.tmp 44],#[26,26]⟩,some ((some 40),true)⟩,⟨some 46,.binOp .geq 3 (.tmp 45) (.const (.int .i64 0)) 3,some ((some 40),true)⟩,⟨some 47,.pick (.tmp 40) (.tmp 46) (.const (.bool false)),some ((some 34),false)⟩,⟨some 48,.pick (.tmp 34) (.const (.bool true)) (.tmp 47),none⟩]
instance : Live r_k69_8 := ⟨[0,3,4,5]⟩
def r_k69_9 : List SOp := [⟨some 2,.assign (.const (.bool false)),none⟩]
instance : Live r_k69_9 := ⟨[]⟩
def r_k69_10 : List SOp := [⟨some 10,.move (.tmp 3),none⟩,⟨some 11,.binOp .add 3 (.tmp 10) (.const (.int .i64 1)) 3,none⟩,⟨some 3,.assign (.tmp 11),none⟩]
instance : Live r_k69_10 := ⟨[0,3]⟩
def r_k69_11 : List SOp := [⟨some 2,.assign (.const (.bool true)),none⟩]
instance : Live r_k69_11 := ⟨[]⟩
def t_k69_l1 : SC :=
  (.seq (.seq (.ops false r_k69_3) (.cond (.tmp 9) .skip (.exit 0))) (.seq (.block 1 (.seq (.seq (.ops false r_k69_4) (.cond (.tmp 17) (.seq (.ops false r_k69_5) .ret) .skip)) (.seq (.ops false r_k69_6) (.cond (.tmp 19) (.seq (.opsW [] r_k69_7) (.seq (.ops false r_k69_8) (.cond (.tmp 48) (.seq (.ops false r_k69_9) .ret) .skip))) .skip)))) (.ops false r_k69_10)))
def t_k69 : SC :=
  (.seq (.ops false r_k69_1) (.seq (.seq (.ops false r_k69_2) (.block 0 (.loop t_k69_l1))) (.seq (.ops false r_k69_11) .ret)))
theorem it_k69 : FnIs Tryz.prog 69 49 [.tmp 2] t_k69 := ⟨Tryz.f69, _, Tryz.func69, rfl, rfl, rfl, rfl, by kernel_rfl⟩

def r_k75_1 : List SOp := [⟨some 1,.box 29 (.tmp 0),none⟩,⟨some 2,.assign (.const (.bool false)),none⟩]
instance : Live r_k75_1 := ⟨[0]⟩
def r_k75_2 : List SOp := [⟨some 3,.fieldAddr 29 (.tmp 1) 0,none⟩,⟨some 4,.load 22 (.tmp 3),none⟩,⟨some 5,.call ⟨.value (.func 67),#[.tmp 4],#[22]⟩,none⟩,⟨some 6,.move (.tmp 5),none⟩,⟨some 7,.fieldAddr 29 (.tmp 1) 1,some ((some 6),true)⟩,⟨some 8,.load 26 (.tmp 7),some ((some 6),true)⟩,⟨some 9,.call ⟨.value (.func 68),#[.tmp 8],#[26]⟩,some ((some 6),true)⟩,⟨some 10,.pick (.tmp 6) (.tmp 9) (.const (.bool false)),none⟩,⟨some 11,.move (.tmp 10),none⟩,⟨some 12,.fieldAddr 29 (.tmp 1) 2,some ((some 11),true)⟩,⟨some 13,.load 27 (.tmp 12),some ((some 11),true)⟩,⟨some 14,.call ⟨.value (.func 69),#[.tmp 13],#[27]⟩,some ((some 11),true)⟩,⟨some 15,.pick (.tmp 11) (.tmp 14) (.const (.bool false)),none⟩,⟨some 2,.assign (.tmp 15),none⟩]
instance : Live r_k75_2 := ⟨[1]⟩
def t_k75 : SC :=
  (.seq (.ops false r_k75_1) (.seq (.ops false r_k75_2) .ret))
theorem it_k75 : FnIs Tryz.prog 75 16 [.tmp 2] t_k75 := ⟨Tryz.f75, _, Tryz.func75, rfl, rfl, rfl, rfl, by kernel_rfl⟩

def r_k72_1 : List SOp := [⟨some 2,.box 91 (.tmp 0),none⟩,⟨some 3,.box 62 (.tmp 1),none⟩,⟨some 4,.assign (.const (.bool false)),none⟩]
instance : Live r_k72_1 := ⟨[0,1]⟩
def r_k72_2 : List SOp := [⟨some 5,.fieldAddr 91 (.tmp 2) 0,none⟩,⟨some 6,.load 9 (.tmp 5),none⟩,⟨some 7,.binOp .eql 9 (.tmp 6) (.const (.string ⟨#[]⟩)) 9,none⟩,⟨some 8,.move (.tmp 7),none⟩,⟨some 9,.fieldAddr 91 (.tmp 2) 0,some ((some 8),false)⟩,⟨some 10,.load 9 (.tmp 9),some ((some 8),false)⟩,⟨some 11,.fieldAddr 62 (.tmp 3) 1,some ((some 8),false)⟩,⟨some 12,.load 9 (.tmp 11),some ((some 8),false)⟩,⟨some 13,.binOp .eql 9 (.tmp 10) (.tmp 12) 9,some ((some 8),false)⟩,⟨some 14,.pick (.tmp 8) (.const (.bool true)) (.tmp 13),none⟩,⟨some 15,.move (.tmp 14),none⟩,⟨some 16,.fieldAddr 91 (.tmp 2) 1,some ((some 15),true)⟩,⟨some 17,.load 26 (.tmp 16),some ((some 15),true)⟩,⟨some 18,.fieldAddr 62 (.tmp 3) 0,some ((some 15),true)⟩,⟨some 19,.load 41 (.tmp 18),some ((some 15),true)⟩,⟨some 20,.call ⟨.value (.func 62),#[.tmp 17,.tmp 19],#[26,41]⟩,some ((some 15),true)⟩,⟨some 21,.pick (.tmp 15) (.tmp 20) (.const (.bool false)),none⟩,⟨some 4,.assign (.tmp 21),none⟩]
instance : Live r_k72_2 := ⟨[2,3]⟩
def t_k72 : SC :=
  (.seq (.ops false r_k72_1) (.seq (.ops false r_k72_2) .ret))
theorem it_k72 : FnIs Tryz.prog 72 22 [.tmp 4] t_k72 := ⟨Tryz.f72, _, Tryz.func72, rfl, rfl, rfl, rfl, by kernel_rfl⟩

theorem ev_k115 (e : Ent) : Ev (En Tryz.prog rfl).P 115 [encE e] (.ret (.bool (decide (entErr e = 0)))) := by
  refine Ev.of_body it_k115 (by simp) (Run.start ?_)
  unfold t_k115 encE
  have c1 := ev_k111 e.dot
  have c0 := ev_k146 e.sku
  have hee := entErr_iff e
  change Ev _ _ _ (.ret (.bool (isDotR e.rep e.num))) at c1
  generalize isDotR e.rep e.num = v1 at c1 hee
  generalize goodS e.sku = v2 at c0 hee
  generalize entErr e = u at hee ⊢
  (focus (have hF := True.intro; (repeat' (first | refine go1 (k:=?_) | with_reducible refine Ny.of ?_ ?_ | (refine Hyp.of ?_; intro hc; (try simp only [hc]); (try simp only [Bh] at hc)))); all_goals clear hF))
  refine stCall [encR e.dot] (he := c1) (k:=?_)
  cases v1
  · rw [decide_eq_false (fun h => by have := (hee.1 h).1; simp at this)]
    (focus (have hF := True.intro; (repeat' (first | refine go1 (k:=?_) | with_reducible refine Ny.of ?_ ?_ | (refine Hyp.of ?_; intro hc; (try simp only [hc]); (try simp only [Bh] at hc)))); all_goals clear hF))
    exact Fin.tmp' rfl rfl
  · (focus (have hF := True.intro; (repeat' (first | refine go1 (k:=?_) | with_reducible refine Ny.of ?_ ?_ | (refine Hyp.of ?_; intro hc; (try simp only [hc]); (try simp only [Bh] at hc)))); all_goals clear hF))
    refine stCall [.str e.sku] (he := c0) (k:=?_)
    cases v2
    · rw [decide_eq_false (fun h => by have := (hee.1 h).2.1; simp at this)]
      (focus (have hF := True.intro; (repeat' (first | refine go1 (k:=?_) | with_reducible refine Ny.of ?_ ?_ | (refine Hyp.of ?_; intro hc; (try simp only [hc]); (try simp only [Bh] at hc)))); all_goals clear hF))
      exact Fin.tmp' rfl rfl
    · by_cases h3 : e.qty < 1
      · rw [decide_eq_false (fun h => (hee.1 h).2.2.1 h3)]
        (focus (have hF := True.intro; (repeat' (first | refine go1 (k:=?_) | with_reducible refine Ny.of ?_ ?_ | (refine Hyp.of ?_; intro hc; (try simp only [hc]); (try simp only [Bh] at hc)))); all_goals clear hF))
        exact Fin.tmp' rfl rfl
      · by_cases h4 : 1000000 < e.qty
        · rw [decide_eq_false (fun h => (hee.1 h).2.2.2 h4)]
          (focus (have hF := True.intro; (repeat' (first | refine go1 (k:=?_) | with_reducible refine Ny.of ?_ ?_ | (refine Hyp.of ?_; intro hc; (try simp only [hc]); (try simp only [Bh] at hc)))); all_goals clear hF))
          exact Fin.tmp' rfl rfl
        · rw [decide_eq_true (hee.2 ⟨rfl, rfl, h3, h4⟩)]
          (focus (have hF := True.intro; (repeat' (first | refine go1 (k:=?_) | with_reducible refine Ny.of ?_ ?_ | (refine Hyp.of ?_; intro hc; (try simp only [hc]); (try simp only [Bh] at hc)))); all_goals clear hF))
          exact Fin.tmp' rfl rfl
theorem ev_k116 (a b : Rn) : Ev (En Tryz.prog rfl).P 116 [encR a, encR b] (.ret (.bool (dotLt a b))) := by
  refine Ev.of_body it_k116 (by simp) (Run.start ?_)
  unfold t_k116 encR dotLt
  by_cases h1 : a.1 < b.1
  · rw [show (decide (a.1 < b.1) || (decide (a.1 = b.1) && decide (a.2 < b.2))) = true by simp [h1]]
    (focus (have hF := True.intro; (repeat' (first | refine go1 (k:=?_) | with_reducible refine Ny.of ?_ ?_ | (refine Hyp.of ?_; intro hc; (try simp only [hc]); (try simp only [Bh] at hc)))); all_goals clear hF))
    exact Fin.tmp' rfl rfl
  · by_cases h2 : a.1 = b.1
    · rw [show (decide (a.1 < b.1) || (decide (a.1 = b.1) && decide (a.2 < b.2))) = decide (a.2 < b.2) by simp [h1, h2]]
      (focus (have hF := True.intro; (repeat' (first | refine go1 (k:=?_) | with_reducible refine Ny.of ?_ ?_ | (refine Hyp.of ?_; intro hc; (try simp only [hc]); (try simp only [Bh] at hc)))); all_goals clear hF))
      exact Fin.tmp' rfl rfl
    · rw [show (decide (a.1 < b.1) || (decide (a.1 = b.1) && decide (a.2 < b.2))) = false by simp [h1, h2]]
      (focus (have hF := True.intro; (repeat' (first | refine go1 (k:=?_) | with_reducible refine Ny.of ?_ ?_ | (refine Hyp.of ?_; intro hc; (try simp only [hc]); (try simp only [Bh] at hc)))); all_goals clear hF))
      exact Fin.tmp' rfl rfl
theorem ev_k67 (l : List Ent) (hl : l.length ≤ 1000000000) : Ev (En Tryz.prog rfl).P 67 [.sl 4 (encEs l)] (.ret (.bool (formE l))) := by
  refine Ev.of_body it_k67 (by simp) (Run.start ?_)
  unfold t_k67
  have e1 := encEs_len l
  have hS := stbK
  (focus (have hF := @e1; (repeat' (first | refine go1 (k:=?_) | with_reducible refine Ny.of ?_ ?_ | (refine Hyp.of ?_; intro hc; (try simp only [hc]); (try simp only [Bh] at hc)))); all_goals clear hF))
  refine Run.while (σ := Nat) (fun i => ⟨tms [(0, .sl 4 (encEs l)), (3, .int .i64 (i : Int))], mms []⟩)
    (fun i => i ≤ l.length ∧ (∀ (j : Nat) q, j < i → l[j]? = some q → entErr q = 0) ∧ ∀ (j : Nat) a b, j + 1 < i → l[j]? = some a → l[j + 1]? = some b → dotLt a.dot b.dot = true) (fun i => l.length - i) 0 (have hW := @encEs_stb; stWk) ⟨Nat.zero_le _, fun j q hj => absurd hj (Nat.not_lt_zero _), fun j a b hj => by omega⟩ ?_
  rintro i ⟨hi, hI⟩
  unfold t_k67_l1
  by_cases hlt : i < l.length
  · obtain ⟨r, hr⟩ : ∃ r, l[i]? = some r := ⟨l[i], by simp [hlt]⟩
    have g1 := encEs_get hr
    have c1 := ev_k115 r
    have hst := fun h0 h1 => formE_step hr hI h0 h1
    have hbad : entErr r ≠ 0 → ¬ FormE l := fun h hf => h (hf.1 i r hr)
    generalize entErr r = v at c1 hst hbad
    (focus (have hF := (And.intro @e1 @g1); (repeat' (first | refine go1 (k:=?_) | with_reducible refine Ny.of ?_ ?_ | (refine Hyp.of ?_; intro hc; (try simp only [hc]); (try simp only [Bh] at hc)))); all_goals clear hF))
    refine stCall [encE r] (he := c1) (k:=?_)
    by_cases hv : v = 0
    · rw [decide_eq_true hv]
      have hst := hst hv
      by_cases h0 : i = 0
      · have hst := hst (fun q hq => by omega)
        subst h0
        (focus (have hF := (And.intro @e1 @g1); (repeat' (first | refine go1 (k:=?_) | with_reducible refine Ny.of ?_ ?_ | (refine Hyp.of ?_; intro hc; (try simp only [hc]); (try simp only [Bh] at hc)))); all_goals clear hF))
        (refine Fin.nextW (0 + 1) ?_ (have hW := @encEs_stb; stWk); (try dsimp only))
        exact ⟨⟨hlt, hst⟩, by omega⟩
      · obtain ⟨q, hq⟩ : ∃ q, l[i - 1]? = some q := ⟨l[i - 1]'(by omega), by simp [show i - 1 < l.length by omega]⟩
        have g2 := encEs_get hq
        have hpw : IntKind.i64.wrap ((i : Int) - 1) = ((i - 1 : Nat) : Int) := by rw [wrap_ok (by omega)]; omega
        have c2 := ev_k116 q.dot r.dot
        have hbad2 : dotLt q.dot r.dot = false → ¬ FormE l := fun h hf => by
          have := hf.2 (i - 1) q r hq (by rw [show i - 1 + 1 = i by omega]; exact hr)
          rw [h] at this
          cases this
        have hst : dotLt q.dot r.dot = true → _ := fun h => hst (fun q' _ hq' => by rw [hq] at hq'; cases hq'; exact h)
        generalize dotLt q.dot r.dot = u at c2 hst hbad2
        (focus (have hF := (And.intro (And.intro @e1 @g1) (And.intro @g2 @hpw)); (repeat' (first | refine go1 (k:=?_) | with_reducible refine Ny.of ?_ ?_ | (refine Hyp.of ?_; intro hc; (try simp only [hc]); (try simp only [Bh] at hc)))); all_goals clear hF))
        refine stCall [encR q.dot, encR r.dot] (he := c2) (k:=?_)
        cases u
        · rw [formE_false (hbad2 rfl)]
          (focus (have hF := (And.intro @e1 @g1); (repeat' (first | refine go1 (k:=?_) | with_reducible refine Ny.of ?_ ?_ | (refine Hyp.of ?_; intro hc; (try simp only [hc]); (try simp only [Bh] at hc)))); all_goals clear hF))
          exact Fin.tmp' rfl rfl
        · have hst := hst rfl
          (focus (have hF := (And.intro @e1 @g1); (repeat' (first | refine go1 (k:=?_) | with_reducible refine Ny.of ?_ ?_ | (refine Hyp.of ?_; intro hc; (try simp only [hc]); (try simp only [Bh] at hc)))); all_goals clear hF))
          (refine Fin.nextW (i + 1) ?_ (have hW := @encEs_stb; stWk); (try dsimp only))
          exact ⟨⟨hlt, hst⟩, by omega⟩
    · rw [decide_eq_false hv, formE_false (hbad hv)]
      (focus (have hF := (And.intro @e1 @g1); (repeat' (first | refine go1 (k:=?_) | with_reducible refine Ny.of ?_ ?_ | (refine Hyp.of ?_; intro hc; (try simp only [hc]); (try simp only [Bh] at hc)))); all_goals clear hF))
      exact Fin.tmp' rfl rfl
  · rw [formE_true (formE_all (by omega) hI)]
    (focus (have hF := @e1; (repeat' (first | refine go1 (k:=?_) | with_reducible refine Ny.of ?_ ?_ | (refine Hyp.of ?_; intro hc; (try simp only [hc]); (try simp only [Bh] at hc)))); all_goals clear hF))
    exact Fin.tmp' rfl rfl
theorem recErr_iff (r : Rec) : recErr r = 0 ↔ (r.sku.size = 0 ∨ goodS r.sku = true) ∧ isNormP r.past = true ∧ sizeP r.past ≠ 0 := by
  unfold recErr
  by_cases h1 : r.sku.size = 0 <;> cases h2 : goodS r.sku <;> cases h3 : isNormP r.past <;> by_cases h4 : sizeP r.past = 0 <;> simp [h1, h4]
theorem ev_k118 (r : Rec) (hw : wt r.past ≤ 30000000) : Ev (En Tryz.prog rfl).P 118 [encK r] (.ret (.bool (decide (recErr r = 0)))) := by
  refine Ev.of_body it_k118 (by simp) (Run.start ?_)
  unfold t_k118 encK
  have c1 := ev_k146 r.sku
  have c2 := ev_k68 r.past (by omega)
  have c3 := ev_k76 r.past (by omega)
  have e := str_nil r.sku
  have hee := recErr_iff r
  generalize goodS r.sku = v1 at c1 hee
  generalize isNormP r.past = v2 at c2 hee
  generalize sizeP r.past = v3 at c3 hee
  generalize recErr r = u at hee ⊢
  by_cases h0 : r.sku.size = 0
  case' pos =>
    rw [eq_true h0] at e
    (focus (have hF := (And.intro @e (And.intro @decide_true @Bool.not_true)); (repeat' (first | refine go1 (k:=?_) | with_reducible refine Ny.of ?_ ?_ | (refine Hyp.of ?_; intro hc; (try simp only [hc]); (try simp only [Bh] at hc)))); all_goals clear hF))
  case' neg =>
    rw [eq_false h0] at e
    cases v1
    case' false =>
      rw [decide_eq_false (fun h => by have := (hee.1 h).1; simp [h0] at this)]
    all_goals
      (focus (have hF := (And.intro @e (And.intro @decide_false @Bool.not_false)); (repeat' (first | refine go1 (k:=?_) | with_reducible refine Ny.of ?_ ?_ | (refine Hyp.of ?_; intro hc; (try simp only [hc]); (try simp only [Bh] at hc)))); all_goals clear hF))
      refine stCall [.str r.sku] (he := c1) (k:=?_)
      (focus (have hF := True.intro; (repeat' (first | refine go1 (k:=?_) | with_reducible refine Ny.of ?_ ?_ | (refine Hyp.of ?_; intro hc; (try simp only [hc]); (try simp only [Bh] at hc)))); all_goals clear hF))
    case' false => exact Fin.tmp' rfl rfl
  all_goals
    refine stCall [encP r.past] (he := c2) (k:=?_)
    cases v2
    · rw [decide_eq_false (fun h => by have := (hee.1 h).2.1; simp at this)]
      (focus (have hF := True.intro; (repeat' (first | refine go1 (k:=?_) | with_reducible refine Ny.of ?_ ?_ | (refine Hyp.of ?_; intro hc; (try simp only [hc]); (try simp only [Bh] at hc)))); all_goals clear hF))
      exact Fin.tmp' rfl rfl
    · (focus (have hF := True.intro; (repeat' (first | refine go1 (k:=?_) | with_reducible refine Ny.of ?_ ?_ | (refine Hyp.of ?_; intro hc; (try simp only [hc]); (try simp only [Bh] at hc)))); all_goals clear hF))
      refine stCall [encP r.past] (he := c3) (k:=?_)
      by_cases h3 : v3 = 0
      · rw [decide_eq_false (fun h => (hee.1 h).2.2 h3), decide_eq_true h3]
        (focus (have hF := True.intro; (repeat' (first | refine go1 (k:=?_) | with_reducible refine Ny.of ?_ ?_ | (refine Hyp.of ?_; intro hc; (try simp only [hc]); (try simp only [Bh] at hc)))); all_goals clear hF))
        exact Fin.tmp' rfl rfl
      · rw [decide_eq_true (hee.2 ⟨by simp [h0], rfl, h3⟩), decide_eq_false h3]
        (focus (have hF := True.intro; (repeat' (first | refine go1 (k:=?_) | with_reducible refine Ny.of ?_ ?_ | (refine Hyp.of ?_; intro hc; (try simp only [hc]); (try simp only [Bh] at hc)))); all_goals clear hF))
        exact Fin.tmp' rfl rfl

def r_k121_1 : List SOp := [⟨some 2,.alloc 26,none⟩]
instance : Live r_k121_1 := ⟨[0]⟩
def r_k121_2 : List SOp := [⟨some 3,.alloc 26,none⟩]
instance : Live r_k121_2 := ⟨[0,2]⟩
def r_k121_3 : List SOp := [⟨some 4,.assign (.const (.int .i64 0)),none⟩]
instance : Live r_k121_3 := ⟨[0,2,3]⟩
def r_k121_4 : List SOp := [⟨some 5,.move (.tmp 4),none⟩,⟨some 6,.move (.tmp 0),none⟩,⟨some 7,.call ⟨.builtin .len,#[.tmp 6],#[38]⟩,none⟩,⟨some 8,.binOp .lss 3 (.tmp 5) (.tmp 7) 3,none⟩]
instance : Live r_k121_4 := ⟨[0,2,3,4]⟩
def r_k121_5 : List SOp := [⟨some 11,.fieldAddr 26 (.tmp 3) 1,none⟩,⟨some 12,.load 24 (.tmp 11),none⟩,⟨some 13,.move (.tmp 0),none⟩,⟨some 14,.move (.tmp 4),none⟩,⟨some 15,.indexAddr 38 (.tmp 13) (.tmp 14),none⟩,⟨some 16,.fieldAddr 41 (.tmp 15) 0,none⟩,⟨some 17,.load 3 (.tmp 16),none⟩,⟨some 18,.move (.tmp 0),none⟩,⟨some 19,.move (.tmp 4),none⟩,⟨some 20,.indexAddr 38 (.tmp 18) (.tmp 19),none⟩,⟨some 21,.fieldAddr 41 (.tmp 20) 1,none⟩,⟨some 22,.load 3 (.tmp 21),none⟩,⟨some 23,.move (.tmp 0),none⟩,⟨some 24,.move (.tmp 4),none⟩,⟨some 25,.indexAddr 38 (.tmp 23) (.tmp 24),none⟩,⟨some 26,.fieldAddr 41 (.tmp 25) 1,none⟩,⟨some 27,.load 3 (.tmp 26),none⟩,⟨some 28,.build 127 #[(0,.tmp 17),(1,.tmp 22),(2,.tmp 27)],none⟩,⟨some 29,.buildSlice 24 1 #[(0,.tmp 28)],none⟩,⟨some 30,.call ⟨.builtin .append,#[.tmp 12,.tmp 29],#[24,24]⟩,none⟩,⟨some 31,.fieldAddr 26 (.tmp 3) 1,none⟩,⟨none,.store 24 (.tmp 31) (.tmp 30),none⟩]
instance : Live r_k121_5 := ⟨[0,2,3,4]⟩
instance : Rd r_k121_5 := ⟨fun j => j == 0⟩
def r_k121_6 : List SOp := [⟨some 9,.move (.tmp 4),none⟩,⟨some 10,.binOp .add 3 (.tmp 9) (.const (.int .i64 1)) 3,none⟩,⟨some 4,.assign (.tmp 10),none⟩]
instance : Live r_k121_6 := ⟨[0,2,3,4]⟩
def r_k121_7 : List SOp := [⟨some 32,.load 26 (.tmp 3),none⟩,⟨some 33,.call ⟨.value (.func 117),#[.tmp 32],#[26]⟩,none⟩,⟨none,.store 26 (.tmp 2) (.tmp 33),none⟩]
instance : Live r_k121_7 := ⟨[2,3]⟩
def t_k121_l1 : SC :=
  (.seq (.seq (.ops false r_k121_4) (.cond (.tmp 8) .skip (.exit 0))) (.seq (.block 1 (.opsW [12] r_k121_5)) (.ops false r_k121_6)))
def t_k121 : SC :=
  (.seq (.ops false r_k121_1) (.seq (.ops false r_k121_2) (.seq (.seq (.ops false r_k121_3) (.block 0 (.loop t_k121_l1))) (.seq (.ops false r_k121_7) .ret))))
theorem it_k121 : FnIs Tryz.prog 121 34 [.cell 2 26] t_k121 := ⟨Tryz.f121, _, Tryz.func121, rfl, rfl, rfl, rfl, by kernel_rfl⟩

def r_k71_1 : List SOp := [⟨some 6,.alloc 26,none⟩]
instance : Live r_k71_1 := ⟨[0,1,2]⟩
def r_k71_2 : List SOp := [⟨some 7,.assign (.const (.slice none 0 0)),none⟩]
instance : Live r_k71_2 := ⟨[0,1,2,6]⟩
def r_k71_3 : List SOp := [⟨some 8,.assign (.const (.int .i64 0)),none⟩]
instance : Live r_k71_3 := ⟨[0,1,2,6,7]⟩
def r_k71_4 : List SOp := [⟨some 9,.move (.tmp 8),none⟩,⟨some 10,.move (.tmp 0),none⟩,⟨some 11,.call ⟨.builtin .len,#[.tmp 10],#[22]⟩,none⟩,⟨some 12,.binOp .lss 3 (.tmp 9) (.tmp 11) 3,none⟩]
instance : Live r_k71_4 := ⟨[0,1,2,6,7,8]⟩
def r_k71_5 : List SOp := [⟨some 15,.move (.tmp 1),none⟩,⟨some 16,.binOp .eql 9 (.tmp 15) (.const (.string ⟨#[]⟩)) 9,none⟩,⟨some 17,.move (.tmp 16),none⟩,⟨some 18,.move (.tmp 0),some ((some 17),false)⟩,⟨some 19,.move (.tmp 8),some ((some 17),false)⟩,⟨some 20,.indexAddr 22 (.tmp 18) (.tmp 19),some ((some 17),false)⟩,⟨some 21,.fieldAddr 62 (.tmp 20) 1,some ((some 17),false)⟩,⟨some 22,.load 9 (.tmp 21),some ((some 17),false)⟩,⟨some 23,.move (.tmp 1),some ((some 17),false)⟩,⟨some 24,.binOp .eql 9 (.tmp 22) (.tmp 23) 9,some ((some 17),false)⟩,⟨some 25,.pick (.tmp 17) (.const (.bool true)) (.tmp 24),none⟩,⟨some 26,.move (.tmp 25),none⟩,⟨some 27,.move (.tmp 2),some ((some 26),true)⟩,⟨some 28,.binOp .lss 3 (.tmp 27) (.const (.int .i64 0)) 3,some ((some 26),true)⟩,⟨some 29,.move (.tmp 28),some ((some 26),true)⟩,⟨some 30,.move (.tmp 0),some ((some 29),false)⟩,⟨some 31,.move (.tmp 8),some ((some 29),false)⟩,⟨some 32,.indexAddr 22 (.tmp 30) (.tmp 31),some ((some 29),false)⟩,⟨some 33,.fieldAddr 62 (.tmp 32) 0,some ((some 29),false)⟩,⟨some 34,.fieldAddr 41 (.tmp 33) 0,some ((some 29),false)⟩,⟨some 35,.load 3 (.tmp 34),some ((some 29),false)⟩,⟨some 36,.move (.tmp 2),some ((some 29),false)⟩,⟨some 37,.binOp .eql 3 (.tmp 35) (.tmp 36) 3,some ((some 29),false)⟩,⟨some 38,.pick (.tmp 29) (.const (.bool true)) (.tmp 37),some ((some 26),true)⟩,⟨some 39,.pick (.tmp 26) (.tmp 38) (.const (.bool false)),none⟩]
instance : Live r_k71_5 := ⟨[0,1,2,6,7,8]⟩
def r_k71_6 : List SOp := [⟨some 40,.move (.tmp 7),none⟩,⟨some 41,.move (.tmp 0),none⟩,⟨some 42,.move (.tmp 8),none⟩,⟨some 43,.indexAddr 22 (.tmp 41) (.tmp 42),none⟩,⟨some 44,.fieldAddr 62 (.tmp 43) 0,none⟩,⟨some 45,.load 41 (.tmp 44),none⟩,⟨some 46,.buildSlice 38 1 #[(0,.tmp 45)],none⟩,⟨some 47,.call ⟨.builtin .append,#[.tmp 40,.tmp 46],#[38,38]⟩,none⟩,⟨some 7,.assign (.tmp 47),none⟩]
instance : Live r_k71_6 := ⟨[0,1,2,6,7,8]⟩
def r_k71_7 : List SOp := [⟨some 13,.move (.tmp 8),none⟩,⟨some 14,.binOp .add 3 (.tmp 13) (.const (.int .i64 1)) 3,none⟩,⟨some 8,.assign (.tmp 14),none⟩]
instance : Live r_k71_7 := ⟨[0,1,2,6,7,8]⟩
def r_k71_8 : List SOp := [⟨some 48,.move (.tmp 7),none⟩,⟨some 49,.call ⟨.value (.func 121),#[.tmp 48],#[38]⟩,none⟩,⟨none,.store 26 (.tmp 6) (.tmp 49),none⟩]
instance : Live r_k71_8 := ⟨[6,7]⟩
def t_k71_l1 : SC :=
  (.seq (.seq (.ops false r_k71_4) (.cond (.tmp 12) .skip (.exit 0))) (.seq (.block 1 (.seq (.ops false r_k71_5) (.cond (.tmp 39) (.ops false r_k71_6) .skip))) (.ops false r_k71_7)))
def t_k71 : SC :=
  (.seq (.ops false r_k71_1) (.seq (.ops false r_k71_2) (.seq (.seq (.ops false r_k71_3) (.block 0 (.loop t_k71_l1))) (.seq (.ops false r_k71_8) .ret))))
theorem it_k71 : FnIs Tryz.prog 71 50 [.cell 6 26] t_k71 := ⟨Tryz.f71, _, Tryz.func71, rfl, rfl, rfl, rfl, by kernel_rfl⟩

def r_k35_1 : List SOp := [⟨some 1,.box 29 (.tmp 0),none⟩,⟨some 2,.assign (.const (.int .i64 0)),none⟩]
instance : Live r_k35_1 := ⟨[0]⟩
def r_k35_2 : List SOp := [⟨some 4,.load 29 (.tmp 1),none⟩,⟨some 5,.call ⟨.value (.func 75),#[.tmp 4],#[29]⟩,none⟩,⟨some 6,.unOp .not 4 (.tmp 5),none⟩]
instance : Live r_k35_2 := ⟨[1]⟩
def r_k35_3 : List SOp := [⟨some 2,.assign (.const (.int .i64 1)),none⟩]
instance : Live r_k35_3 := ⟨[]⟩
def r_k35_4 : List SOp := [⟨some 7,.fieldAddr 29 (.tmp 1) 1,none⟩,⟨some 8,.load 26 (.tmp 7),none⟩,⟨some 9,.call ⟨.value (.func 76),#[.tmp 8],#[26]⟩,none⟩,⟨some 10,.unOp .not 4 (.tmp 9),none⟩,⟨some 3,.assign (.tmp 10),none⟩]
instance : Live r_k35_4 := ⟨[1]⟩
def r_k35_5 : List SOp := [⟨some 12,.fieldAddr 29 (.tmp 1) 0,none⟩,⟨some 13,.load 22 (.tmp 12),none⟩,⟨some 14,.call ⟨.builtin .len,#[.tmp 13],#[22]⟩,none⟩,⟨some 15,.binOp .eql 3 (.tmp 14) (.const (.int .i64 1)) 3,none⟩,⟨some 16,.move (.tmp 15),none⟩,⟨some 17,.fieldAddr 29 (.tmp 1) 2,some ((some 16),true)⟩,⟨some 18,.load 27 (.tmp 17),some ((some 16),true)⟩,⟨some 19,.call ⟨.builtin .len,#[.tmp 18],#[27]⟩,some ((some 16),true)⟩,⟨some 20,.binOp .eql 3 (.tmp 19) (.const (.int .i64 0)) 3,some ((some 16),true)⟩,⟨some 21,.pick (.tmp 16) (.tmp 20) (.const (.bool false)),none⟩,⟨some 11,.assign (.tmp 21),none⟩]
instance : Live r_k35_5 := ⟨[1,3]⟩
def r_k35_6 : List SOp := [⟨some 22,.fieldAddr 29 (.tmp 1) 1,none⟩,⟨some 23,.load 26 (.tmp 22),none⟩,⟨some 24,.fieldAddr 29 (.tmp 1) 0,none⟩,⟨some 25,.load 22 (.tmp 24),none⟩,⟨some 26,.indexAddr 22 (.tmp 25) (.const (.int .i64 0)),none⟩,⟨some 27,.fieldAddr 62 (.tmp 26) 0,none⟩,⟨some 28,.fieldAddr 41 (.tmp 27) 0,none⟩,⟨some 29,.load 3 (.tmp 28),none⟩,⟨some 30,.call ⟨.value (.func 77),#[.tmp 23,.tmp 29],#[26,3]⟩,none⟩,⟨some 31,.fieldAddr 29 (.tmp 1) 0,none⟩,⟨some 32,.load 22 (.tmp 31),none⟩,⟨some 33,.indexAddr 22 (.tmp 32) (.const (.int .i64 0)),none⟩,⟨some 34,.fieldAddr 62 (.tmp 33) 0,none⟩,⟨some 35,.fieldAddr 41 (.tmp 34) 1,none⟩,⟨some 36,.load 3 (.tmp 35),none⟩,⟨some 37,.binOp .geq 3 (.tmp 30) (.tmp 36) 3,none⟩]
instance : Live r_k35_6 := ⟨[1]⟩
def r_k35_7 : List SOp := [⟨some 2,.assign (.const (.int .i64 2)),none⟩]
instance : Live r_k35_7 := ⟨[]⟩
def r_k35_8 : List SOp := [⟨some 2,.assign (.const (.int .i64 0)),none⟩]
instance : Live r_k35_8 := ⟨[]⟩
def r_k35_9 : List SOp := [⟨some 39,.fieldAddr 29 (.tmp 1) 0,none⟩,⟨some 40,.load 22 (.tmp 39),none⟩,⟨some 41,.call ⟨.builtin .len,#[.tmp 40],#[22]⟩,none⟩,⟨some 42,.binOp .eql 3 (.tmp 41) (.const (.int .i64 0)) 3,none⟩,⟨some 43,.move (.tmp 42),none⟩,⟨some 44,.fieldAddr 29 (.tmp 1) 2,some ((some 43),true)⟩,⟨some 45,.load 27 (.tmp 44),some ((some 43),true)⟩,⟨some 46,.call ⟨.builtin .len,#[.tmp 45],#[27]⟩,some ((some 43),true)⟩,⟨some 47,.binOp .eql 3 (.tmp 46) (.const (.int .i64 0)) 3,some ((some 43),true)⟩,⟨some 48,.pick (.tmp 43) (.tmp 47) (.const (.bool false)),none⟩,⟨some 38,.assign (.tmp 48),none⟩]
instance : Live r_k35_9 := ⟨[1,3]⟩
def r_k35_10 : List SOp := [⟨some 2,.assign (.const (.int .i64 0)),none⟩]
instance : Live r_k35_10 := ⟨[]⟩
def r_k35_11 : List SOp := [⟨some 50,.fieldAddr 29 (.tmp 1) 0,none⟩,⟨some 51,.load 22 (.tmp 50),none⟩,⟨some 52,.call ⟨.builtin .len,#[.tmp 51],#[22]⟩,none⟩,⟨some 53,.binOp .eql 3 (.tmp 52) (.const (.int .i64 0)) 3,none⟩,⟨some 54,.move (.tmp 53),none⟩,⟨some 55,.fieldAddr 29 (.tmp 1) 2,some ((some 54),true)⟩,⟨some 56,.load 27 (.tmp 55),some ((some 54),true)⟩,⟨some 57,.call ⟨.builtin .len,#[.tmp 56],#[27]⟩,some ((some 54),true)⟩,⟨some 58,.binOp .eql 3 (.tmp 57) (.const (.int .i64 1)) 3,some ((some 54),true)⟩,⟨some 59,.pick (.tmp 54) (.tmp 58) (.const (.bool false)),none⟩,⟨some 60,.move (.tmp 59),none⟩,⟨some 61,.move (.tmp 3),some ((some 60),true)⟩,⟨some 62,.unOp .not 4 (.tmp 61),some ((some 60),true)⟩,⟨some 63,.pick (.tmp 60) (.tmp 62) (.const (.bool false)),none⟩,⟨some 49,.assign (.tmp 63),none⟩]
instance : Live r_k35_11 := ⟨[1,3]⟩
def r_k35_12 : List SOp := [⟨some 2,.assign (.const (.int .i64 0)),none⟩]
instance : Live r_k35_12 := ⟨[]⟩
def r_k35_13 : List SOp := [⟨some 2,.assign (.const (.int .i64 2)),none⟩]
instance : Live r_k35_13 := ⟨[]⟩
def t_k35 : SC :=
  (.seq (.ops false r_k35_1) (.seq (.seq (.ops false r_k35_2) (.cond (.tmp 6) (.seq (.ops false r_k35_3) .ret) .skip)) (.seq (.ops false r_k35_4) (.seq (.block 0 (.seq (.ops false r_k35_5) (.cond (.tmp 11) (.seq (.seq (.ops true r_k35_6) (.cond (.tmp 37) (.seq (.ops false r_k35_7) .ret) .skip)) (.seq (.ops false r_k35_8) .ret)) (.seq (.ops false r_k35_9) (.cond (.tmp 38) (.seq (.ops false r_k35_10) .ret) (.seq (.ops false r_k35_11) (.cond (.tmp 49) (.seq (.ops false r_k35_12) .ret) .skip))))))) (.seq (.ops false r_k35_13) .ret)))))
theorem it_k35 : FnIs Tryz.prog 35 64 [.tmp 2] t_k35 := ⟨Tryz.f35, _, Tryz.func35, rfl, rfl, rfl, rfl, by kernel_rfl⟩

theorem ev_k69 (l : List Rec) (hl : l.length ≤ 1000000000) (hw : ∀ r ∈ l, wt r.past ≤ 30000000) : Ev (En Tryz.prog rfl).P 69 [.sl 3 (encKs l)] (.ret (.bool (formK l))) := by
  refine Ev.of_body it_k69 (by simp) (Run.start ?_)
  unfold t_k69
  have e1 := encKs_len l
  have hS := stbF
  (focus (have hF := @e1; (repeat' (first | refine go1 (k:=?_) | with_reducible refine Ny.of ?_ ?_ | (refine Hyp.of ?_; intro hc; (try simp only [hc]); (try simp only [Bh] at hc)))); all_goals clear hF))
  refine Run.while (σ := Nat) (fun i => ⟨tms [(0, .sl 3 (encKs l)), (3, .int .i64 (i : Int))], mms []⟩)
    (fun i => i ≤ l.length ∧ (∀ (j : Nat) q, j < i → l[j]? = some q → recErr q = 0) ∧ ∀ (j : Nat) a b, j + 1 < i → l[j]? = some a → l[j + 1]? = some b → cmpR a b < 0) (fun i => l.length - i) 0 (have hW := @encKs_stb; stWk) ⟨Nat.zero_le _, fun j q hj => absurd hj (Nat.not_lt_zero _), fun j a b hj => by omega⟩ ?_
  rintro i ⟨hi, hI⟩
  unfold t_k69_l1
  by_cases hlt : i < l.length
  · obtain ⟨r, hr⟩ : ∃ r, l[i]? = some r := ⟨l[i], by simp [hlt]⟩
    have g1 := encKs_get hr
    have hwr := hw r (List.mem_of_getElem? hr)
    have c1 := ev_k118 r (by omega)
    have hst := fun h0 h1 => formK_step hr hI h0 h1
    have hbad : recErr r ≠ 0 → ¬ FormK l := fun h hf => h (hf.1 i r hr)
    generalize recErr r = v at c1 hst hbad
    (focus (have hF := (And.intro @e1 @g1); (repeat' (first | refine go1 (k:=?_) | with_reducible refine Ny.of ?_ ?_ | (refine Hyp.of ?_; intro hc; (try simp only [hc]); (try simp only [Bh] at hc)))); all_goals clear hF))
    refine stCall [encK r] (he := c1) (k:=?_)
    by_cases hv : v = 0
    · rw [decide_eq_true hv]
      have hst := hst hv
      by_cases h0 : i = 0
      · have hst := hst (fun q hq => by omega)
        subst h0
        (focus (have hF := (And.intro @e1 @g1); (repeat' (first | refine go1 (k:=?_) | with_reducible refine Ny.of ?_ ?_ | (refine Hyp.of ?_; intro hc; (try simp only [hc]); (try simp only [Bh] at hc)))); all_goals clear hF))
        (refine Fin.nextW (0 + 1) ?_ (have hW := @encKs_stb; stWk); (try dsimp only))
        exact ⟨⟨hlt, hst⟩, by omega⟩
      · obtain ⟨q, hq⟩ : ∃ q, l[i - 1]? = some q := ⟨l[i - 1]'(by omega), by simp [show i - 1 < l.length by omega]⟩
        have g2 := encKs_get hq
        have hpw : IntKind.i64.wrap ((i : Int) - 1) = ((i - 1 : Nat) : Int) := by rw [wrap_ok (by omega)]; omega
        have hwq := hw q (List.mem_of_getElem? hq)
        have c2 := ev_k119 q.past r.past (by omega) (by omega)
        have hbad2 : ¬ cmpR q r < 0 → ¬ FormK l := fun h hf => h (hf.2 (i - 1) q r hq (by rw [show i - 1 + 1 = i by omega]; exact hr))
        have hst : cmpR q r < 0 → _ := fun h => hst (fun q' _ hq' => by rw [hq] at hq'; cases hq'; exact h)
        have h1 := cmpB_less q.sku r.sku
        have hrg : cmpB q.sku r.sku = -1 ∨ cmpB q.sku r.sku = 0 ∨ cmpB q.sku r.sku = 1 := lexI_range _ _
        have h0 : (q.sku = r.sku) = (cmpB q.sku r.sku = 0) := propext cmpB_zero.symm
        unfold cmpR at hst hbad2
        generalize cmpB q.sku r.sku = u at *
        rcases hrg with rfl | rfl | rfl
        · rw [show decide ((-1 : Int) < 0) = true by decide] at h1
          rw [show ((-1 : Int) = 0) = False by simp] at h0
          have hst := hst (by simp)
          (focus (have hF := (And.intro (And.intro @e1 (And.intro @g1 @g2)) (And.intro @hpw (And.intro @h1 @h0))); (repeat' (first | refine go1 (k:=?_) | with_reducible refine Ny.of ?_ ?_ | (refine Hyp.of ?_; intro hc; (try simp only [hc]); (try simp only [Bh] at hc)))); all_goals clear hF))
          (focus (have hF := (And.intro (And.intro (And.intro @e1 @g1) (And.intro @g2 @hpw)) (And.intro (And.intro @h1 @h0) (And.intro @Bool.not_true (And.intro @Bool.true_or @decide_false)))); (repeat' (first | refine go2 (k:=?_) | with_reducible refine Ny.of ?_ ?_ | (refine Hyp.of ?_; intro hc; (try simp only [hc]); (try simp only [Bh] at hc)))); all_goals clear hF))
          (refine Fin.nextW (i + 1) ?_ (have hW := @encKs_stb; stWk); (try dsimp only))
          exact ⟨⟨hlt, hst⟩, by omega⟩
        · rw [show decide ((0 : Int) < 0) = false by decide] at h1
          rw [show ((0 : Int) = 0) = True by simp] at h0
          simp only [if_true] at hst hbad2
          generalize cmpP q.past r.past = u at c2 hst hbad2
          (focus (have hF := (And.intro (And.intro @e1 (And.intro @g1 @g2)) (And.intro @hpw (And.intro @h1 @h0))); (repeat' (first | refine go1 (k:=?_) | with_reducible refine Ny.of ?_ ?_ | (refine Hyp.of ?_; intro hc; (try simp only [hc]); (try simp only [Bh] at hc)))); all_goals clear hF))
          (focus (have hF := (And.intro (And.intro (And.intro @e1 @g1) (And.intro @g2 (And.intro @hpw @h1))) (And.intro (And.intro @h0 @Bool.not_true) (And.intro @Bool.or_true (And.intro @Bool.false_or @decide_true)))); (repeat' (first | refine go2 (k:=?_) | with_reducible refine Ny.of ?_ ?_ | (refine Hyp.of ?_; intro hc; (try simp only [hc]); (try simp only [Bh] at hc)))); all_goals clear hF))
          refine stCall [encP q.past, encP r.past] (he := c2) (k:=?_)
          by_cases hu : u < 0
          · have hst := hst hu
            (focus (have hF := (And.intro @e1 @g1); (repeat' (first | refine go1 (k:=?_) | with_reducible refine Ny.of ?_ ?_ | (refine Hyp.of ?_; intro hc; (try simp only [hc]); (try simp only [Bh] at hc)))); all_goals clear hF))
            (refine Fin.nextW (i + 1) ?_ (have hW := @encKs_stb; stWk); (try dsimp only))
            exact ⟨⟨hlt, hst⟩, by omega⟩
          · rw [formK_false (hbad2 hu)]
            (focus (have hF := (And.intro @e1 @g1); (repeat' (first | refine go1 (k:=?_) | with_reducible refine Ny.of ?_ ?_ | (refine Hyp.of ?_; intro hc; (try simp only [hc]); (try simp only [Bh] at hc)))); all_goals clear hF))
            exact Fin.tmp' rfl rfl
        · rw [show decide ((1 : Int) < 0) = false by decide] at h1
          rw [show ((1 : Int) = 0) = False by simp] at h0
          rw [formK_false (hbad2 (by simp))]
          (focus (have hF := (And.intro (And.intro @e1 (And.intro @g1 @g2)) (And.intro @hpw (And.intro @h1 @h0))); (repeat' (first | refine go1 (k:=?_) | with_reducible refine Ny.of ?_ ?_ | (refine Hyp.of ?_; intro hc; (try simp only [hc]); (try simp only [Bh] at hc)))); all_goals clear hF))
          (focus (have hF := (And.intro (And.intro (And.intro @e1 @g1) (And.intro @g2 @hpw)) (And.intro (And.intro @h1 @h0) (And.intro @Bool.not_false (And.intro @Bool.or_false @decide_false)))); (repeat' (first | refine go2 (k:=?_) | with_reducible refine Ny.of ?_ ?_ | (refine Hyp.of ?_; intro hc; (try simp only [hc]); (try simp only [Bh] at hc)))); all_goals clear hF))
          exact Fin.tmp' rfl rfl
    · rw [decide_eq_false hv, formK_false (hbad hv)]
      (focus (have hF := (And.intro @e1 @g1); (repeat' (first | refine go1 (k:=?_) | with_reducible refine Ny.of ?_ ?_ | (refine Hyp.of ?_; intro hc; (try simp only [hc]); (try simp only [Bh] at hc)))); all_goals clear hF))
      exact Fin.tmp' rfl rfl
  · rw [formK_true ⟨fun j q hq => hI.1 j q (by
      rcases Nat.lt_or_ge j l.length with h | h
      · omega
      · rw [List.getElem?_eq_none h] at hq; cases hq) hq, fun j a b ha hb => hI.2 j a b (by
      rcases Nat.lt_or_ge (j + 1) l.length with h | h
      · omega
      · rw [List.getElem?_eq_none h] at hb; cases hb) ha hb⟩]
    (focus (have hF := @e1; (repeat' (first | refine go1 (k:=?_) | with_reducible refine Ny.of ?_ ?_ | (refine Hyp.of ?_; intro hc; (try simp only [hc]); (try simp only [Bh] at hc)))); all_goals clear hF))
    exact Fin.tmp' rfl rfl
theorem ev_k75 (f : Fct) (hw : wtF f ≤ 30000000) : Ev (En Tryz.prog rfl).P 75 [encF f] (.ret (.bool (formF f))) := by
  refine Ev.of_body it_k75 (by simp) (Run.start ?_)
  unfold t_k75 encF
  obtain ⟨w1, w2, w3, w4, w5⟩ := wtF_parts hw
  have hS := stbF
  have hcs := stbW f.adds f.gone.vec f.gone.cloud f.recs
  have c1 := ev_k67 f.adds (by omega)
  have c2 := ev_k68 f.gone (by omega)
  have c3 := ev_k69 f.recs (by omega) (fun r hr => by have := w5 r hr; omega)
  have hch := formF_checks (f := f)
  cases h1 : formE f.adds
  · rw [h1] at c1
    rw [formF_false (fun h => by have := (hch.1 h).1; rw [h1] at this; cases this)]
    (focus (have hF := @hcs; (repeat' (first | refine go1 (k:=?_) | with_reducible refine Ny.of ?_ ?_ | (refine Hyp.of ?_; intro hc; (try simp only [hc]); (try simp only [Bh] at hc)))); all_goals clear hF))
    refine stCall [.sl 4 (encEs f.adds)] (he := c1) (k:=?_)
    (focus (have hF := @hcs; (repeat' (first | refine go1 (k:=?_) | with_reducible refine Ny.of ?_ ?_ | (refine Hyp.of ?_; intro hc; (try simp only [hc]); (try simp only [Bh] at hc)))); all_goals clear hF))
    exact Fin.tmp' rfl rfl
  · rw [h1] at c1
    cases h2 : isNormP f.gone
    · rw [h2] at c2
      rw [formF_false (fun h => by have := (hch.1 h).2.1; rw [h2] at this; cases this)]
      (focus (have hF := @hcs; (repeat' (first | refine go1 (k:=?_) | with_reducible refine Ny.of ?_ ?_ | (refine Hyp.of ?_; intro hc; (try simp only [hc]); (try simp only [Bh] at hc)))); all_goals clear hF))
      refine stCall [.sl 4 (encEs f.adds)] (he := c1) (k:=?_)
      (focus (have hF := @hcs; (repeat' (first | refine go1 (k:=?_) | with_reducible refine Ny.of ?_ ?_ | (refine Hyp.of ?_; intro hc; (try simp only [hc]); (try simp only [Bh] at hc)))); all_goals clear hF))
      refine stCall [encP f.gone] (he := c2) (k:=?_)
      (focus (have hF := @hcs; (repeat' (first | refine go1 (k:=?_) | with_reducible refine Ny.of ?_ ?_ | (refine Hyp.of ?_; intro hc; (try simp only [hc]); (try simp only [Bh] at hc)))); all_goals clear hF))
      exact Fin.tmp' rfl rfl
    · rw [h2] at c2
      have hff : formF f = formK f.recs := by
        cases h3 : formK f.recs
        · exact formF_false (fun h => by have := (hch.1 h).2.2; rw [h3] at this; cases this)
        · exact formF_true (hch.2 ⟨h1, h2, h3⟩)
      rw [hff]
      generalize formK f.recs = v at *
      (focus (have hF := @hcs; (repeat' (first | refine go1 (k:=?_) | with_reducible refine Ny.of ?_ ?_ | (refine Hyp.of ?_; intro hc; (try simp only [hc]); (try simp only [Bh] at hc)))); all_goals clear hF))
      refine stCall [.sl 4 (encEs f.adds)] (he := c1) (k:=?_)
      (focus (have hF := @hcs; (repeat' (first | refine go1 (k:=?_) | with_reducible refine Ny.of ?_ ?_ | (refine Hyp.of ?_; intro hc; (try simp only [hc]); (try simp only [Bh] at hc)))); all_goals clear hF))
      refine stCall [encP f.gone] (he := c2) (k:=?_)
      (focus (have hF := @hcs; (repeat' (first | refine go1 (k:=?_) | with_reducible refine Ny.of ?_ ?_ | (refine Hyp.of ?_; intro hc; (try simp only [hc]); (try simp only [Bh] at hc)))); all_goals clear hF))
      refine stCall [.sl 3 (encKs f.recs)] (he := c3) (k:=?_)
      (focus (have hF := @hcs; (repeat' (first | refine go1 (k:=?_) | with_reducible refine Ny.of ?_ ?_ | (refine Hyp.of ?_; intro hc; (try simp only [hc]); (try simp only [Bh] at hc)))); all_goals clear hF))
      exact Fin.tmp' rfl rfl
theorem ev_k35 (f : Fct) (hw : wtF f ≤ 30000000) : Ev (En Tryz.prog rfl).P 35 [encF f] (.ret (.int .i64 (evErr f))) := by
  refine Ev.of_body it_k35 (by simp) (Run.start ?_)
  unfold t_k35
  obtain ⟨w1, w2, w3, w4, w5⟩ := wtF_parts hw
  have hS := stbF
  have c1 := ev_k75 f hw
  unfold encF at c1 ⊢
  have hcs := stbW f.adds f.gone.vec f.gone.cloud f.recs
  have c2 := ev_k76 f.gone (by omega)
  by_cases hf : FormF f
  case' neg =>
    rw [formF_false hf] at c1
    rw [evErr_bad hf]
    (focus (have hF := @hcs; (repeat' (first | refine go1 (k:=?_) | with_reducible refine Ny.of ?_ ?_ | (refine Hyp.of ?_; intro hc; (try simp only [hc]); (try simp only [Bh] at hc)))); all_goals clear hF))
    refine stCall [_] (he := c1) (k:=?_)
    (focus (have hF := @hcs; (repeat' (first | refine go1 (k:=?_) | with_reducible refine Ny.of ?_ ?_ | (refine Hyp.of ?_; intro hc; (try simp only [hc]); (try simp only [Bh] at hc)))); all_goals clear hF))
    exact Fin.tmp' rfl rfl
  case' pos =>
    rw [formF_true hf] at c1
    rw [evErr_form hf]
    have ea := encEs_len f.adds
    have er := encKs_len f.recs
    have hcs' := hcs
    generalize hA : f.adds = A at *
    generalize hR : f.recs = R at *
    rcases A with _ | ⟨e, _ | ⟨e2, t⟩⟩ <;> rcases R with _ | ⟨r, _ | ⟨r2, t2⟩⟩
    all_goals
      simp only [List.length_nil, List.length_cons, Nat.zero_add] at ea er
      (focus (have hF := (And.intro @hcs (And.intro @ea @er)); (repeat' (first | refine go1 (k:=?_) | with_reducible refine Ny.of ?_ ?_ | (refine Hyp.of ?_; intro hc; (try simp only [hc]); (try simp only [Bh] at hc)))); all_goals clear hF))
      refine stCall [_] (he := c1) (k:=?_)
      (focus (have hF := (And.intro @hcs (And.intro @ea @er)); (repeat' (first | refine go1 (k:=?_) | with_reducible refine Ny.of ?_ ?_ | (refine Hyp.of ?_; intro hc; (try simp only [hc]); (try simp only [Bh] at hc)))); all_goals clear hF))
      refine stCall [encP f.gone] (he := c2) (k:=?_)
    · (focus (have hF := (And.intro @hcs (And.intro @ea @er)); (repeat' (first | refine go1 (k:=?_) | with_reducible refine Ny.of ?_ ?_ | (refine Hyp.of ?_; intro hc; (try simp only [hc]); (try simp only [Bh] at hc)))); all_goals clear hF))
      exact Fin.tmp' rfl rfl
    · by_cases hs : sizeP f.gone = 0
      · simp only [hs, if_true, decide_true]
        (focus (have hF := (And.intro @hcs (And.intro @ea @er)); (repeat' (first | refine go1 (k:=?_) | with_reducible refine Ny.of ?_ ?_ | (refine Hyp.of ?_; intro hc; (try simp only [hc]); (try simp only [Bh] at hc)))); all_goals clear hF))
        exact Fin.tmp' rfl rfl
      · simp only [hs, if_false, decide_false]
        (focus (have hF := (And.intro @hcs (And.intro @ea @er)); (repeat' (first | refine go1 (k:=?_) | with_reducible refine Ny.of ?_ ?_ | (refine Hyp.of ?_; intro hc; (try simp only [hc]); (try simp only [Bh] at hc)))); all_goals clear hF))
        exact Fin.tmp' rfl rfl
    · (focus (have hF := (And.intro @hcs (And.intro @ea @er)); (repeat' (first | refine go1 (k:=?_) | with_reducible refine Ny.of ?_ ?_ | (refine Hyp.of ?_; intro hc; (try simp only [hc]); (try simp only [Bh] at hc)))); all_goals clear hF))
      all_goals first | (exfalso; omega) | exact Fin.tmp' rfl rfl
    · have g1 : (encEs [e])[0]? = some (.agg [.int .i64 e.rep, .int .i64 e.num, .str e.sku, .int .i64 e.qty]) := rfl
      have c3 := ev_k77 f.gone e.rep (by omega)
      (focus (have hF := (And.intro (And.intro @hcs @ea) (And.intro @er @g1)); (repeat' (first | refine go1 (k:=?_) | with_reducible refine Ny.of ?_ ?_ | (refine Hyp.of ?_; intro hc; (try simp only [hc]); (try simp only [Bh] at hc)))); all_goals clear hF))
      refine stCall [encP f.gone, .int .i64 e.rep] (he := c3) (k:=?_)
      by_cases hl : lastP f.gone e.rep < e.num
      · simp only [hl, if_true]
        (focus (have hF := (And.intro (And.intro @hcs @ea) (And.intro @er @g1)); (repeat' (first | refine go1 (k:=?_) | with_reducible refine Ny.of ?_ ?_ | (refine Hyp.of ?_; intro hc; (try simp only [hc]); (try simp only [Bh] at hc)))); all_goals clear hF))
        exact Fin.tmp' rfl rfl
      · simp only [hl, if_false]
        (focus (have hF := (And.intro (And.intro @hcs @ea) (And.intro @er @g1)); (repeat' (first | refine go1 (k:=?_) | with_reducible refine Ny.of ?_ ?_ | (refine Hyp.of ?_; intro hc; (try simp only [hc]); (try simp only [Bh] at hc)))); all_goals clear hF))
        exact Fin.tmp' rfl rfl
    all_goals
      (focus (have hF := (And.intro @hcs (And.intro @ea @er)); (repeat' (first | refine go1 (k:=?_) | with_reducible refine Ny.of ?_ ?_ | (refine Hyp.of ?_; intro hc; (try simp only [hc]); (try simp only [Bh] at hc)))); all_goals clear hF))
      all_goals first | (exfalso; omega) | exact Fin.tmp' rfl rfl
def spansD (ds : List Rn) : List Sn := ds.map fun d => (d.1, d.2, d.2)
theorem spansD_take {ds : List Rn} {i : Nat} {d : Rn} (h : ds[i]? = some d) : spansD (ds.take (i + 1)) = spansD (ds.take i) ++ [(d.1, d.2, d.2)] := by
  unfold spansD
  rw [List.take_add_one, h, List.map_append]
  rfl
theorem norm_spans (ds : List Rn) : normP ⟨[], spansD ds⟩ = ofP ds := by
  refine (canP_norm _).ext (canP_of2 ds) fun r hr n => ?_
  rw [normP_in _ hr, ofP_in ds hr]
  unfold inP spansD
  constructor
  · rintro ⟨_, h1, h2, h3⟩
    refine ⟨h1, h2, ?_⟩
    rcases h3 with ⟨h3, _⟩ | ⟨s, hs, a1, a2, a3⟩
    · simp at h3
    · obtain ⟨d, hd, rfl⟩ := List.mem_map.1 hs
      simp only at a1 a2 a3
      have : d = ((r : Int), n) := by
        cases d with
        | mk x y => simp only at a1 a2 a3; rw [a1, show y = n by omega]
      rw [← this]
      exact hd
  · rintro ⟨h1, h2, h3⟩
    exact ⟨hr, h1, h2, .inr ⟨((r : Int), n, n), List.mem_map.2 ⟨_, h3, rfl⟩, rfl, Int.le_refl _, Int.le_refl _⟩⟩
theorem ev_k121 (ds : List Rn) (hl : ds.length ≤ 10000000) : Ev (En Tryz.prog rfl).P 121 [.sl 2 (encRs ds)] (.ret (encP (ofP ds))) := by
  refine Ev.of_body it_k121 (by simp) (Run.start ?_)
  unfold t_k121
  have e1 := encRs_len ds
  have hS := stbF
  (focus (have hF := @e1; (repeat' (first | refine go1 (k:=?_) | with_reducible refine Ny.of ?_ ?_ | (refine Hyp.of ?_; intro hc; (try simp only [hc]); (try simp only [Bh] at hc)))); all_goals clear hF))
  refine Run.wk (Wk.own_cells (k := 3) (cs' := [.own 1 [], .own 3 []]) rfl rfl ?_) ?_
  · intro i x y hx hy
    match i with
    | 0 => simp at hx hy; subst hx; subst hy; exact .inr ⟨rfl, 1, rfl⟩
    | 1 => simp at hx hy; subst hx; subst hy; exact .inr ⟨rfl, 3, rfl⟩
    | i + 2 => simp at hx
  refine Run.while (σ := Nat) (fun i => ⟨tms [(0, .sl 2 (encRs ds)), (2, .ptr 2 0), (3, .ptr 3 0), (4, .int .i64 (i : Int))], mms [(2, .cells [.nil, .nil]), (3, .cells [.own 1 [], .own 3 (encSs (spansD (ds.take i)))])]⟩)
    (fun i => i ≤ ds.length) (fun i => ds.length - i) 0 (have hW := @encRs_stb; stWk) (Nat.zero_le _) ?_
  intro i hi
  unfold t_k121_l1
  by_cases hlt : i < ds.length
  · obtain ⟨d, hd⟩ : ∃ d, ds[i]? = some d := ⟨ds[i], by simp [hlt]⟩
    have g1 : (encRs ds)[i]? = some (.agg [.int .i64 d.1, .int .i64 d.2]) := encRs_get hd
    have hst := spansD_take hd
    have hle : (spansD (ds.take i)).length ≤ ds.length := by unfold spansD; rw [List.length_map, List.length_take]; omega
    generalize spansD (ds.take i) = sp at *
    have e2 := encSs_len sp
    (focus (have hF := (And.intro @e1 (And.intro @e2 @g1)); (repeat' (first | refine go1 (k:=?_) | with_reducible refine Ny.of ?_ ?_ | (refine Hyp.of ?_; intro hc; (try simp only [hc]); (try simp only [Bh] at hc)))); all_goals clear hF))
    (focus (have hF := (And.intro @e1 (And.intro @e2 @g1)); (repeat' (first | refine go2 (k:=?_) | with_reducible refine Ny.of ?_ ?_ | (refine Hyp.of ?_; intro hc; (try simp only [hc]); (try simp only [Bh] at hc)))); all_goals clear hF))
    (refine Fin.nextW (i + 1) ?_ (have hW := (And.intro @encRs_stb (And.intro @hst @encSs_snoc)); stWk); (try dsimp only))
    omega
  · rw [List.take_of_length_le (show ds.length ≤ i by omega)]
    have hsl : (spansD ds).length = ds.length := by simp [spansD]
    have c1 := ev_k117 ⟨[], spansD ds⟩ (by show 0 + (spansD ds).length ≤ _; omega)
    rw [norm_spans] at c1
    refine Run.wk (Wk.freeze (k := 3) (cs := [.own 1 [], .own 3 (encSs (spansD ds))]) rfl) ?_
    (focus (have hF := @e1; (repeat' (first | refine go1 (k:=?_) | with_reducible refine Ny.of ?_ ?_ | (refine Hyp.of ?_; intro hc; (try simp only [hc]); (try simp only [Bh] at hc)))); all_goals clear hF))
    refine stCall [encP ⟨[], spansD ds⟩] (he := c1) (k:=?_)
    unfold encP
    (focus (have hF := @e1; (repeat' (first | refine go1 (k:=?_) | with_reducible refine Ny.of ?_ ?_ | (refine Hyp.of ?_; intro hc; (try simp only [hc]); (try simp only [Bh] at hc)))); all_goals clear hF))
    exact Fin.all (xs := [encP (ofP ds)]) (by with_unfolding_all rfl) (by simp [stbs, encP_stb]) rfl

def r_k37_1 : List SOp := [⟨some 1,.box 29 (.tmp 0),none⟩,⟨some 2,.alloc 31,none⟩]
instance : Live r_k37_1 := ⟨[0]⟩
def r_k37_2 : List SOp := [⟨some 4,.load 29 (.tmp 1),none⟩,⟨some 5,.call ⟨.value (.func 81),#[.tmp 4],#[29]⟩,none⟩,⟨some 3,.alloc 26,none⟩,⟨none,.store 26 (.tmp 3) (.tmp 5),none⟩]
instance : Live r_k37_2 := ⟨[1,2]⟩
def r_k37_3 : List SOp := [⟨some 6,.load 29 (.tmp 1),none⟩,⟨some 7,.call ⟨.value (.func 82),#[.tmp 6],#[29]⟩,none⟩,⟨some 8,.load 26 (.tmp 3),none⟩,⟨some 9,.fieldAddr 29 (.tmp 1) 2,none⟩,⟨some 10,.load 27 (.tmp 9),none⟩,⟨some 11,.load 26 (.tmp 3),none⟩,⟨some 12,.call ⟨.value (.func 83),#[.tmp 10,.tmp 11],#[27,26]⟩,none⟩,⟨some 13,.build 31 #[(0,.tmp 7),(1,.tmp 8),(2,.tmp 12)],none⟩,⟨none,.store 31 (.tmp 2) (.tmp 13),none⟩]
instance : Live r_k37_3 := ⟨[1,2,3]⟩
def t_k37 : SC :=
  (.seq (.ops false r_k37_1) (.seq (.ops false r_k37_2) (.seq (.ops true r_k37_3) .ret)))
theorem it_k37 : FnIs Tryz.prog 37 14 [.cell 2 31] t_k37 := ⟨Tryz.f37, _, Tryz.func37, rfl, rfl, rfl, rfl, by kernel_rfl⟩

def r_k16_1 : List SOp := [⟨some 1,.box 29 (.tmp 0),none⟩,⟨some 2,.alloc 31,none⟩,⟨some 3,.assign (.const (.int .i64 0)),none⟩]
instance : Live r_k16_1 := ⟨[0]⟩
def r_k16_2 : List SOp := [⟨some 5,.load 29 (.tmp 1),none⟩,⟨some 6,.call ⟨.value (.func 35),#[.tmp 5],#[29]⟩,none⟩,⟨some 4,.assign (.tmp 6),none⟩]
instance : Live r_k16_2 := ⟨[1,2]⟩
def r_k16_3 : List SOp := [⟨some 7,.move (.tmp 4),none⟩,⟨some 8,.binOp .neq 32 (.tmp 7) (.const (.int .i64 0)) 32,none⟩]
instance : Live r_k16_3 := ⟨[1,2,4]⟩
def r_k16_4 : List SOp := [⟨some 9,.build 31 #[],none⟩,⟨some 10,.move (.tmp 4),none⟩,⟨none,.store 31 (.tmp 2) (.tmp 9),none⟩,⟨some 3,.assign (.tmp 10),none⟩]
instance : Live r_k16_4 := ⟨[2,4]⟩
def r_k16_5 : List SOp := [⟨some 11,.load 29 (.tmp 1),none⟩,⟨some 12,.call ⟨.value (.func 37),#[.tmp 11],#[29]⟩,none⟩,⟨none,.store 31 (.tmp 2) (.tmp 12),none⟩,⟨some 3,.assign (.const (.int .i64 0)),none⟩]
instance : Live r_k16_5 := ⟨[1,2]⟩
def t_k16 : SC :=
  (.seq (.ops false r_k16_1) (.seq (.ops false r_k16_2) (.seq (.seq (.ops false r_k16_3) (.cond (.tmp 8) (.seq (.ops false r_k16_4) .ret) .skip)) (.seq (.ops false r_k16_5) .ret))))
theorem it_k16 : FnIs Tryz.prog 16 13 [.cell 2 31, .tmp 3] t_k16 := ⟨Tryz.f16, _, Tryz.func16, rfl, rfl, rfl, rfl, by kernel_rfl⟩

def r_k81_1 : List SOp := [⟨some 1,.box 29 (.tmp 0),none⟩,⟨some 2,.alloc 26,none⟩]
instance : Live r_k81_1 := ⟨[0]⟩
def r_k81_2 : List SOp := [⟨some 3,.fieldAddr 29 (.tmp 1) 0,none⟩,⟨some 4,.load 22 (.tmp 3),none⟩,⟨some 5,.call ⟨.value (.func 71),#[.tmp 4,.const (.string ⟨#[]⟩),.const (.int .i64 (-1))],#[22,9,3]⟩,none⟩,⟨some 6,.fieldAddr 29 (.tmp 1) 1,none⟩,⟨some 7,.load 26 (.tmp 6),none⟩,⟨some 8,.buildSlice 116 2 #[(0,.tmp 5),(1,.tmp 7)],none⟩,⟨some 9,.call ⟨.value (.func 79),#[.tmp 8],#[116]⟩,none⟩,⟨none,.store 26 (.tmp 2) (.tmp 9),none⟩]
instance : Live r_k81_2 := ⟨[1,2]⟩
def t_k81 : SC :=
  (.seq (.ops false r_k81_1) (.seq (.ops true r_k81_2) .ret))
theorem it_k81 : FnIs Tryz.prog 81 10 [.cell 2 26] t_k81 := ⟨Tryz.f81, _, Tryz.func81, rfl, rfl, rfl, rfl, by kernel_rfl⟩

def r_k82_1 : List SOp := [⟨some 1,.box 29 (.tmp 0),none⟩,⟨some 2,.assign (.const (.slice none 0 0)),none⟩]
instance : Live r_k82_1 := ⟨[0]⟩
def r_k82_2 : List SOp := [⟨some 3,.assign (.const (.slice none 0 0)),none⟩]
instance : Live r_k82_2 := ⟨[1]⟩
def r_k82_3 : List SOp := [⟨some 4,.assign (.const (.int .i64 0)),none⟩]
instance : Live r_k82_3 := ⟨[1,3]⟩
def r_k82_4 : List SOp := [⟨some 7,.move (.tmp 4),none⟩,⟨some 8,.fieldAddr 29 (.tmp 1) 0,none⟩,⟨some 9,.load 22 (.tmp 8),none⟩,⟨some 10,.call ⟨.builtin .len,#[.tmp 9],#[22]⟩,none⟩,⟨some 11,.binOp .lss 3 (.tmp 7) (.tmp 10) 3,none⟩]
instance : Live r_k82_4 := ⟨[1,3,4]⟩
def r_k82_5 : List SOp := [⟨some 14,.fieldAddr 29 (.tmp 1) 1,none⟩,⟨some 15,.load 26 (.tmp 14),none⟩,⟨some 16,.fieldAddr 29 (.tmp 1) 0,none⟩,⟨some 17,.load 22 (.tmp 16),none⟩,⟨some 18,.move (.tmp 4),none⟩,⟨some 19,.indexAddr 22 (.tmp 17) (.tmp 18),none⟩,⟨some 20,.fieldAddr 62 (.tmp 19) 0,none⟩,⟨some 21,.load 41 (.tmp 20),none⟩,⟨some 22,.call ⟨.value (.func 62),#[.tmp 15,.tmp 21],#[26,41]⟩,none⟩,⟨some 23,.unOp .not 4 (.tmp 22),none⟩,⟨some 5,.assign (.tmp 23),none⟩]
instance : Live r_k82_5 := ⟨[1,3,4]⟩
def r_k82_6 : List SOp := [⟨some 6,.assign (.const (.int .i64 0)),none⟩]
instance : Live r_k82_6 := ⟨[1,3,4,5]⟩
def r_k82_7 : List SOp := [⟨some 24,.move (.tmp 6),none⟩,⟨some 25,.fieldAddr 29 (.tmp 1) 2,none⟩,⟨some 26,.load 27 (.tmp 25),none⟩,⟨some 27,.call ⟨.builtin .len,#[.tmp 26],#[27]⟩,none⟩,⟨some 28,.binOp .lss 3 (.tmp 24) (.tmp 27) 3,none⟩]
instance : Live r_k82_7 := ⟨[1,3,4,5,6]⟩
def r_k82_8 : List SOp := [⟨some 31,.move (.tmp 5),none⟩,⟨some 32,.move (.tmp 31),none⟩,⟨some 33,.fieldAddr 29 (.tmp 1) 2,some ((some 32),true)⟩,⟨some 34,.load 27 (.tmp 33),some ((some 32),true)⟩,⟨some 35,.move (.tmp 6),some ((some 32),true)⟩,⟨some 36,.indexAddr 27 (.tmp 34) (.tmp 35),some ((some 32),true)⟩,⟨some 37,.load 91 (.tmp 36),some ((some 32),true)⟩,⟨some 38,.fieldAddr 29 (.tmp 1) 0,some ((some 32),true)⟩,⟨some 39,.load 22 (.tmp 38),some ((some 32),true)⟩,⟨some 40,.move (.tmp 4),some ((some 32),true)⟩,⟨some 41,.indexAddr 22 (.tmp 39) (.tmp 40),some ((some 32),true)⟩,⟨some 42,.load 62 (.tmp 41),some ((some 32),true)⟩,⟨some 43,.call ⟨.value (.func 72),#[.tmp 37,.tmp 42],#[91,62]⟩,some ((some 32),true)⟩,⟨some 44,.unOp .not 4 (.tmp 43),some ((some 32),true)⟩,⟨some 45,.pick (.tmp 32) (.tmp 44) (.const (.bool false)),none⟩,⟨some 5,.assign (.tmp 45),none⟩]
instance : Live r_k82_8 := ⟨[1,3,4,5,6]⟩
def r_k82_9 : List SOp := [⟨some 29,.move (.tmp 6),none⟩,⟨some 30,.binOp .add 3 (.tmp 29) (.const (.int .i64 1)) 3,none⟩,⟨some 6,.assign (.tmp 30),none⟩]
instance : Live r_k82_9 := ⟨[1,3,4,5,6]⟩
def r_k82_10 : List SOp := [⟨some 46,.move (.tmp 5),none⟩]
instance : Live r_k82_10 := ⟨[1,3,4,5]⟩
def r_k82_11 : List SOp := [⟨some 47,.move (.tmp 3),none⟩,⟨some 48,.fieldAddr 29 (.tmp 1) 0,none⟩,⟨some 49,.load 22 (.tmp 48),none⟩,⟨some 50,.move (.tmp 4),none⟩,⟨some 51,.indexAddr 22 (.tmp 49) (.tmp 50),none⟩,⟨some 52,.load 62 (.tmp 51),none⟩,⟨some 53,.buildSlice 22 1 #[(0,.tmp 52)],none⟩,⟨some 54,.call ⟨.builtin .append,#[.tmp 47,.tmp 53],#[22,22]⟩,none⟩,⟨some 3,.assign (.tmp 54),none⟩]
instance : Live r_k82_11 := ⟨[1,3,4]⟩
def r_k82_12 : List SOp := [⟨some 12,.move (.tmp 4),none⟩,⟨some 13,.binOp .add 3 (.tmp 12) (.const (.int .i64 1)) 3,none⟩,⟨some 4,.assign (.tmp 13),none⟩]
instance : Live r_k82_12 := ⟨[1,3,4]⟩
def r_k82_13 : List SOp := [⟨some 55,.move (.tmp 3),none⟩,⟨some 2,.assign (.tmp 55),none⟩]
instance : Live r_k82_13 := ⟨[3]⟩
def t_k82_l2 : SC :=
  (.seq (.seq (.ops false r_k82_7) (.cond (.tmp 28) .skip (.exit 2))) (.seq (.block 3 (.ops true r_k82_8)) (.ops false r_k82_9)))
def t_k82_l1 : SC :=
  (.seq (.seq (.ops false r_k82_4) (.cond (.tmp 11) .skip (.exit 0))) (.seq (.block 1 (.seq (.ops true r_k82_5) (.seq (.seq (.ops false r_k82_6) (.block 2 (.loop t_k82_l2))) (.seq (.ops false r_k82_10) (.cond (.tmp 46) (.ops false r_k82_11) .skip))))) (.ops false r_k82_12)))
def t_k82 : SC :=
  (.seq (.ops false r_k82_1) (.seq (.ops false r_k82_2) (.seq (.seq (.ops false r_k82_3) (.block 0 (.loop t_k82_l1))) (.seq (.ops false r_k82_13) .ret))))
theorem it_k82 : FnIs Tryz.prog 82 56 [.tmp 2] t_k82 := ⟨Tryz.f82, _, Tryz.func82, rfl, rfl, rfl, rfl, by kernel_rfl⟩

def r_k83_1 : List SOp := [⟨some 3,.box 26 (.tmp 1),none⟩,⟨some 4,.assign (.const (.slice none 0 0)),none⟩]
instance : Live r_k83_1 := ⟨[0,1]⟩
def r_k83_2 : List SOp := [⟨some 5,.assign (.const (.slice none 0 0)),none⟩]
instance : Live r_k83_2 := ⟨[0,3]⟩
def r_k83_3 : List SOp := [⟨some 6,.assign (.const (.int .i64 0)),none⟩]
instance : Live r_k83_3 := ⟨[0,3,5]⟩
def r_k83_4 : List SOp := [⟨some 7,.move (.tmp 6),none⟩,⟨some 8,.move (.tmp 0),none⟩,⟨some 9,.call ⟨.builtin .len,#[.tmp 8],#[27]⟩,none⟩,⟨some 10,.binOp .lss 3 (.tmp 7) (.tmp 9) 3,none⟩]
instance : Live r_k83_4 := ⟨[0,3,5,6]⟩
def r_k83_5 : List SOp := [⟨some 13,.move (.tmp 0),none⟩,⟨some 14,.move (.tmp 6),none⟩,⟨some 15,.indexAddr 27 (.tmp 13) (.tmp 14),none⟩,⟨some 16,.fieldAddr 91 (.tmp 15) 1,none⟩,⟨some 17,.load 26 (.tmp 16),none⟩,⟨some 18,.load 26 (.tmp 3),none⟩,⟨some 19,.call ⟨.value (.func 70),#[.tmp 17,.tmp 18],#[26,26]⟩,none⟩,⟨some 20,.unOp .not 4 (.tmp 19),none⟩]
instance : Live r_k83_5 := ⟨[0,3,5,6]⟩
def r_k83_6 : List SOp := [⟨some 21,.move (.tmp 5),none⟩,⟨some 22,.move (.tmp 0),none⟩,⟨some 23,.move (.tmp 6),none⟩,⟨some 24,.indexAddr 27 (.tmp 22) (.tmp 23),none⟩,⟨some 25,.load 91 (.tmp 24),none⟩,⟨some 26,.buildSlice 27 1 #[(0,.tmp 25)],none⟩,⟨some 27,.call ⟨.builtin .append,#[.tmp 21,.tmp 26],#[27,27]⟩,none⟩,⟨some 5,.assign (.tmp 27),none⟩]
instance : Live r_k83_6 := ⟨[0,3,5,6]⟩
def r_k83_7 : List SOp := [⟨some 11,.move (.tmp 6),none⟩,⟨some 12,.binOp .add 3 (.tmp 11) (.const (.int .i64 1)) 3,none⟩,⟨some 6,.assign (.tmp 12),none⟩]
instance : Live r_k83_7 := ⟨[0,3,5,6]⟩
def r_k83_8 : List SOp := [⟨some 28,.move (.tmp 5),none⟩,⟨some 4,.assign (.tmp 28),none⟩]
instance : Live r_k83_8 := ⟨[5]⟩
def t_k83_l1 : SC :=
  (.seq (.seq (.ops false r_k83_4) (.cond (.tmp 10) .skip (.exit 0))) (.seq (.block 1 (.seq (.ops true r_k83_5) (.cond (.tmp 20) (.ops false r_k83_6) .skip))) (.ops false r_k83_7)))
def t_k83 : SC :=
  (.seq (.ops false r_k83_1) (.seq (.ops false r_k83_2) (.seq (.seq (.ops false r_k83_3) (.block 0 (.loop t_k83_l1))) (.seq (.ops false r_k83_8) .ret))))
theorem it_k83 : FnIs Tryz.prog 83 29 [.tmp 4] t_k83 := ⟨Tryz.f83, _, Tryz.func83, rfl, rfl, rfl, rfl, by kernel_rfl⟩

def r_k15_1 : List SOp := [⟨some 2,.box 31 (.tmp 0),none⟩,⟨some 3,.box 31 (.tmp 1),none⟩,⟨some 4,.assign (.const (.bool false)),none⟩]
instance : Live r_k15_1 := ⟨[0,1]⟩
def r_k15_2 : List SOp := [⟨some 7,.fieldAddr 31 (.tmp 2) 0,none⟩,⟨some 8,.load 22 (.tmp 7),none⟩,⟨some 9,.call ⟨.builtin .len,#[.tmp 8],#[22]⟩,none⟩,⟨some 10,.fieldAddr 31 (.tmp 3) 0,none⟩,⟨some 11,.load 22 (.tmp 10),none⟩,⟨some 12,.call ⟨.builtin .len,#[.tmp 11],#[22]⟩,none⟩,⟨some 13,.binOp .neq 3 (.tmp 9) (.tmp 12) 3,none⟩,⟨some 14,.move (.tmp 13),none⟩,⟨some 15,.fieldAddr 31 (.tmp 2) 1,some ((some 14),false)⟩,⟨some 16,.load 26 (.tmp 15),some ((some 14),false)⟩,⟨some 17,.fieldAddr 31 (.tmp 3) 1,some ((some 14),false)⟩,⟨some 18,.load 26 (.tmp 17),some ((some 14),false)⟩,⟨some 19,.call ⟨.value (.func 50),#[.tmp 16,.tmp 18],#[26,26]⟩,some ((some 14),false)⟩,⟨some 20,.unOp .not 4 (.tmp 19),some ((some 14),false)⟩,⟨some 21,.pick (.tmp 14) (.const (.bool true)) (.tmp 20),none⟩,⟨some 22,.move (.tmp 21),none⟩,⟨some 23,.fieldAddr 31 (.tmp 2) 2,some ((some 22),false)⟩,⟨some 24,.load 27 (.tmp 23),some ((some 22),false)⟩,⟨some 25,.call ⟨.builtin .len,#[.tmp 24],#[27]⟩,some ((some 22),false)⟩,⟨some 26,.fieldAddr 31 (.tmp 3) 2,some ((some 22),false)⟩,⟨some 27,.load 27 (.tmp 26),some ((some 22),false)⟩,⟨some 28,.call ⟨.builtin .len,#[.tmp 27],#[27]⟩,some ((some 22),false)⟩,⟨some 29,.binOp .neq 3 (.tmp 25) (.tmp 28) 3,some ((some 22),false)⟩,⟨some 30,.pick (.tmp 22) (.const (.bool true)) (.tmp 29),none⟩]
instance : Live r_k15_2 := ⟨[2,3]⟩
def r_k15_3 : List SOp := [⟨some 4,.assign (.const (.bool false)),none⟩]
instance : Live r_k15_3 := ⟨[]⟩
def r_k15_4 : List SOp := [⟨some 5,.assign (.const (.int .i64 0)),none⟩]
instance : Live r_k15_4 := ⟨[2,3]⟩
def r_k15_5 : List SOp := [⟨some 31,.move (.tmp 5),none⟩,⟨some 32,.fieldAddr 31 (.tmp 2) 0,none⟩,⟨some 33,.load 22 (.tmp 32),none⟩,⟨some 34,.call ⟨.builtin .len,#[.tmp 33],#[22]⟩,none⟩,⟨some 35,.binOp .lss 3 (.tmp 31) (.tmp 34) 3,none⟩]
instance : Live r_k15_5 := ⟨[2,3,5]⟩
def r_k15_6 : List SOp := [⟨some 38,.fieldAddr 31 (.tmp 2) 0,none⟩,⟨some 39,.load 22 (.tmp 38),none⟩,⟨some 40,.move (.tmp 5),none⟩,⟨some 41,.indexAddr 22 (.tmp 39) (.tmp 40),none⟩,⟨some 42,.load 62 (.tmp 41),none⟩,⟨some 43,.fieldAddr 31 (.tmp 3) 0,none⟩,⟨some 44,.load 22 (.tmp 43),none⟩,⟨some 45,.move (.tmp 5),none⟩,⟨some 46,.indexAddr 22 (.tmp 44) (.tmp 45),none⟩,⟨some 47,.load 62 (.tmp 46),none⟩,⟨some 48,.binOp .neq 62 (.tmp 42) (.tmp 47) 62,none⟩]
instance : Live r_k15_6 := ⟨[2,3,5]⟩
def r_k15_7 : List SOp := [⟨some 4,.assign (.const (.bool false)),none⟩]
instance : Live r_k15_7 := ⟨[]⟩
def r_k15_8 : List SOp := [⟨some 36,.move (.tmp 5),none⟩,⟨some 37,.binOp .add 3 (.tmp 36) (.const (.int .i64 1)) 3,none⟩,⟨some 5,.assign (.tmp 37),none⟩]
instance : Live r_k15_8 := ⟨[2,3,5]⟩
def r_k15_9 : List SOp := [⟨some 6,.assign (.const (.int .i64 0)),none⟩]
instance : Live r_k15_9 := ⟨[2,3]⟩
def r_k15_10 : List SOp := [⟨some 49,.move (.tmp 6),none⟩,⟨some 50,.fieldAddr 31 (.tmp 2) 2,none⟩,⟨some 51,.load 27 (.tmp 50),none⟩,⟨some 52,.call ⟨.builtin .len,#[.tmp 51],#[27]⟩,none⟩,⟨some 53,.binOp .lss 3 (.tmp 49) (.tmp 52) 3,none⟩]
instance : Live r_k15_10 := ⟨[2,3,6]⟩
def r_k15_11 : List SOp := [⟨some 56,.fieldAddr 31 (.tmp 2) 2,none⟩,⟨some 57,.load 27 (.tmp 56),none⟩,⟨some 58,.move (.tmp 6),none⟩,⟨some 59,.indexAddr 27 (.tmp 57) (.tmp 58),none⟩,⟨some 60,.fieldAddr 91 (.tmp 59) 0,none⟩,⟨some 61,.load 9 (.tmp 60),none⟩,⟨some 62,.fieldAddr 31 (.tmp 3) 2,none⟩,⟨some 63,.load 27 (.tmp 62),none⟩,⟨some 64,.move (.tmp 6),none⟩,⟨some 65,.indexAddr 27 (.tmp 63) (.tmp 64),none⟩,⟨some 66,.fieldAddr 91 (.tmp 65) 0,none⟩,⟨some 67,.load 9 (.tmp 66),none⟩,⟨some 68,.binOp .neq 9 (.tmp 61) (.tmp 67) 9,none⟩,⟨some 69,.move (.tmp 68),none⟩,⟨some 70,.fieldAddr 31 (.tmp 2) 2,some ((some 69),false)⟩,⟨some 71,.load 27 (.tmp 70),some ((some 69),false)⟩,⟨some 72,.move (.tmp 6),some ((some 69),false)⟩,⟨some 73,.indexAddr 27 (.tmp 71) (.tmp 72),some ((some 69),false)⟩,⟨some 74,.fieldAddr 91 (.tmp 73) 1,some ((some 69),false)⟩,⟨some 75,.load 26 (.tmp 74),some ((some 69),false)⟩,⟨some 76,.fieldAddr 31 (.tmp 3) 2,some ((some 69),false)⟩,⟨some 77,.load 27 (.tmp 76),some ((some 69),false)⟩,⟨some 78,.move (.tmp 6),some ((some 69),false)⟩,⟨some 79,.indexAddr 27 (.tmp 77) (.tmp 78),some ((some 69),false)⟩,⟨some 80,.fieldAddr 91 (.tmp 79) 1,some ((some 69),false)⟩,⟨some 81,.load 26 (.tmp 80),some ((some 69),false)⟩,⟨some 82,.call ⟨.value (.func 50),#[.tmp 75,.tmp 81],#[26,26]⟩,some ((some 69),false)⟩,⟨some 83,.unOp .not 4 (.tmp 82),some ((some 69),false)⟩,⟨some 84,.pick (.tmp 69) (.const (.bool true)) (.tmp 83),none⟩]
instance : Live r_k15_11 := ⟨[2,3,6]⟩
def r_k15_12 : List SOp := [⟨some 4,.assign (.const (.bool false)),none⟩]
instance : Live r_k15_12 := ⟨[]⟩
def r_k15_13 : List SOp := [⟨some 54,.move (.tmp 6),none⟩,⟨some 55,.binOp .add 3 (.tmp 54) (.const (.int .i64 1)) 3,none⟩,⟨some 6,.assign (.tmp 55),none⟩]
instance : Live r_k15_13 := ⟨[2,3,6]⟩
def r_k15_14 : List SOp := [⟨some 4,.assign (.const (.bool true)),none⟩]
instance : Live r_k15_14 := ⟨[]⟩
def t_k15_l1 : SC :=
  (.seq (.seq (.ops false r_k15_5) (.cond (.tmp 35) .skip (.exit 0))) (.seq (.block 1 (.seq (.ops true r_k15_6) (.cond (.tmp 48) (.seq (.ops false r_k15_7) .ret) .skip))) (.ops false r_k15_8)))
def t_k15_l2 : SC :=
  (.seq (.seq (.ops false r_k15_10) (.cond (.tmp 53) .skip (.exit 2))) (.seq (.block 3 (.seq (.ops true r_k15_11) (.cond (.tmp 84) (.seq (.ops false r_k15_12) .ret) .skip))) (.ops false r_k15_13)))
def t_k15 : SC :=
  (.seq (.ops false r_k15_1) (.seq (.seq (.ops false r_k15_2) (.cond (.tmp 30) (.seq (.ops false r_k15_3) .ret) .skip)) (.seq (.seq (.ops false r_k15_4) (.block 0 (.loop t_k15_l1))) (.seq (.seq (.ops false r_k15_9) (.block 2 (.loop t_k15_l2))) (.seq (.ops false r_k15_14) .ret)))))
theorem it_k15 : FnIs Tryz.prog 15 85 [.tmp 4] t_k15 := ⟨Tryz.f15, _, Tryz.func15, rfl, rfl, rfl, rfl, by kernel_rfl⟩

theorem ev_k71 (l : List Ent) (hl : l.length ≤ 10000000) : Ev (En Tryz.prog rfl).P 71 [.sl 4 (encEs l), .str ⟨#[]⟩, .int .i64 (-1)] (.ret (encP (dotsP l))) := by
  refine Ev.of_body it_k71 (by simp) (Run.start ?_)
  unfold t_k71
  have e1 := encEs_len l
  have hS := stbF
  (focus (have hF := @e1; (repeat' (first | refine go1 (k:=?_) | with_reducible refine Ny.of ?_ ?_ | (refine Hyp.of ?_; intro hc; (try simp only [hc]); (try simp only [Bh] at hc)))); all_goals clear hF))
  refine Run.wk (Wk.own_nil 7 47 2 rfl rfl) ?_
  refine Run.while (σ := Nat) (fun i => ⟨tms [(0, .sl 4 (encEs l)), (1, .str ⟨#[]⟩), (2, .int .i64 (-1)), (6, .ptr 6 0), (7, .os 47 i), (8, .int .i64 (i : Int))], mms [(6, .cells [.nil, .nil]), (47, .arr i 2 (encRs ((l.take i).map Ent.dot)))]⟩)
    (fun i => i ≤ l.length) (fun i => l.length - i) 0 (have hW := (And.intro @encEs_stb @encRs_stb); stWk) (Nat.zero_le _) ?_
  intro i hi
  unfold t_k71_l1
  by_cases hlt : i < l.length
  · obtain ⟨e, he⟩ : ∃ e, l[i]? = some e := ⟨l[i], by simp [hlt]⟩
    have g1 := encEs_get he
    have hst : (l.take (i + 1)).map Ent.dot = (l.take i).map Ent.dot ++ [(e.rep, e.num)] := by rw [List.take_add_one, he, List.map_append]; rfl
    have hlen : ((l.take i).map Ent.dot).length ≤ l.length := by rw [List.length_map, List.length_take]; omega
    generalize (l.take i).map Ent.dot = ds at *
    have e2 := encRs_len ds
    have hs0 : ((⟨#[]⟩ : ByteArray) = ⟨#[]⟩) = True := by simp
    (focus (have hF := (And.intro (And.intro @e1 @e2) (And.intro @g1 (And.intro @hs0 @decide_true))); (repeat' (first | refine go1 (k:=?_) | with_reducible refine Ny.of ?_ ?_ | (refine Hyp.of ?_; intro hc; (try simp only [hc]); (try simp only [Bh] at hc)))); all_goals clear hF))
    (refine Fin.nextW (i + 1) ?_ (have hW := (And.intro (And.intro @encEs_stb @encRs_stb) (And.intro @hst @encRs_snoc)); stWk); (try dsimp only))
    omega
  · rw [List.take_of_length_le (show l.length ≤ i by omega)]
    have hll : (l.map Ent.dot).length = l.length := by simp
    have c1 := ev_k121 (l.map Ent.dot) (by omega)
    (focus (have hF := @e1; (repeat' (first | refine go1 (k:=?_) | with_reducible refine Ny.of ?_ ?_ | (refine Hyp.of ?_; intro hc; (try simp only [hc]); (try simp only [Bh] at hc)))); all_goals clear hF))
    refine stGive (fun j => j == 47) [.sl 2 (encRs (l.map Ent.dot))] (he := c1) (k:=?_)
    (focus (have hF := @e1; (repeat' (first | refine go1 (k:=?_) | with_reducible refine Ny.of ?_ ?_ | (refine Hyp.of ?_; intro hc; (try simp only [hc]); (try simp only [Bh] at hc)))); all_goals clear hF))
    exact Fin.all (xs := [encP (dotsP l)]) (by with_unfolding_all rfl) (by simp [stbs, encP_stb]) rfl
theorem ev_k81 (f : Fct) (hw : wtF f ≤ 5000000) : Ev (En Tryz.prog rfl).P 81 [encF f] (.ret (encP (heardP f))) := by
  refine Ev.of_body it_k81 (by simp) (Run.start ?_)
  unfold t_k81 encF heardP
  obtain ⟨w1, w2, w3, w4, w5⟩ := wtF_parts hw
  have hS := stbF
  have hcs := stbW f.adds f.gone.vec f.gone.cloud f.recs
  have c1 := ev_k71 f.adds (by omega)
  have hdw := dotsP_wt f.adds
  have c2 := ev_k79 [dotsP f.adds, f.gone] (show 2 ≤ 1000000000 by omega) (by simp only [List.map_cons, List.map_nil, List.sum_cons, List.sum_nil]; omega)
  generalize joinP [dotsP f.adds, f.gone] = q at *
  generalize dotsP f.adds = d at *
  (focus (have hF := @hcs; (repeat' (first | refine go1 (k:=?_) | with_reducible refine Ny.of ?_ ?_ | (refine Hyp.of ?_; intro hc; (try simp only [hc]); (try simp only [Bh] at hc)))); all_goals clear hF))
  refine stCall [.sl 4 (encEs f.adds), .str ⟨#[]⟩, .int .i64 (-1)] (he := c1) (k:=?_)
  unfold encP
  (focus (have hF := @hcs; (repeat' (first | refine go1 (k:=?_) | with_reducible refine Ny.of ?_ ?_ | (refine Hyp.of ?_; intro hc; (try simp only [hc]); (try simp only [Bh] at hc)))); all_goals clear hF))
  refine stCall [.sl 2 (encPs [d, f.gone])] (he := c2) (k:=?_)
  unfold encP
  (focus (have hF := @hcs; (repeat' (first | refine go1 (k:=?_) | with_reducible refine Ny.of ?_ ?_ | (refine Hyp.of ?_; intro hc; (try simp only [hc]); (try simp only [Bh] at hc)))); all_goals clear hF))
  exact Fin.all (xs := [encP q]) (by with_unfolding_all rfl) (by simp [stbs, encP_stb]) rfl
theorem ev_k83 (l : List Rec) (p : Pst) (hl : l.length ≤ 1000000000) (hw : ∀ r ∈ l, wt r.past ≤ 10000000) (hp : wt p ≤ 10000000) :
    Ev (En Tryz.prog rfl).P 83 [.sl 3 (encKs l), encP p] (.ret (.sl 3 (encKs (waitsL l p)))) := by
  refine Ev.of_body it_k83 (by simp) (Run.start ?_)
  unfold t_k83 encP
  have hS := stbF
  have e1 := encKs_len l
  (focus (have hF := @e1; (repeat' (first | refine go1 (k:=?_) | with_reducible refine Ny.of ?_ ?_ | (refine Hyp.of ?_; intro hc; (try simp only [hc]); (try simp only [Bh] at hc)))); all_goals clear hF))
  refine Run.wk (Wk.own_nil 5 27 3 rfl rfl) ?_
  refine Run.while (σ := Nat) (fun i => ⟨tms [(0, .sl 3 (encKs l)), (3, .ptr 3 0), (5, .os 27 (waitsL (l.take i) p).length), (6, .int .i64 (i : Int))], mms [(3, .cells [.sl 1 (encIs p.vec), .sl 3 (encSs p.cloud)]), (27, .arr (waitsL (l.take i) p).length 3 (encKs (waitsL (l.take i) p)))]⟩)
    (fun i => i ≤ l.length) (fun i => l.length - i) 0 (have hW := @encKs_stb; stWk) (Nat.zero_le _) ?_
  intro i hi
  unfold t_k83_l1
  by_cases hlt : i < l.length
  · obtain ⟨r, hr⟩ : ∃ r, l[i]? = some r := ⟨l[i], by simp [hlt]⟩
    have g1 := encKs_get hr
    have hst := waitsL_take (p := p) hr
    have hle := waitsL_len (l.take i) p
    have hle2 : (l.take i).length ≤ l.length := by rw [List.length_take]; omega
    generalize waitsL (l.take i) p = out at hst hle ⊢
    have e2 := encKs_len out
    have hwr := hw r (List.mem_of_getElem? hr)
    have c3 := ev_k70 r.past p (by omega) (by omega)
    (focus (have hF := (And.intro @e1 (And.intro @e2 @g1)); (repeat' (first | refine go1 (k:=?_) | with_reducible refine Ny.of ?_ ?_ | (refine Hyp.of ?_; intro hc; (try simp only [hc]); (try simp only [Bh] at hc)))); all_goals clear hF))
    refine stCall [encP r.past, encP p] (he := c3) (k:=?_)
    by_cases hwi : withinP r.past p = true
    · rw [if_pos hwi, List.append_nil] at hst
      rw [hwi]
      (focus (have hF := (And.intro @e1 (And.intro @e2 @g1)); (repeat' (first | refine go1 (k:=?_) | with_reducible refine Ny.of ?_ ?_ | (refine Hyp.of ?_; intro hc; (try simp only [hc]); (try simp only [Bh] at hc)))); all_goals clear hF))
      (refine Fin.nextW (i + 1) ?_ (have hW := (And.intro @encKs_stb @hst); stWk); (try dsimp only))
      omega
    · rw [if_neg hwi] at hst
      rw [show withinP r.past p = false by simpa using hwi]
      (focus (have hF := (And.intro @e1 (And.intro @e2 @g1)); (repeat' (first | refine go1 (k:=?_) | with_reducible refine Ny.of ?_ ?_ | (refine Hyp.of ?_; intro hc; (try simp only [hc]); (try simp only [Bh] at hc)))); all_goals clear hF))
      (refine Fin.nextW (i + 1) ?_ (have hW := (And.intro @encKs_stb (And.intro @hst @encKs_snoc)); stWk); (try dsimp only))
      omega
  · rw [List.take_of_length_le (show l.length ≤ i by omega)]
    (focus (have hF := @e1; (repeat' (first | refine go1 (k:=?_) | with_reducible refine Ny.of ?_ ?_ | (refine Hyp.of ?_; intro hc; (try simp only [hc]); (try simp only [Bh] at hc)))); all_goals clear hF))
    exact Fin.tmp' (by simp [fz, fzc, allK, upd, tms, mms]) (encKs_stb _)
theorem ev_k72 (r : Rec) (e : Ent) (hw : wt r.past ≤ 900000000) : Ev (En Tryz.prog rfl).P 72 [encK r, encE e] (.ret (.bool (covK r e))) := by
  refine Ev.of_body it_k72 (by simp) (Run.start ?_)
  unfold t_k72 encK encE covK
  have es := str_nil r.sku
  have c1 := ev_k62 r.past e.dot hw
  generalize hasP r.past e.dot = v at c1 ⊢
  by_cases h0 : r.sku.size = 0
  · rw [decide_eq_true h0, Bool.true_or, Bool.true_and]
    rw [eq_true h0] at es
    (focus (have hF := @es; (repeat' (first | refine go1 (k:=?_) | with_reducible refine Ny.of ?_ ?_ | (refine Hyp.of ?_; intro hc; (try simp only [hc]); (try simp only [Bh] at hc)))); all_goals clear hF))
    refine stCall [encP r.past, encR e.dot] (he := c1) (k:=?_)
    (focus (have hF := True.intro; (repeat' (first | refine go1 (k:=?_) | with_reducible refine Ny.of ?_ ?_ | (refine Hyp.of ?_; intro hc; (try simp only [hc]); (try simp only [Bh] at hc)))); all_goals clear hF))
    exact Fin.tmp' rfl rfl
  · rw [decide_eq_false h0, Bool.false_or]
    rw [eq_false h0] at es
    by_cases h1 : r.sku = e.sku
    · rw [decide_eq_true h1, Bool.true_and]
      have es2 := es
      rw [h1] at es2
      (focus (have hF := (And.intro @es (And.intro @h1 @es2)); (repeat' (first | refine go1 (k:=?_) | with_reducible refine Ny.of ?_ ?_ | (refine Hyp.of ?_; intro hc; (try simp only [hc]); (try simp only [Bh] at hc)))); all_goals clear hF))
      refine stCall [encP r.past, encR e.dot] (he := c1) (k:=?_)
      (focus (have hF := True.intro; (repeat' (first | refine go1 (k:=?_) | with_reducible refine Ny.of ?_ ?_ | (refine Hyp.of ?_; intro hc; (try simp only [hc]); (try simp only [Bh] at hc)))); all_goals clear hF))
      exact Fin.tmp' rfl rfl
    · rw [decide_eq_false h1, Bool.false_and]
      (focus (have hF := (And.intro @es @h1); (repeat' (first | refine go1 (k:=?_) | with_reducible refine Ny.of ?_ ?_ | (refine Hyp.of ?_; intro hc; (try simp only [hc]); (try simp only [Bh] at hc)))); all_goals clear hF))
      exact Fin.tmp' rfl rfl
def liveB (p : Pst) (rs : List Rec) (e : Ent) (j : Nat) : Bool := !hasP p e.dot && decide (barsK (rs.take j) e = 0)
theorem liveB_zero (p : Pst) (rs : List Rec) (e : Ent) : liveB p rs e 0 = !hasP p e.dot := by simp [liveB, barsK]
theorem liveB_succ {p : Pst} {rs : List Rec} {e : Ent} {j : Nat} {r : Rec} (h : rs[j]? = some r) : liveB p rs e (j + 1) = (liveB p rs e j && !covK r e) := by
  unfold liveB
  rw [barsK_take h]
  cases hasP p e.dot <;> cases covK r e <;> by_cases hz : barsK (rs.take j) e = 0 <;> simp [hz]
theorem liveF_take {l : List Ent} {p : Pst} {rs : List Rec} {i : Nat} {e : Ent} (h : l[i]? = some e) : liveF (l.take (i + 1)) p rs = liveF (l.take i) p rs ++ if liveB p rs e rs.length = true then [e] else [] := by
  unfold liveF liveB
  rw [List.take_add_one, h, List.filter_append, List.take_length]
  cases hb : (!hasP p e.dot && decide (barsK rs e = 0)) <;> simp [hb]
theorem liveF_len (l : List Ent) (p : Pst) (rs : List Rec) : (liveF l p rs).length ≤ l.length := List.length_filter_le _ _
theorem ev_k82 (f : Fct) (hw : wtF f ≤ 5000000) : Ev (En Tryz.prog rfl).P 82 [encF f] (.ret (.sl 4 (encEs (liveF f.adds f.gone f.recs)))) := by
  refine Ev.of_body it_k82 (by simp) (Run.start ?_)
  unfold t_k82 encF
  obtain ⟨w1, w2, w3, w4, w5⟩ := wtF_parts hw
  have hS := stbF
  have hcs := stbW f.adds f.gone.vec f.gone.cloud f.recs
  have e1 := encEs_len f.adds
  have e2 := encKs_len f.recs
  (focus (have hF := (And.intro @hcs (And.intro @e1 @e2)); (repeat' (first | refine go1 (k:=?_) | with_reducible refine Ny.of ?_ ?_ | (refine Hyp.of ?_; intro hc; (try simp only [hc]); (try simp only [Bh] at hc)))); all_goals clear hF))
  refine Run.wk (Wk.own_nil 3 54 4 rfl rfl) ?_
  refine Run.while (σ := Nat) (fun i => ⟨tms [(1, .ptr 1 0), (3, .os 54 (liveF (f.adds.take i) f.gone f.recs).length), (4, .int .i64 (i : Int))], mms [(1, .cells [.sl 4 (encEs f.adds), .sl 1 (encIs f.gone.vec), .sl 3 (encSs f.gone.cloud), .sl 3 (encKs f.recs)]), (54, .arr (liveF (f.adds.take i) f.gone f.recs).length 4 (encEs (liveF (f.adds.take i) f.gone f.recs)))]⟩)
    (fun i => i ≤ f.adds.length) (fun i => f.adds.length - i) 0 (have hW := (And.intro @encKs_stb @encEs_stb); stWk) (Nat.zero_le _) ?_
  intro i hi
  unfold t_k82_l1
  by_cases hlt : i < f.adds.length
  · obtain ⟨e, he⟩ : ∃ e, f.adds[i]? = some e := ⟨f.adds[i], by simp [hlt]⟩
    have g1 := encEs_get he
    have hst := liveF_take (p := f.gone) (rs := f.recs) he
    have hle := liveF_len (f.adds.take i) f.gone f.recs
    have hle2 : (f.adds.take i).length ≤ f.adds.length := by rw [List.length_take]; omega
    generalize liveF (f.adds.take i) f.gone f.recs = out at hst hle ⊢
    have e3 := encEs_len out
    have c1 := ev_k62 f.gone e.dot (by omega)
    have hz := liveB_zero f.gone f.recs e
    (focus (have hF := (And.intro (And.intro @hcs @e1) (And.intro @e2 (And.intro @e3 @g1))); (repeat' (first | refine go1 (k:=?_) | with_reducible refine Ny.of ?_ ?_ | (refine Hyp.of ?_; intro hc; (try simp only [hc]); (try simp only [Bh] at hc)))); all_goals clear hF))
    refine stCall [encP f.gone, encR e.dot] (he := c1) (k:=?_)
    (focus (have hF := (And.intro (And.intro @hcs @e1) (And.intro @e2 (And.intro @e3 @g1))); (repeat' (first | refine go1 (k:=?_) | with_reducible refine Ny.of ?_ ?_ | (refine Hyp.of ?_; intro hc; (try simp only [hc]); (try simp only [Bh] at hc)))); all_goals clear hF))
    rw [← hz]
    refine Run.while (σ := Nat) (fun j => ⟨tms [(1, .ptr 1 0), (3, .os 54 out.length), (4, .int .i64 (i : Int)), (5, .bool (liveB f.gone f.recs e j)), (6, .int .i64 (j : Int))], mms [(1, .cells [.sl 4 (encEs f.adds), .sl 1 (encIs f.gone.vec), .sl 3 (encSs f.gone.cloud), .sl 3 (encKs f.recs)]), (54, .arr out.length 4 (encEs out))]⟩)
      (fun j => j ≤ f.recs.length) (fun j => f.recs.length - j) 0 (have hW := (And.intro @encKs_stb @encEs_stb); stWk) (Nat.zero_le _) ?_
    intro j hj
    unfold t_k82_l2
    by_cases hjl : j < f.recs.length
    · obtain ⟨r, hr⟩ : ∃ r, f.recs[j]? = some r := ⟨f.recs[j], by simp [hjl]⟩
      have g2 := encKs_get hr
      have hwr := w5 r (List.mem_of_getElem? hr)
      have c2 := ev_k72 r e (by omega)
      have hsj := liveB_succ (p := f.gone) (e := e) hr
      generalize covK r e = cv at c2 hsj
      generalize hb : liveB f.gone f.recs e j = b at *
      cases b
      · simp only [Bool.false_and] at hsj
        (focus (have hF := (And.intro (And.intro @hcs (And.intro @e1 @e2)) (And.intro @e3 (And.intro @g1 @g2))); (repeat' (first | refine go1 (k:=?_) | with_reducible refine Ny.of ?_ ?_ | (refine Hyp.of ?_; intro hc; (try simp only [hc]); (try simp only [Bh] at hc)))); all_goals clear hF))
        (refine Fin.nextW (j + 1) ?_ (have hW := (And.intro @encKs_stb (And.intro @encEs_stb @hsj)); stWk); (try dsimp only))
        omega
      · simp only [Bool.true_and] at hsj
        (focus (have hF := (And.intro (And.intro @hcs (And.intro @e1 @e2)) (And.intro @e3 (And.intro @g1 @g2))); (repeat' (first | refine go1 (k:=?_) | with_reducible refine Ny.of ?_ ?_ | (refine Hyp.of ?_; intro hc; (try simp only [hc]); (try simp only [Bh] at hc)))); all_goals clear hF))
        refine stCall [encK r, encE e] (he := c2) (k:=?_)
        (focus (have hF := (And.intro (And.intro @hcs (And.intro @e1 @e2)) (And.intro @e3 (And.intro @g1 @g2))); (repeat' (first | refine go1 (k:=?_) | with_reducible refine Ny.of ?_ ?_ | (refine Hyp.of ?_; intro hc; (try simp only [hc]); (try simp only [Bh] at hc)))); all_goals clear hF))
        (refine Fin.nextW (j + 1) ?_ (have hW := (And.intro @encKs_stb (And.intro @encEs_stb @hsj)); stWk); (try dsimp only))
        omega
    · have hje : j = f.recs.length := by omega
      subst hje
      generalize liveB f.gone f.recs e f.recs.length = b at *
      cases b
      · rw [if_neg (by simp), List.append_nil] at hst
        (focus (have hF := (And.intro (And.intro @hcs @e1) (And.intro @e2 (And.intro @e3 @g1))); (repeat' (first | refine go1 (k:=?_) | with_reducible refine Ny.of ?_ ?_ | (refine Hyp.of ?_; intro hc; (try simp only [hc]); (try simp only [Bh] at hc)))); all_goals clear hF))
        (refine Fin.nextW (i + 1) ?_ (have hW := (And.intro @encKs_stb (And.intro @encEs_stb @hst)); stWk); (try dsimp only))
        omega
      · rw [if_pos rfl] at hst
        (focus (have hF := (And.intro (And.intro @hcs @e1) (And.intro @e2 (And.intro @e3 @g1))); (repeat' (first | refine go1 (k:=?_) | with_reducible refine Ny.of ?_ ?_ | (refine Hyp.of ?_; intro hc; (try simp only [hc]); (try simp only [Bh] at hc)))); all_goals clear hF))
        (refine Fin.nextW (i + 1) ?_ (have hW := (And.intro (And.intro @encKs_stb @encEs_stb) (And.intro @hst @encEs_snoc)); stWk); (try dsimp only))
        omega
  · rw [List.take_of_length_le (show f.adds.length ≤ i by omega)]
    (focus (have hF := (And.intro @hcs (And.intro @e1 @e2)); (repeat' (first | refine go1 (k:=?_) | with_reducible refine Ny.of ?_ ?_ | (refine Hyp.of ?_; intro hc; (try simp only [hc]); (try simp only [Bh] at hc)))); all_goals clear hF))
    exact Fin.tmp' (by simp [fz, fzc, allK, upd, tms, mms]) (encEs_stb _)
theorem heardP_wt (f : Fct) : wt (heardP f) ≤ 32 + f.adds.length + wt f.gone := by
  have h1 := joinP_wt [dotsP f.adds, f.gone]
  have h2 := dotsP_wt f.adds
  simp only [List.map_cons, List.map_nil, List.sum_cons, List.sum_nil] at h1
  unfold heardP
  omega
theorem ev_k37 (f : Fct) (hw : wtF f ≤ 4000000) : Ev (En Tryz.prog rfl).P 37 [encF f] (.ret (encW (stF f))) := by
  refine Ev.of_body it_k37 (by simp) (Run.start ?_)
  unfold t_k37 stF
  obtain ⟨w1, w2, w3, w4, w5⟩ := wtF_parts hw
  have hS := stbF
  have hcs := stbW f.adds f.gone.vec f.gone.cloud f.recs
  have hhw := heardP_wt f
  have c1 := ev_k81 f (by omega)
  have c2 := ev_k82 f (by omega)
  have c3 := ev_k83 f.recs (heardP f) (by omega) (fun r hr => by have := w5 r hr; omega) (by omega)
  unfold encF at c1 c2 ⊢
  generalize waitsL f.recs (heardP f) = W at *
  generalize liveF f.adds f.gone f.recs = L at *
  generalize heardP f = q at *
  (focus (have hF := @hcs; (repeat' (first | refine go1 (k:=?_) | with_reducible refine Ny.of ?_ ?_ | (refine Hyp.of ?_; intro hc; (try simp only [hc]); (try simp only [Bh] at hc)))); all_goals clear hF))
  refine stCall [_] (he := c1) (k:=?_)
  unfold encP
  (focus (have hF := @hcs; (repeat' (first | refine go1 (k:=?_) | with_reducible refine Ny.of ?_ ?_ | (refine Hyp.of ?_; intro hc; (try simp only [hc]); (try simp only [Bh] at hc)))); all_goals clear hF))
  refine stCall [_] (he := c2) (k:=?_)
  (focus (have hF := @hcs; (repeat' (first | refine go1 (k:=?_) | with_reducible refine Ny.of ?_ ?_ | (refine Hyp.of ?_; intro hc; (try simp only [hc]); (try simp only [Bh] at hc)))); all_goals clear hF))
  refine stCall [.sl 3 (encKs f.recs), encP q] (he := c3) (k:=?_)
  (focus (have hF := @hcs; (repeat' (first | refine go1 (k:=?_) | with_reducible refine Ny.of ?_ ?_ | (refine Hyp.of ?_; intro hc; (try simp only [hc]); (try simp only [Bh] at hc)))); all_goals clear hF))
  exact Fin.all (xs := [encW ⟨L, q, W⟩]) (by with_unfolding_all rfl) (by simp [stbs, encW_stb]) rfl
theorem ev_k16 (f : Fct) (hw : wtF f ≤ 3000000) : Ev (En Tryz.prog rfl).P 16 [encF f] (.ret (.tup [encW (evtS f), .int .i64 (evErr f)])) := by
  refine Ev.of_body it_k16 (by simp) (AW.wkEnd (Run.start ?_))
  unfold t_k16
  have hS := stbF
  have hcs := stbW f.adds f.gone.vec f.gone.cloud f.recs
  have c1 := ev_k35 f (by omega)
  have c2 := ev_k37 f (by omega)
  unfold encF at c1 c2 ⊢
  by_cases he : evErr f = 0
  case' neg =>
    unfold evtS
    rw [if_neg he]
    generalize evErr f = v at *
    (focus (have hF := @hcs; (repeat' (first | refine go1 (k:=?_) | with_reducible refine Ny.of ?_ ?_ | (refine Hyp.of ?_; intro hc; (try simp only [hc]); (try simp only [Bh] at hc)))); all_goals clear hF))
    refine stCall [_] (he := c1) (k:=?_)
    (focus (have hF := @hcs; (repeat' (first | refine go1 (k:=?_) | with_reducible refine Ny.of ?_ ?_ | (refine Hyp.of ?_; intro hc; (try simp only [hc]); (try simp only [Bh] at hc)))); all_goals clear hF))
    exact Fin.done ⟨_, Wk.cells_nil (k := 2) rfl sub4, [encW noS, .int .i64 v], by with_unfolding_all rfl, by simp [stbs, encW_stb, AVal.stb], _, subs_refl _, rfl⟩
  case' pos =>
    have hse := state_event he
    have hst : stF f = evtS f := by
      unfold evtS
      rw [if_pos he]
      exact swt_ext hse.1 rfl hse.2
    rw [hst] at c2
    rw [he] at c1 ⊢
    generalize evtS f = s at *
    (focus (have hF := @hcs; (repeat' (first | refine go1 (k:=?_) | with_reducible refine Ny.of ?_ ?_ | (refine Hyp.of ?_; intro hc; (try simp only [hc]); (try simp only [Bh] at hc)))); all_goals clear hF))
    refine stCall [_] (he := c1) (k:=?_)
    (focus (have hF := @hcs; (repeat' (first | refine go1 (k:=?_) | with_reducible refine Ny.of ?_ ?_ | (refine Hyp.of ?_; intro hc; (try simp only [hc]); (try simp only [Bh] at hc)))); all_goals clear hF))
    refine stCall [_] (he := c2) (k:=?_)
    unfold encW
    (focus (have hF := @hcs; (repeat' (first | refine go1 (k:=?_) | with_reducible refine Ny.of ?_ ?_ | (refine Hyp.of ?_; intro hc; (try simp only [hc]); (try simp only [Bh] at hc)))); all_goals clear hF))
    exact Fin.done ⟨_, Wk.refl _ _, [encW s, .int .i64 0], by with_unfolding_all rfl, by simp [stbs, encW_stb, AVal.stb], _, subs_refl _, rfl⟩
theorem ev_k15 (s : Swt) (hw : wtS s ≤ 100000000) : Ev (En Tryz.prog rfl).P 15 [encW s, encW s] (.ret (.bool true)) := by
  refine Ev.of_body it_k15 (by simp) (Run.start ?_)
  unfold t_k15 encW
  obtain ⟨w1, w2, w3, w4, w5⟩ := wtS_parts hw
  unfold wt at w2
  have hS := stbF
  have hcs := stbW s.live s.past.vec s.past.cloud s.defer
  have e1 := encEs_len s.live
  have e2 := encKs_len s.defer
  have c1 := ev_k50 s.past s.past (by omega) (by omega)
  rw [sameP_self] at c1
  (focus (have hF := (And.intro @hcs (And.intro @e1 @e2)); (repeat' (first | refine go1 (k:=?_) | with_reducible refine Ny.of ?_ ?_ | (refine Hyp.of ?_; intro hc; (try simp only [hc]); (try simp only [Bh] at hc)))); all_goals clear hF))
  refine stCall [encP s.past, encP s.past] (he := c1) (k:=?_)
  (focus (have hF := (And.intro @hcs (And.intro @e1 @e2)); (repeat' (first | refine go1 (k:=?_) | with_reducible refine Ny.of ?_ ?_ | (refine Hyp.of ?_; intro hc; (try simp only [hc]); (try simp only [Bh] at hc)))); all_goals clear hF))
  refine Run.while (σ := Nat) (fun i => ⟨tms [(2, .ptr 2 0), (3, .ptr 3 0), (5, .int .i64 (i : Int))], mms [(2, .cells [.sl 4 (encEs s.live), .sl 1 (encIs s.past.vec), .sl 3 (encSs s.past.cloud), .sl 3 (encKs s.defer)]), (3, .cells [.sl 4 (encEs s.live), .sl 1 (encIs s.past.vec), .sl 3 (encSs s.past.cloud), .sl 3 (encKs s.defer)])]⟩)
    (fun i => i ≤ s.live.length) (fun i => s.live.length - i) 0 (have hW := (And.intro @encKs_stb @encEs_stb); stWk) (Nat.zero_le _) ?_
  intro i hi
  unfold t_k15_l1
  by_cases hlt : i < s.live.length
  · obtain ⟨e, he⟩ : ∃ e, s.live[i]? = some e := ⟨s.live[i], by simp [hlt]⟩
    have g1 := encEs_get he
    (focus (have hF := (And.intro (And.intro @hcs @e1) (And.intro @e2 @g1)); (repeat' (first | refine go1 (k:=?_) | with_reducible refine Ny.of ?_ ?_ | (refine Hyp.of ?_; intro hc; (try simp only [hc]); (try simp only [Bh] at hc)))); all_goals clear hF))
    (refine Fin.nextW (i + 1) ?_ (have hW := (And.intro @encKs_stb @encEs_stb); stWk); (try dsimp only))
    omega
  · (focus (have hF := (And.intro @hcs (And.intro @e1 @e2)); (repeat' (first | refine go1 (k:=?_) | with_reducible refine Ny.of ?_ ?_ | (refine Hyp.of ?_; intro hc; (try simp only [hc]); (try simp only [Bh] at hc)))); all_goals clear hF))
    refine Run.while (σ := Nat) (fun i => ⟨tms [(2, .ptr 2 0), (3, .ptr 3 0), (6, .int .i64 (i : Int))], mms [(2, .cells [.sl 4 (encEs s.live), .sl 1 (encIs s.past.vec), .sl 3 (encSs s.past.cloud), .sl 3 (encKs s.defer)]), (3, .cells [.sl 4 (encEs s.live), .sl 1 (encIs s.past.vec), .sl 3 (encSs s.past.cloud), .sl 3 (encKs s.defer)])]⟩)
      (fun i => i ≤ s.defer.length) (fun i => s.defer.length - i) 0 (have hW := (And.intro @encKs_stb @encEs_stb); stWk) (Nat.zero_le _) ?_
    clear hi hlt
    intro i hi
    unfold t_k15_l2
    by_cases hlt : i < s.defer.length
    · obtain ⟨r, hr⟩ : ∃ r, s.defer[i]? = some r := ⟨s.defer[i], by simp [hlt]⟩
      have g1 := encKs_get hr
      have hwr := w5 r (List.mem_of_getElem? hr)
      unfold wt at hwr
      have c2 := ev_k50 r.past r.past (by omega) (by omega)
      rw [sameP_self] at c2
      (focus (have hF := (And.intro (And.intro @hcs @e1) (And.intro @e2 @g1)); (repeat' (first | refine go1 (k:=?_) | with_reducible refine Ny.of ?_ ?_ | (refine Hyp.of ?_; intro hc; (try simp only [hc]); (try simp only [Bh] at hc)))); all_goals clear hF))
      refine stCall [encP r.past, encP r.past] (he := c2) (k:=?_)
      (focus (have hF := (And.intro (And.intro @hcs @e1) (And.intro @e2 @g1)); (repeat' (first | refine go1 (k:=?_) | with_reducible refine Ny.of ?_ ?_ | (refine Hyp.of ?_; intro hc; (try simp only [hc]); (try simp only [Bh] at hc)))); all_goals clear hF))
      (refine Fin.nextW (i + 1) ?_ (have hW := (And.intro @encKs_stb @encEs_stb); stWk); (try dsimp only))
      omega
    · (focus (have hF := (And.intro @hcs (And.intro @e1 @e2)); (repeat' (first | refine go1 (k:=?_) | with_reducible refine Ny.of ?_ ?_ | (refine Hyp.of ?_; intro hc; (try simp only [hc]); (try simp only [Bh] at hc)))); all_goals clear hF))
      exact Fin.tmp' rfl rfl

def r_k14_1 : List SOp := [⟨some 0,.alloc 31,none⟩]
instance : Live r_k14_1 := ⟨[]⟩
def r_k14_2 : List SOp := [⟨some 1,.build 41 #[(0,.const (.int .i64 0)),(1,.const (.int .i64 1))],none⟩,⟨some 2,.build 62 #[(0,.tmp 1),(1,.const (.string ⟨#[65]⟩)),(2,.const (.int .i64 5))],none⟩,⟨some 3,.buildSlice 22 1 #[(0,.tmp 2)],none⟩,⟨some 4,.buildSlice 23 1 #[(0,.const (.int .i64 1))],none⟩,⟨some 5,.build 26 #[(0,.tmp 4)],none⟩,⟨some 6,.build 31 #[(0,.tmp 3),(1,.tmp 5)],none⟩,⟨none,.store 31 (.tmp 0) (.tmp 6),none⟩]
instance : Live r_k14_2 := ⟨[0]⟩
def t_k14 : SC :=
  (.seq (.ops false r_k14_1) (.seq (.ops false r_k14_2) .ret))
theorem it_k14 : FnIs Tryz.prog 14 7 [.cell 0 31] t_k14 := ⟨Tryz.f14, _, Tryz.func14, rfl, rfl, rfl, rfl, by kernel_rfl⟩

def r_k3_1 : List SOp := [⟨some 1,.box 29 (.tmp 0),none⟩,⟨some 2,.assign (.const (.bool false)),none⟩]
instance : Live r_k3_1 := ⟨[0]⟩
def r_k3_2 : List SOp := [⟨some 8,.call ⟨.value (.func 14),#[],#[]⟩,none⟩,⟨some 9,.field 31 (.tmp 8) 0,none⟩,⟨some 10,.build 29 #[(0,.tmp 9)],none⟩,⟨some 11,.call ⟨.value (.func 13),#[.tmp 10],#[29]⟩,none⟩,⟨some 7,.move (.tmp 11),none⟩,⟨some 12,.extract (.tmp 7) 0,none⟩,⟨some 13,.extract (.tmp 7) 1,none⟩,⟨some 3,.alloc 31,none⟩,⟨none,.store 31 (.tmp 3) (.tmp 12),none⟩,⟨some 4,.assign (.tmp 13),none⟩]
instance : Live r_k3_2 := ⟨[1]⟩
def r_k3_3 : List SOp := [⟨some 14,.move (.tmp 4),none⟩,⟨some 15,.binOp .neq 32 (.tmp 14) (.const (.int .i64 0)) 32,none⟩,⟨some 16,.move (.tmp 15),none⟩,⟨some 17,.load 31 (.tmp 3),some ((some 16),false)⟩,⟨some 18,.call ⟨.value (.func 14),#[],#[]⟩,some ((some 16),false)⟩,⟨some 19,.call ⟨.value (.func 15),#[.tmp 17,.tmp 18],#[31,31]⟩,some ((some 16),false)⟩,⟨some 20,.unOp .not 4 (.tmp 19),some ((some 16),false)⟩,⟨some 21,.pick (.tmp 16) (.const (.bool true)) (.tmp 20),none⟩]
instance : Live r_k3_3 := ⟨[1,3,4]⟩
def r_k3_4 : List SOp := [⟨some 2,.assign (.const (.bool false)),none⟩]
instance : Live r_k3_4 := ⟨[]⟩
def r_k3_5 : List SOp := [⟨some 23,.load 29 (.tmp 1),none⟩,⟨some 24,.call ⟨.value (.func 16),#[.tmp 23],#[29]⟩,none⟩,⟨some 22,.move (.tmp 24),none⟩,⟨some 25,.extract (.tmp 22) 0,none⟩,⟨some 26,.extract (.tmp 22) 1,none⟩,⟨some 5,.alloc 31,none⟩,⟨none,.store 31 (.tmp 5) (.tmp 25),none⟩,⟨some 6,.assign (.tmp 26),none⟩]
instance : Live r_k3_5 := ⟨[1,3]⟩
def r_k3_6 : List SOp := [⟨some 28,.load 29 (.tmp 1),none⟩,⟨some 29,.call ⟨.value (.func 13),#[.tmp 28],#[29]⟩,none⟩,⟨some 27,.move (.tmp 29),none⟩,⟨some 30,.extract (.tmp 27) 0,none⟩,⟨some 31,.extract (.tmp 27) 1,none⟩,⟨none,.store 31 (.tmp 3) (.tmp 30),none⟩,⟨some 4,.assign (.tmp 31),none⟩]
instance : Live r_k3_6 := ⟨[1,3,5,6]⟩
def r_k3_7 : List SOp := [⟨some 32,.move (.tmp 4),none⟩,⟨some 33,.move (.tmp 6),none⟩,⟨some 34,.binOp .eql 32 (.tmp 32) (.tmp 33) 32,none⟩,⟨some 35,.move (.tmp 34),none⟩,⟨some 36,.load 31 (.tmp 3),some ((some 35),true)⟩,⟨some 37,.load 31 (.tmp 5),some ((some 35),true)⟩,⟨some 38,.call ⟨.value (.func 15),#[.tmp 36,.tmp 37],#[31,31]⟩,some ((some 35),true)⟩,⟨some 39,.pick (.tmp 35) (.tmp 38) (.const (.bool false)),none⟩,⟨some 2,.assign (.tmp 39),none⟩]
instance : Live r_k3_7 := ⟨[3,4,5,6]⟩
def t_k3 : SC :=
  (.seq (.ops false r_k3_1) (.seq (.ops false r_k3_2) (.seq (.seq (.ops true r_k3_3) (.cond (.tmp 21) (.seq (.ops false r_k3_4) .ret) .skip)) (.seq (.ops false r_k3_5) (.seq (.ops false r_k3_6) (.seq (.ops false r_k3_7) .ret))))))
theorem it_k3 : FnIs Tryz.prog 3 40 [.tmp 2] t_k3 := ⟨Tryz.f3, _, Tryz.func3, rfl, rfl, rfl, rfl, by kernel_rfl⟩

def a1E : Ent := ⟨0, 1, sA, 5⟩
def a1P : Pst := ⟨[1], []⟩
def a1S : Swt := ⟨[a1E], a1P, []⟩
def a1F : Fct := ⟨[a1E], ⟨[], []⟩, []⟩
theorem a1rows : (ofT [(0, 1)]).map normR = [[(1, 1)], [], [], [], [], [], [], [], [], [], [], [], [], [], [], []] := by
  have h : ofT [(0, 1)] = [[(1, 1)], [], [], [], [], [], [], [], [], [], [], [], [], [], [], []] := by decide
  rw [h]
  have n0 : normR [] = [] := normR_of_can Can.nil
  have n1 : normR [(1, 1)] = [(1, 1)] := (normR_sorted (c := [(1, 1)]) (by decide) (by simp)).trans (by decide)
  simp only [List.map_cons, List.map_nil, n0, n1]
theorem a1rows2 : (openT [a1P, ⟨[], []⟩]).map normR = [[(1, 1)], [], [], [], [], [], [], [], [], [], [], [], [], [], [], []] := by
  have h : openT [a1P, ⟨[], []⟩] = [[(1, 1)], [], [], [], [], [], [], [], [], [], [], [], [], [], [], []] := by decide
  rw [h]
  have n0 : normR [] = [] := normR_of_can Can.nil
  have n1 : normR [(1, 1)] = [(1, 1)] := (normR_sorted (c := [(1, 1)]) (by decide) (by simp)).trans (by decide)
  simp only [List.map_cons, List.map_nil, n0, n1]
theorem a1dots : dotsP [a1E] = a1P := by
  show ofP [(0, 1)] = a1P
  unfold ofP
  rw [pastT_N, a1rows]
  rfl
theorem a1join : joinP [a1P, ⟨[], []⟩] = a1P := by
  unfold joinP
  rw [pastT_N, a1rows2]
  rfl
theorem canP_nil : CanP ⟨[], []⟩ := by
  unfold CanP normP
  rw [pastT_N, rows0]
  rfl
theorem a1ent : entErr a1E = 0 := by unfold entErr; simp [a1E, good_A]
theorem a1form : FormE [a1E] := ⟨fun i e h => by
    match i with
    | 0 => simp at h; subst h; exact a1ent
    | i + 1 => simp at h, fun i a b h h' => by simp at h'⟩
theorem formK_nil : FormK [] := ⟨fun i r h => by simp at h, fun i a b h => by simp at h⟩
theorem a1ok : FormF a1F := ⟨a1form, canP_nil, formK_nil⟩
theorem a1err : evErr a1F = 0 := by
  rw [evErr_form a1ok]
  show (if lastP ⟨[], []⟩ 0 < 1 then (0 : Int) else 2) = 0
  rw [if_pos]
  show (if (0 : Int) ≤ 0 ∧ (0 : Int) < 16 then lastR ((openT [⟨[], []⟩]).getD 0 []) else 0) < 1
  decide
theorem a1evt : evtS a1F = a1S := by
  unfold evtS
  rw [if_pos a1err]
  unfold evS a1F a1S
  show Swt.mk [a1E] (joinP [dotsP [a1E], ⟨[], []⟩]) [] = _
  rw [a1dots, a1join]
theorem a1sub : subs [.sl 4 (encEs [a1E]), .sl 1 (encIs [1]), .nil, .nil] [.sl 4 (encEs [a1E]), .sl 1 (encIs [1]), .sl 3 [], .sl 3 []] := ⟨.inl rfl, .inl rfl, .inr ⟨rfl, 3, rfl⟩, .inr ⟨rfl, 3, rfl⟩, trivial⟩
theorem ev_k14 : Ev (En Tryz.prog rfl).P 14 [] (.ret (encW a1S)) := by
  refine Ev.of_body it_k14 (by simp) (AW.wkEnd (Run.start ?_))
  unfold t_k14
  (focus (have hF := True.intro; (repeat' (first | refine go1 (k:=?_) | with_reducible refine Ny.of ?_ ?_ | (refine Hyp.of ?_; intro hc; (try simp only [hc]); (try simp only [Bh] at hc)))); all_goals clear hF))
  exact Fin.done ⟨_, Wk.cells_nil (k := 0) rfl a1sub, [encW a1S], by with_unfolding_all rfl, by simp [stbs, encW_stb], _, subs_refl _, rfl⟩
theorem cells_Facts : Tryz.prog.cellsOf 29 = 4 := by kernel_rfl
def cellsF (f : Fct) : List AVal := [.sl 4 (encEs f.adds), .sl 1 (encIs f.gone.vec), .sl 3 (encSs f.gone.cloud), .sl 3 (encKs f.recs)]
theorem op_Facts : Opens Tryz.prog 29 Fct (fun f => okP f.gone) cellsF wtF :=
  (Opens.struct Tryz.underlying29 cells_Facts (OpensF.cons (k := 1) op_ents (fun _ => rfl) cells_ents rfl (OpensF.cons (k := 2) op_Past (fun _ => rfl) cells_Past rfl (OpensF.cons (k := 1) op_recs (fun _ => rfl) cells_recs rfl (OpensF.nil _))))).map
    (fun x => ⟨x.1, x.2.1, x.2.2.1⟩) (fun x h => h.2.1) (fun _ => rfl)
    (fun x => by
      show x.1.length + wt x.2.1 + wtKs x.2.2.1 ≤ wtL (fun _ => 1) x.1 + (wt x.2.1 + ((wtKs x.2.2.1 + 1) + 0)) + 1
      rw [wtL_one]; omega)
theorem evtS_wt (f : Fct) : wtS (evtS f) ≤ 2 * wtF f + 100 := by
  unfold evtS
  split
  · unfold evS wtS wtF
    have h1 := joinP_wt [dotsP f.adds, f.gone]
    have h2 := dotsP_wt f.adds
    simp only [List.map_cons, List.map_nil, List.sum_cons, List.sum_nil] at h1
    show f.adds.length + wt (joinP [dotsP f.adds, f.gone]) + wtKs f.recs ≤ _
    omega
  · show 0 + wt ⟨[], []⟩ + 0 ≤ _
    have : wt ⟨[], []⟩ = 0 := rfl
    omega
theorem ev_k3 (f : Fct) (hw : wtF f ≤ 3000000) : Ev (En Tryz.prog rfl).P 3 [encF f] (.ret (.bool true)) := by
  refine Ev.of_body it_k3 (by simp) (Run.start ?_)
  unfold t_k3
  have hS := stbF
  have hcs := stbW f.adds f.gone.vec f.gone.cloud f.recs
  have c1 := ev_k13 a1F (by decide)
  rw [a1evt, a1err] at c1
  replace c1 : Ev (En Tryz.prog rfl).P 13 [.agg [.sl 4 (encEs [a1E]), .nil, .nil, .nil]] _ := c1.wks ⟨Wkn.agg ⟨Wkn.refl _, Wkn.nil 1, Wkn.nil 3, Wkn.nil 3, trivial⟩, trivial⟩
  have c2 := ev_k15 a1S (by decide)
  have c3 := ev_k16 f hw
  have c4 := ev_k13 f hw
  have hsw := evtS_wt f
  generalize evtS f = s at *
  generalize evErr f = v at *
  have c5 := ev_k15 s (by omega)
  have hcs2 := stbW s.live s.past.vec s.past.cloud s.defer
  unfold encF
  (focus (have hF := @hcs; (repeat' (first | refine go1 (k:=?_) | with_reducible refine Ny.of ?_ ?_ | (refine Hyp.of ?_; intro hc; (try simp only [hc]); (try simp only [Bh] at hc)))); all_goals clear hF))
  refine stCall [] (he := ev_k14) (k:=?_)
  unfold encW
  (focus (have hF := @hcs; (repeat' (first | refine go1 (k:=?_) | with_reducible refine Ny.of ?_ ?_ | (refine Hyp.of ?_; intro hc; (try simp only [hc]); (try simp only [Bh] at hc)))); all_goals clear hF))
  refine stCall [_] (he := c1) (k:=?_)
  unfold encW
  (focus (have hF := @hcs; (repeat' (first | refine go1 (k:=?_) | with_reducible refine Ny.of ?_ ?_ | (refine Hyp.of ?_; intro hc; (try simp only [hc]); (try simp only [Bh] at hc)))); all_goals clear hF))
  refine stCall [] (he := ev_k14) (k:=?_)
  unfold encW
  (focus (have hF := @hcs; (repeat' (first | refine go1 (k:=?_) | with_reducible refine Ny.of ?_ ?_ | (refine Hyp.of ?_; intro hc; (try simp only [hc]); (try simp only [Bh] at hc)))); all_goals clear hF))
  refine stCall [encW a1S, encW a1S] (he := c2) (k:=?_)
  (focus (have hF := @hcs; (repeat' (first | refine go1 (k:=?_) | with_reducible refine Ny.of ?_ ?_ | (refine Hyp.of ?_; intro hc; (try simp only [hc]); (try simp only [Bh] at hc)))); all_goals clear hF))
  refine stCall [_] (he := c3) (k:=?_)
  unfold encW
  (focus (have hF := (And.intro @hcs @hcs2); (repeat' (first | refine go1 (k:=?_) | with_reducible refine Ny.of ?_ ?_ | (refine Hyp.of ?_; intro hc; (try simp only [hc]); (try simp only [Bh] at hc)))); all_goals clear hF))
  refine stCall [_] (he := c4) (k:=?_)
  unfold encW
  (focus (have hF := (And.intro @hcs @hcs2); (repeat' (first | refine go1 (k:=?_) | with_reducible refine Ny.of ?_ ?_ | (refine Hyp.of ?_; intro hc; (try simp only [hc]); (try simp only [Bh] at hc)))); all_goals clear hF))
  refine stCall [encW s, encW s] (he := c5) (k:=?_)
  (focus (have hF := (And.intro @hcs @hcs2); (repeat' (first | refine go1 (k:=?_) | with_reducible refine Ny.of ?_ ?_ | (refine Hyp.of ?_; intro hc; (try simp only [hc]); (try simp only [Bh] at hc)))); all_goals clear hF))
  exact Fin.tmp' rfl rfl

end Go.Proofs.YthejoeiecenjkaaGreat.Avm
