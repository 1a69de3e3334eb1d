/- Part 5 of the proof: lemmas. -/
import Derived.Test.YtpomanleabaafaaGreatN4
import Derived.Test.YtpomanleabaafaaGreatProg
import Derived.KernelRfl
import Derived.Shelf.SlSortCmp.Insertion
import Derived.Shelf.SlSortCmp.NoneTotal
set_option maxRecDepth 100000
set_option maxHeartbeats 4000000
set_option linter.unusedVariables false
set_option linter.unusedSimpArgs false
set_option linter.unusedSectionVars false
set_option linter.defProp false
namespace Go.Proofs.YtpomanleabaafaaGreat.Avm
open Go.Proofs
def r_k26_1 : List SOp := [⟨some 2,.box 39 (.tmp 0),none⟩,⟨some 3,.box 49 (.tmp 1),none⟩,⟨some 4,.assign (.const (.bool false)),none⟩]
instance : Live r_k26_1 := ⟨[0,1]⟩
def r_k26_2 : List SOp := [⟨some 5,.fieldAddr 39 (.tmp 2) 0,none⟩,⟨some 6,.load 9 (.tmp 5),none⟩,⟨some 7,.binOp .eql 9 (.tmp 6) (.const (.string ⟨#[]⟩)) 9,none⟩,⟨some 8,.move (.tmp 7),none⟩,⟨some 9,.fieldAddr 39 (.tmp 2) 0,some ((some 8),false)⟩,⟨some 10,.load 9 (.tmp 9),some ((some 8),false)⟩,⟨some 11,.fieldAddr 49 (.tmp 3) 1,some ((some 8),false)⟩,⟨some 12,.load 9 (.tmp 11),some ((some 8),false)⟩,⟨some 13,.binOp .eql 9 (.tmp 10) (.tmp 12) 9,some ((some 8),false)⟩,⟨some 14,.pick (.tmp 8) (.const (.bool true)) (.tmp 13),none⟩,⟨some 15,.move (.tmp 14),none⟩,⟨some 16,.fieldAddr 39 (.tmp 2) 1,some ((some 15),true)⟩,⟨some 17,.load 27 (.tmp 16),some ((some 15),true)⟩,⟨some 18,.fieldAddr 49 (.tmp 3) 0,some ((some 15),true)⟩,⟨some 19,.load 47 (.tmp 18),some ((some 15),true)⟩,⟨some 20,.call ⟨.value (.func 35),#[.tmp 17,.tmp 19],#[27,47]⟩,some ((some 15),true)⟩,⟨some 21,.pick (.tmp 15) (.tmp 20) (.const (.bool false)),none⟩,⟨some 4,.assign (.tmp 21),none⟩]
instance : Live r_k26_2 := ⟨[2,3]⟩
def t_k26 : SC :=
  (.seq (.ops false r_k26_1) (.seq (.ops false r_k26_2) .ret))
theorem it_k26 : FnIs Tryz.prog 26 22 [.tmp 4] t_k26 := ⟨Tryz.f26, _, Tryz.func26, rfl, rfl, rfl, rfl, by kernel_rfl⟩


def r_k24_1 : List SOp := [⟨some 3,.box 49 (.tmp 1),none⟩,⟨some 4,.assign (.const (.int .i64 0)),none⟩]
instance : Live r_k24_1 := ⟨[0,1]⟩
def r_k24_2 : List SOp := [⟨some 5,.assign (.const (.int .i64 0)),none⟩]
instance : Live r_k24_2 := ⟨[0,3]⟩
def r_k24_3 : List SOp := [⟨some 8,.move (.tmp 0),none⟩,⟨some 9,.call ⟨.builtin .len,#[.tmp 8],#[22]⟩,none⟩,⟨some 10,.move (.const (.int .i64 0)),none⟩]
instance : Live r_k24_3 := ⟨[0,3,5]⟩
def r_k24_4 : List SOp := [⟨some 11,.binOp .lss 3 (.tmp 10) (.tmp 9) 3,none⟩]
instance : Live r_k24_4 := ⟨[3,5,8,9,10]⟩
def r_k24_5 : List SOp := [⟨some 12,.indexAddr 22 (.tmp 8) (.tmp 10),none⟩,⟨some 13,.load 39 (.tmp 12),none⟩,⟨some 7,.alloc 39,none⟩,⟨none,.store 39 (.tmp 7) (.tmp 13),none⟩]
instance : Live r_k24_5 := ⟨[3,5,8,9,10]⟩
def r_k24_6 : List SOp := [⟨some 14,.load 39 (.tmp 7),none⟩,⟨some 15,.load 49 (.tmp 3),none⟩,⟨some 16,.call ⟨.value (.func 26),#[.tmp 14,.tmp 15],#[39,49]⟩,none⟩]
instance : Live r_k24_6 := ⟨[3,5,7,8,9,10]⟩
def r_k24_7 : List SOp := [⟨some 17,.move (.tmp 5),none⟩,⟨some 18,.binOp .add 3 (.tmp 17) (.const (.int .i64 1)) 3,none⟩,⟨some 5,.assign (.tmp 18),none⟩]
instance : Live r_k24_7 := ⟨[3,5,8,9,10]⟩
def r_k24_8 : List SOp := [⟨some 19,.binOp .add 3 (.tmp 10) (.const (.int .i64 1)) 3,none⟩,⟨some 10,.move (.tmp 19),none⟩]
instance : Live r_k24_8 := ⟨[3,5,8,9,10]⟩
def r_k24_9 : List SOp := [⟨some 20,.move (.tmp 5),none⟩,⟨some 4,.assign (.tmp 20),none⟩]
instance : Live r_k24_9 := ⟨[5]⟩
def t_k24_l1 : SC :=
  (.seq (.ops false r_k24_4) (.seq (.cond (.tmp 11) .skip (.exit 0)) (.seq (.block 1 (.seq (.ops false r_k24_5) (.seq (.ops false r_k24_6) (.cond (.tmp 16) (.ops false r_k24_7) .skip)))) (.ops false r_k24_8))))
def t_k24 : SC :=
  (.seq (.ops false r_k24_1) (.seq (.ops false r_k24_2) (.seq (.seq (.ops false r_k24_3) (.block 0 (.loop t_k24_l1))) (.seq (.ops false r_k24_9) .ret))))
theorem it_k24 : FnIs Tryz.prog 24 21 [.tmp 4] t_k24 := ⟨Tryz.f24, _, Tryz.func24, rfl, rfl, rfl, rfl, by kernel_rfl⟩


def r_k56_1 : List SOp := [⟨some 1,.box 39 (.tmp 0),none⟩,⟨some 2,.alloc 39,none⟩]
instance : Live r_k56_1 := ⟨[0]⟩
def r_k56_2 : List SOp := [⟨some 3,.fieldAddr 39 (.tmp 1) 0,none⟩,⟨some 4,.load 9 (.tmp 3),none⟩,⟨some 5,.fieldAddr 39 (.tmp 1) 1,none⟩,⟨some 6,.load 27 (.tmp 5),none⟩,⟨some 7,.call ⟨.value (.func 41),#[.tmp 6],#[27]⟩,none⟩,⟨some 8,.build 39 #[(0,.tmp 4),(1,.tmp 7)],none⟩,⟨none,.store 39 (.tmp 2) (.tmp 8),none⟩]
instance : Live r_k56_2 := ⟨[1,2]⟩
def t_k56 : SC :=
  (.seq (.ops false r_k56_1) (.seq (.ops true r_k56_2) .ret))
theorem it_k56 : FnIs Tryz.prog 56 9 [.cell 2 39] t_k56 := ⟨Tryz.f56, _, Tryz.func56, rfl, rfl, rfl, rfl, by kernel_rfl⟩

theorem take_snoc_all {α : Type} {l : List α} {q : α → Prop} {i : Nat} {x : α} (hx : l[i]? = some x) (h : ∀ y ∈ l.take i, q y) (hq : q x) : ∀ y ∈ l.take (i + 1), q y := by
  intro y hy
  rw [List.take_add_one, hx] at hy
  rcases List.mem_append.1 hy with hy | hy
  · exact h y hy
  · simp at hy; subst hy; exact hq
def covK (r : Rec) (e : Ent) : Bool := (decide (r.sku.size = 0) || decide (r.sku = e.sku)) && hasP r.past e.dot
theorem ev_k26 (r : Rec) (e : Ent) (hw : wt r.past ≤ 900000000) : Ev (En Tryz.prog rfl).P 26 [encK r, encE e] (.ret (.bool (covK r e))) := by
  refine Ev.of_body it_k26 (by simp) (Run.start ?_)
  unfold t_k26 encK encE covK
  have es := str_nil r.sku
  have c1 := ev_k35 r.past e.dot hw
  generalize hasP r.past e.dot = v at c1 ⊢
  by_cases h0 : r.sku.size = 0
  · rw [decide_eq_true h0, Bool.true_or, Bool.true_and]
    rw [eq_true h0] at es
    (focus (have hF := @es; (repeat' (first | refine go1 (k:=?_) | with_reducible refine Ny.of ?_ ?_ | (refine Hyp.of ?_; intro hc; (try simp only [hc]); (try simp only [Bh] at hc)))); all_goals clear hF))
    refine stCall [encP r.past, encR e.dot] (he := c1) (k:=?_)
    (focus (have hF := True.intro; (repeat' (first | refine go1 (k:=?_) | with_reducible refine Ny.of ?_ ?_ | (refine Hyp.of ?_; intro hc; (try simp only [hc]); (try simp only [Bh] at hc)))); all_goals clear hF))
    exact Fin.tmp' rfl rfl
  · rw [decide_eq_false h0, Bool.false_or]
    rw [eq_false h0] at es
    by_cases h1 : r.sku = e.sku
    · rw [decide_eq_true h1, Bool.true_and]
      have es2 := es
      rw [h1] at es2
      (focus (have hF := (And.intro @es (And.intro @h1 @es2)); (repeat' (first | refine go1 (k:=?_) | with_reducible refine Ny.of ?_ ?_ | (refine Hyp.of ?_; intro hc; (try simp only [hc]); (try simp only [Bh] at hc)))); all_goals clear hF))
      refine stCall [encP r.past, encR e.dot] (he := c1) (k:=?_)
      (focus (have hF := True.intro; (repeat' (first | refine go1 (k:=?_) | with_reducible refine Ny.of ?_ ?_ | (refine Hyp.of ?_; intro hc; (try simp only [hc]); (try simp only [Bh] at hc)))); all_goals clear hF))
      exact Fin.tmp' rfl rfl
    · rw [decide_eq_false h1, Bool.false_and]
      (focus (have hF := (And.intro @es @h1); (repeat' (first | refine go1 (k:=?_) | with_reducible refine Ny.of ?_ ?_ | (refine Hyp.of ?_; intro hc; (try simp only [hc]); (try simp only [Bh] at hc)))); all_goals clear hF))
      exact Fin.tmp' rfl rfl
def barsK (l : List Rec) (e : Ent) : Nat := (l.filter fun r => covK r e).length
theorem barsK_take {l : List Rec} {i : Nat} {r : Rec} (h : l[i]? = some r) (e : Ent) : barsK (l.take (i + 1)) e = barsK (l.take i) e + if covK r e = true then 1 else 0 := by
  unfold barsK
  rw [List.take_add_one, h, List.filter_append]
  cases hc : covK r e <;> simp [hc]
theorem barsK_le (l : List Rec) (e : Ent) : barsK l e ≤ l.length := List.length_filter_le _ _
theorem ev_k24 (l : List Rec) (e : Ent) (hl : l.length ≤ 900000000) (hw : ∀ r ∈ l, wt r.past ≤ 900000000) : Ev (En Tryz.prog rfl).P 24 [.sl 3 (encKs l), encE e] (.ret (.int .i64 (barsK l e))) := by
  refine Ev.of_body it_k24 (by simp) (Run.start ?_)
  unfold t_k24 encE
  have e1 := encKs_len l
  have hS := stbK
  (focus (have hF := @e1; (repeat' (first | refine go1 (k:=?_) | with_reducible refine Ny.of ?_ ?_ | (refine Hyp.of ?_; intro hc; (try simp only [hc]); (try simp only [Bh] at hc)))); all_goals clear hF))
  refine Run.while (σ := Nat) (fun i => ⟨tms [(3, .ptr 3 0), (5, .int .i64 (barsK (l.take i) e : Nat)), (8, .sl 3 (encKs l)), (9, .int .i64 l.length), (10, .int .i64 (i : Int))], mms [(3, .cells [.int .i64 e.rep, .int .i64 e.num, .str e.sku, .int .i64 e.qty])]⟩)
    (fun i => i ≤ l.length) (fun i => l.length - i) 0 (have hW := @encKs_stb; stWk) (Nat.zero_le _) ?_
  intro i hi
  unfold t_k24_l1
  by_cases hlt : i < l.length
  · obtain ⟨r, hr⟩ : ∃ r, l[i]? = some r := ⟨l[i], by simp [hlt]⟩
    have g1 := encKs_get hr
    have c1 := ev_k26 r e (hw r (List.mem_of_getElem? hr))
    have hn := barsK_take hr e
    have hle := barsK_le (l.take i) e
    have hlt' : (l.take i).length ≤ l.length := by rw [List.length_take]; omega
    generalize barsK (l.take i) e = n at hn hle ⊢
    cases hc : covK r e <;> rw [hc] at hn c1 <;> simp only [if_true, Bool.false_eq_true, if_false] at hn
    · (focus (have hF := (And.intro @e1 @g1); (repeat' (first | refine go1 (k:=?_) | with_reducible refine Ny.of ?_ ?_ | (refine Hyp.of ?_; intro hc; (try simp only [hc]); (try simp only [Bh] at hc)))); all_goals clear hF))
      refine stCall [encK r, encE e] (he := c1) (k:=?_)
      (focus (have hF := (And.intro @e1 @g1); (repeat' (first | refine go1 (k:=?_) | with_reducible refine Ny.of ?_ ?_ | (refine Hyp.of ?_; intro hc; (try simp only [hc]); (try simp only [Bh] at hc)))); all_goals clear hF))
      (refine Fin.nextW (i + 1) ?_ (have hW := (And.intro @encKs_stb @hn); stWk); (try dsimp only))
      omega
    · (focus (have hF := (And.intro @e1 @g1); (repeat' (first | refine go1 (k:=?_) | with_reducible refine Ny.of ?_ ?_ | (refine Hyp.of ?_; intro hc; (try simp only [hc]); (try simp only [Bh] at hc)))); all_goals clear hF))
      refine stCall [encK r, encE e] (he := c1) (k:=?_)
      (focus (have hF := (And.intro @e1 @g1); (repeat' (first | refine go1 (k:=?_) | with_reducible refine Ny.of ?_ ?_ | (refine Hyp.of ?_; intro hc; (try simp only [hc]); (try simp only [Bh] at hc)))); all_goals clear hF))
      (refine Fin.nextW (i + 1) ?_ (have hW := (And.intro @encKs_stb @hn); stWk); (try dsimp only))
      omega
  · have : l.take i = l := List.take_of_length_le (by omega)
    rw [this]
    (focus (have hF := @e1; (repeat' (first | refine go1 (k:=?_) | with_reducible refine Ny.of ?_ ?_ | (refine Hyp.of ?_; intro hc; (try simp only [hc]); (try simp only [Bh] at hc)))); all_goals clear hF))
    exact Fin.tmp' rfl rfl
theorem ev_k56 (r : Rec) (hw : wt r.past ≤ 50000000) : Ev (En Tryz.prog rfl).P 56 [encK r] (.ret (encK ⟨r.sku, normP r.past⟩)) := by
  refine Ev.of_body it_k56 (by simp) (Run.start ?_)
  unfold t_k56 encK
  have c1 := ev_k41 r.past hw
  have hS := stbK
  (focus (have hF := True.intro; (repeat' (first | refine go1 (k:=?_) | with_reducible refine Ny.of ?_ ?_ | (refine Hyp.of ?_; intro hc; (try simp only [hc]); (try simp only [Bh] at hc)))); all_goals clear hF))
  refine stCall [encP r.past] (he := c1) (k:=?_)
  unfold encP
  (focus (have hF := True.intro; (repeat' (first | refine go1 (k:=?_) | with_reducible refine Ny.of ?_ ?_ | (refine Hyp.of ?_; intro hc; (try simp only [hc]); (try simp only [Bh] at hc)))); all_goals clear hF))
  exact Fin.all rfl (by simp [stbs, AVal.stb, encIs_stb, encSs_stb, fzc, allK]) rfl

def r_k28_1 : List SOp := [⟨some 2,.assign (.const (.slice none 0 0)),none⟩,⟨some 3,.assign (.const (.int .i64 0)),none⟩]
instance : Live r_k28_1 := ⟨[0]⟩
def r_k28_2 : List SOp := [⟨some 10,.move (.tmp 0),none⟩,⟨some 11,.call ⟨.value (.func 14),#[.tmp 10],#[22]⟩,none⟩,⟨some 12,.binOp .neq 32 (.tmp 11) (.const (.int .i64 0)) 32,none⟩]
instance : Live r_k28_2 := ⟨[0]⟩
def r_k28_3 : List SOp := [⟨some 2,.assign (.const (.slice none 0 0)),none⟩,⟨some 3,.assign (.const (.int .i64 1)),none⟩]
instance : Live r_k28_3 := ⟨[]⟩
def r_k28_4 : List SOp := [⟨some 4,.alloc 27,none⟩]
instance : Live r_k28_4 := ⟨[0]⟩
def r_k28_5 : List SOp := [⟨some 5,.assign (.const (.slice none 0 0)),none⟩]
instance : Live r_k28_5 := ⟨[0,4]⟩
def r_k28_6 : List SOp := [⟨some 6,.assign (.const (.int .i64 0)),none⟩]
instance : Live r_k28_6 := ⟨[0,4,5]⟩
def r_k28_7 : List SOp := [⟨some 13,.move (.tmp 6),none⟩,⟨some 14,.move (.tmp 0),none⟩,⟨some 15,.call ⟨.builtin .len,#[.tmp 14],#[22]⟩,none⟩,⟨some 16,.binOp .lss 3 (.tmp 13) (.tmp 15) 3,none⟩]
instance : Live r_k28_7 := ⟨[0,4,5,6]⟩
def r_k28_8 : List SOp := [⟨some 17,.move (.tmp 6),none⟩,⟨some 7,.assign (.tmp 17),none⟩]
instance : Live r_k28_8 := ⟨[0,4,5,6]⟩
def r_k28_9 : List SOp := [⟨some 8,.assign (.const (.slice none 0 0)),none⟩]
instance : Live r_k28_9 := ⟨[0,4,5,6,7]⟩
def r_k28_10 : List SOp := [⟨some 18,.move (.tmp 7),none⟩,⟨some 19,.move (.tmp 0),none⟩,⟨some 20,.call ⟨.builtin .len,#[.tmp 19],#[22]⟩,none⟩,⟨some 21,.binOp .lss 3 (.tmp 18) (.tmp 20) 3,none⟩,⟨some 22,.move (.tmp 21),none⟩,⟨some 23,.move (.tmp 0),some ((some 22),true)⟩,⟨some 24,.move (.tmp 7),some ((some 22),true)⟩,⟨some 25,.indexAddr 22 (.tmp 23) (.tmp 24),some ((some 22),true)⟩,⟨some 26,.fieldAddr 39 (.tmp 25) 0,some ((some 22),true)⟩,⟨some 27,.load 9 (.tmp 26),some ((some 22),true)⟩,⟨some 28,.move (.tmp 0),some ((some 22),true)⟩,⟨some 29,.move (.tmp 6),some ((some 22),true)⟩,⟨some 30,.indexAddr 22 (.tmp 28) (.tmp 29),some ((some 22),true)⟩,⟨some 31,.fieldAddr 39 (.tmp 30) 0,some ((some 22),true)⟩,⟨some 32,.load 9 (.tmp 31),some ((some 22),true)⟩,⟨some 33,.binOp .eql 9 (.tmp 27) (.tmp 32) 9,some ((some 22),true)⟩,⟨some 34,.pick (.tmp 22) (.tmp 33) (.const (.bool false)),none⟩]
instance : Live r_k28_10 := ⟨[0,4,5,6,7,8]⟩
def r_k28_11 : List SOp := [⟨some 35,.move (.tmp 8),none⟩,⟨some 36,.move (.tmp 0),none⟩,⟨some 37,.move (.tmp 7),none⟩,⟨some 38,.indexAddr 22 (.tmp 36) (.tmp 37),none⟩,⟨some 39,.fieldAddr 39 (.tmp 38) 1,none⟩,⟨some 40,.load 27 (.tmp 39),none⟩,⟨some 41,.buildSlice 101 1 #[(0,.tmp 40)],none⟩,⟨some 42,.call ⟨.builtin .append,#[.tmp 35,.tmp 41],#[101,101]⟩,none⟩,⟨some 8,.assign (.tmp 42),none⟩]
instance : Live r_k28_11 := ⟨[0,4,5,6,7,8]⟩
def r_k28_12 : List SOp := [⟨some 43,.move (.tmp 7),none⟩,⟨some 44,.binOp .add 3 (.tmp 43) (.const (.int .i64 1)) 3,none⟩,⟨some 7,.assign (.tmp 44),none⟩]
instance : Live r_k28_12 := ⟨[0,4,5,6,7,8]⟩
def r_k28_13 : List SOp := [⟨some 45,.move (.tmp 0),none⟩,⟨some 46,.move (.tmp 6),none⟩,⟨some 47,.indexAddr 22 (.tmp 45) (.tmp 46),none⟩,⟨some 48,.fieldAddr 39 (.tmp 47) 0,none⟩,⟨some 49,.load 9 (.tmp 48),none⟩,⟨some 50,.move (.tmp 8),none⟩,⟨some 51,.call ⟨.value (.func 42),#[.tmp 50],#[101]⟩,none⟩,⟨some 52,.build 39 #[(0,.tmp 49),(1,.tmp 51)],none⟩,⟨some 9,.alloc 39,none⟩,⟨none,.store 39 (.tmp 9) (.tmp 52),none⟩]
instance : Live r_k28_13 := ⟨[0,4,5,6,7,8]⟩
def r_k28_14 : List SOp := [⟨some 53,.fieldAddr 39 (.tmp 9) 0,none⟩,⟨some 54,.load 9 (.tmp 53),none⟩,⟨some 55,.binOp .eql 9 (.tmp 54) (.const (.string ⟨#[]⟩)) 9,none⟩]
instance : Live r_k28_14 := ⟨[0,4,5,7,9]⟩
def r_k28_15 : List SOp := [⟨some 56,.fieldAddr 39 (.tmp 9) 1,none⟩,⟨some 57,.load 27 (.tmp 56),none⟩,⟨none,.store 27 (.tmp 4) (.tmp 57),none⟩]
instance : Live r_k28_15 := ⟨[0,4,5,7,9]⟩
def r_k28_16 : List SOp := [⟨some 58,.fieldAddr 39 (.tmp 9) 1,none⟩,⟨some 59,.load 27 (.tmp 58),none⟩,⟨some 60,.load 27 (.tmp 4),none⟩,⟨some 61,.call ⟨.value (.func 73),#[.tmp 59,.tmp 60],#[27,27]⟩,none⟩,⟨some 62,.fieldAddr 39 (.tmp 9) 1,none⟩,⟨none,.store 27 (.tmp 62) (.tmp 61),none⟩]
instance : Live r_k28_16 := ⟨[0,4,5,7,9]⟩
def r_k28_17 : List SOp := [⟨some 63,.fieldAddr 39 (.tmp 9) 1,none⟩,⟨some 64,.load 27 (.tmp 63),none⟩,⟨some 65,.call ⟨.value (.func 55),#[.tmp 64],#[27]⟩,none⟩,⟨some 66,.unOp .not 4 (.tmp 65),none⟩]
instance : Live r_k28_17 := ⟨[0,4,5,7,9]⟩
def r_k28_18 : List SOp := [⟨some 67,.move (.tmp 5),none⟩,⟨some 68,.load 39 (.tmp 9),none⟩,⟨some 69,.buildSlice 22 1 #[(0,.tmp 68)],none⟩,⟨some 70,.call ⟨.builtin .append,#[.tmp 67,.tmp 69],#[22,22]⟩,none⟩,⟨some 5,.assign (.tmp 70),none⟩]
instance : Live r_k28_18 := ⟨[0,4,5,7,9]⟩
def r_k28_19 : List SOp := [⟨some 71,.move (.tmp 7),none⟩,⟨some 6,.assign (.tmp 71),none⟩]
instance : Live r_k28_19 := ⟨[0,4,5,7]⟩
def r_k28_20 : List SOp := [⟨some 72,.move (.tmp 5),none⟩,⟨some 73,.call ⟨.builtin .len,#[.tmp 72],#[22]⟩,none⟩,⟨some 74,.binOp .gtr 3 (.tmp 73) (.const (.int .i64 0)) 3,none⟩,⟨some 75,.move (.tmp 74),none⟩,⟨some 76,.move (.tmp 5),some ((some 75),true)⟩,⟨some 77,.indexAddr 22 (.tmp 76) (.const (.int .i64 0)),some ((some 75),true)⟩,⟨some 78,.fieldAddr 39 (.tmp 77) 0,some ((some 75),true)⟩,⟨some 79,.load 9 (.tmp 78),some ((some 75),true)⟩,⟨some 80,.binOp .eql 9 (.tmp 79) (.const (.string ⟨#[]⟩)) 9,some ((some 75),true)⟩,⟨some 81,.pick (.tmp 75) (.tmp 80) (.const (.bool false)),none⟩]
instance : Live r_k28_20 := ⟨[5]⟩
def r_k28_21 : List SOp := [⟨some 82,.move (.tmp 5),none⟩,⟨some 83,.move (.tmp 5),none⟩,⟨some 84,.indexAddr 22 (.tmp 83) (.const (.int .i64 0)),none⟩,⟨some 85,.load 39 (.tmp 84),none⟩,⟨some 86,.call ⟨.value (.func 56),#[.tmp 85],#[39]⟩,none⟩,⟨some 87,.indexAddr 22 (.tmp 82) (.const (.int .i64 0)),none⟩,⟨none,.store 39 (.tmp 87) (.tmp 86),none⟩]
instance : Live r_k28_21 := ⟨[5]⟩
def r_k28_22 : List SOp := [⟨some 88,.move (.tmp 5),none⟩,⟨some 2,.assign (.tmp 88),none⟩,⟨some 3,.assign (.const (.int .i64 0)),none⟩]
instance : Live r_k28_22 := ⟨[5]⟩
def t_k28_l2 : SC :=
  (.seq (.seq (.ops true r_k28_10) (.cond (.tmp 34) .skip (.exit 2))) (.block 3 (.seq (.ops false r_k28_11) (.ops false r_k28_12))))
def t_k28_l1 : SC :=
  (.seq (.seq (.ops false r_k28_7) (.cond (.tmp 16) .skip (.exit 0))) (.block 1 (.seq (.ops false r_k28_8) (.seq (.ops false r_k28_9) (.seq (.block 2 (.loop t_k28_l2)) (.seq (.ops true r_k28_13) (.seq (.seq (.ops false r_k28_14) (.cond (.tmp 55) (.ops false r_k28_15) (.ops false r_k28_16))) (.seq (.seq (.ops false r_k28_17) (.cond (.tmp 66) (.ops false r_k28_18) .skip)) (.ops false r_k28_19)))))))))
def t_k28 : SC :=
  (.seq (.ops false r_k28_1) (.seq (.seq (.ops false r_k28_2) (.cond (.tmp 12) (.seq (.ops false r_k28_3) .ret) .skip)) (.seq (.ops false r_k28_4) (.seq (.ops false r_k28_5) (.seq (.seq (.ops false r_k28_6) (.block 0 (.loop t_k28_l1))) (.seq (.seq (.ops false r_k28_20) (.cond (.tmp 81) (.ops false r_k28_21) .skip)) (.seq (.ops false r_k28_22) .ret)))))))
theorem it_k28 : FnIs Tryz.prog 28 89 [.tmp 2, .tmp 3] t_k28 := ⟨Tryz.f28, _, Tryz.func28, rfl, rfl, rfl, rfl, by kernel_rfl⟩

def sameSku (s : ByteArray) (r : Rec) : Bool := decide (r.sku = s)
def headG (l : List Rec) : List Rec := match l with | [] => [] | r :: t => l.takeWhile (sameSku r.sku)
def joinG (l : List Rec) : Pst := joinP ((headG l).map (·.past))
def newG (all : Pst) (s : ByteArray) (p : Pst) : Pst := if s.size = 0 then p else minusP p all
def allG (all : Pst) (s : ByteArray) (p : Pst) : Pst := if s.size = 0 then p else all
def outG (s : ByteArray) (p : Pst) : List Rec := if sizeP p = 0 then [] else [⟨s, p⟩]
def foldF : Nat → List Rec → Pst → List Rec
  | 0, _, _ => []
  | n + 1, [], _ => []
  | n + 1, r :: l, all => outG r.sku (newG all r.sku (joinG (r :: l))) ++ foldF n ((r :: l).dropWhile (sameSku r.sku)) (allG all r.sku (joinG (r :: l)))
def headN : List Rec → List Rec
  | [] => []
  | r :: l => if r.sku.size = 0 then ⟨r.sku, normP r.past⟩ :: l else r :: l
def foldK (l : List Rec) : List Rec := headN (foldF l.length l ⟨[], []⟩)
theorem takeWhile_take {α : Type} {p : α → Bool} : ∀ {l : List α} {m : Nat}, (∀ x ∈ l.take m, p x = true) → (∀ x, l[m]? = some x → p x = false) → l.takeWhile p = l.take m ∧ l.dropWhile p = l.drop m
  | [], m, _, _ => by simp
  | x :: l, 0, _, h => by
    have := h x rfl
    simp [List.takeWhile, List.dropWhile, this]
  | x :: l, m + 1, h, h' => by
    have hx : p x = true := h x (by simp)
    have ih := takeWhile_take (l := l) (m := m) (fun y hy => h y (by simp [hy])) (fun y hy => h' y (by simpa using hy))
    simp [List.takeWhile, List.dropWhile, hx, ih]
theorem sum_sub {l m : List Nat} (h : l.Sublist m) : l.sum ≤ m.sum := by
  induction h with
  | slnil => exact Nat.le_refl _
  | cons a h ih => simp only [List.sum_cons]; omega
  | cons_cons a h ih => simp only [List.sum_cons]; omega
theorem wts_le {l m : List Rec} (h : l.Sublist m) : ((l.map (·.past)).map wt).sum ≤ wtKs m := by
  have h1 : ∀ l : List Rec, ((l.map (·.past)).map wt).sum ≤ wtKs l := by
    intro l
    induction l with
    | nil => exact Nat.le_refl _
    | cons r l ih => unfold wtKs at *; simp only [List.map_cons, List.sum_cons, wtK] at *; omega
  exact Nat.le_trans (h1 l) (sum_sub (h.map wtK))
theorem encPs_snoc' (l : List Pst) (v : List Int) (c : List Sn) : encPs l ++ [.agg [.sl 1 (encIs v), .sl 3 (encSs c)]] = encPs (l ++ [⟨v, c⟩]) := by simp [encPs, encP]
theorem Wk.give {n u k e sz : Nat} {xs : List AVal} {l1 : List (Nat × AVal)} {m1 : List (Nat × ABlk)} (hn : allNo (fun j => j == k) l1) (hb : blkNo (fun j => j == k) m1) (h0 : mms m1 k = none) (hx : stbs xs = true) :
    Wk n ⟨tms ((u, .os k e) :: l1), mms ((k, .arr e sz xs) :: m1)⟩ ⟨tms ((u, .sl sz xs) :: l1), mms m1⟩ := by
  intro B G a w hR
  have hM1 : (fun j => if (j == k) = true then none else mms ((k, .arr e sz xs) :: m1) j) = mms m1 := by
    funext j
    by_cases hj : j = k
    · subst hj; simp [h0]
    · simp [hj, mms, upd_ne]
  have hblk : ∀ {l : List (Nat × ABlk)}, blkNo (fun j => j == k) l → ∀ j blk, mms l j = some blk → blk.no (fun j => j == k) = true := by
    intro l
    induction l with
    | nil => intro _ j blk h; cases h
    | cons p l ih =>
      obtain ⟨q, v⟩ := p
      intro h j blk hj
      simp only [mms] at hj
      by_cases hjq : j = q
      · subst hjq; rw [upd_same] at hj; cases hj; exact h.1
      · rw [upd_ne _ _ hjq] at hj; exact ih h.2 j blk hj
  have htm := tms_no (allNo_of hn)
  refine ⟨G.without fun j => j == k, ⟨hR.size, hR.defers, fun t => ?_, fun j blk hj => ?_, fun b hb => ⟨(hR.fr b hb).1, without_none (hR.fr b hb).2⟩, fun b hb => hR.ol b fun hn => hb (without_none hn)⟩,
    ⟨⟨rfl, Nat.le_refl _⟩, rfl, rfl, Nat.le_refl _, fun b _ ho => ⟨rfl, without_none ho⟩⟩⟩
  · have hv := hR.temps t
    simp only [tms] at hv ⊢
    rw [← hM1]
    by_cases ht : t = u
    · subst ht
      rw [upd_same] at hv ⊢
      have h1 := fz_ok (K := fun j => j == k) hR.mem hv
      have h2 : fz (fun j => j == k) (mms ((k, .arr e sz xs) :: m1)) (.os k e) = .sl sz xs := by
        simp [fz, fzc, mms, upd_same]
      rw [h2] at h1
      exact h1.stable (fun b _ hb ho => ⟨rfl, hb, ho⟩) hx
    · rw [upd_ne _ _ ht] at hv ⊢
      exact hv.drop (htm t)
  · change mms m1 j = some blk at hj
    have hjk : j ≠ k := fun h => by subst h; rw [h0] at hj; cases hj
    have hj' : mms ((k, .arr e sz xs) :: m1) j = some blk := by simp only [mms]; rw [upd_ne _ _ hjk]; exact hj
    have h0' := hR.mem j blk hj'
    have hno := hblk hb j blk hj
    have hK' : (j == k) = false := by simp [hjk]
    rw [← hM1]
    cases blk with
    | cells cs =>
      obtain ⟨c, el, b1, b2, b3, b4, b5⟩ := h0'
      refine ⟨c, el, by simp [Gh.without, b1, OKey.of, hjk], b2, b3, b4, fun i x hx => ?_⟩
      obtain ⟨u, hu, hr⟩ := b5 i x hx
      exact ⟨u, hu, hr.drop hK' (List.all_eq_true.1 hno x (List.mem_of_getElem? hx))⟩
    | arr e sz xs =>
      rcases h0' with h | ⟨b, o, cap, c, el, h1, h2, h3, h4, h5, h6, h7, h7', h8⟩
      · exact .inl h
      · exact .inr ⟨b, o, cap, c, el, h1, h2, by simp [Gh.without, h3, OKey.of, hjk], h4, h5, h6, h7, h7', fun n y hy => let ⟨u, hu, hr⟩ := h8 n y hy; ⟨u, hu, hr.drop (List.all_eq_true.1 hno y (List.mem_of_getElem? hy))⟩⟩
    | dead => trivial
structure FoS where
  i : Nat
  all : Pst
  out : List Rec
theorem ev_keepFoldW (l : List Rec) (W : Nat) (hW : W ≤ 5000000) (hl : l.length ≤ 5000000) (hwr : ∀ r ∈ l, wt r.past ≤ W) (hg0 : ∀ (i m : Nat) (s : ByteArray), (∀ x ∈ (l.drop i).take m, sameSku s x = true) → ((((l.drop i).take m).map (·.past)).map wt).sum ≤ W) : Ev (En Tryz.prog rfl).P 28 [.sl 3 (encKs l)] (.ret (.tup [.sl 3 (encKs (if formK l = true then foldK l else [])), .int .i64 (if formK l = true then 0 else 1)])) := by
  refine Ev.of_body it_k28 (by simp) (Run.start ?_)
  unfold t_k28
  have e1 := encKs_len l
  have hS := stbK
  have c1 := ev_keepCheckW l (by omega) (fun r hr => by have := hwr r hr; omega)
  (focus (have hF := @e1; (repeat' (first | refine go1 (k:=?_) | with_reducible refine Ny.of ?_ ?_ | (refine Hyp.of ?_; intro hc; (try simp only [hc]); (try simp only [Bh] at hc)))); all_goals clear hF))
  refine stCall [.sl 3 (encKs l)] (he := c1) (k:=?_)
  by_cases hform : formK l = true
  case' neg =>
    simp only [if_neg hform]
    (focus (have hF := @e1; (repeat' (first | refine go1 (k:=?_) | with_reducible refine Ny.of ?_ ?_ | (refine Hyp.of ?_; intro hc; (try simp only [hc]); (try simp only [Bh] at hc)))); all_goals clear hF))
    exact Fin.two (x := .nil) (x' := .int .i64 1) rfl rfl rfl rfl (.inr ⟨rfl, 3, rfl⟩) (.inl rfl)
  case' pos =>
    simp only [if_pos hform]
    have hfk : foldK l = headN (foldF l.length l ⟨[], []⟩) := rfl
    have hR0 : [] ++ foldF l.length (l.drop 0) ⟨[], []⟩ = foldF l.length l ⟨[], []⟩ := rfl
    generalize foldF l.length l ⟨[], []⟩ = R at hfk hR0
    (focus (have hF := @e1; (repeat' (first | refine go1 (k:=?_) | with_reducible refine Ny.of ?_ ?_ | (refine Hyp.of ?_; intro hc; (try simp only [hc]); (try simp only [Bh] at hc)))); all_goals clear hF))
    refine Run.wk (Wk.trans (Wk.own_nil 5 70 3 rfl rfl) (Wk.trans (Wk.own_cells (k := 4) (cs' := [.own 1 [], .own 3 []]) rfl rfl ?_) (Wk.freeze (k := 4) (cs := [.own 1 [], .own 3 []]) rfl))) ?_
    · intro i x y hx hy
      match i with
      | 0 => simp at hx hy; subst hx; subst hy; exact .inr ⟨rfl, 1, rfl⟩
      | 1 => simp at hx hy; subst hx; subst hy; exact .inr ⟨rfl, 3, rfl⟩
      | i + 2 => simp at hx
    refine Run.while (σ := FoS) (fun z => ⟨tms [(0, .sl 3 (encKs l)), (4, .ptr 4 0), (5, .os 70 z.out.length), (6, .int .i64 (z.i : Int))], mms [(4, .cells [.sl 1 (encIs z.all.vec), .sl 3 (encSs z.all.cloud)]), (70, .arr z.out.length 3 (encKs z.out))]⟩)
      (fun z => z.i ≤ l.length ∧ z.out.length ≤ z.i ∧ wt z.all ≤ 16 + W ∧ (∃ n, l.length - z.i ≤ n ∧ z.out ++ foldF n (l.drop z.i) z.all = R) ∧ ∀ r ∈ z.out, wt r.past ≤ 64 + 2 * W) (fun z => l.length - z.i) ⟨0, ⟨[], []⟩, []⟩ (have hW := @encKs_stb; stWk) ⟨Nat.zero_le _, Nat.le_refl _, Nat.zero_le _, ⟨l.length, Nat.le_refl _, hR0⟩, fun r hr => absurd hr (by simp)⟩ ?_
    rintro ⟨i, all, out⟩ ⟨hi, ho, ha, ⟨n, hn, hf⟩, hwo⟩
    dsimp only at *
    unfold t_k28_l1
    have e2 := encKs_len out
    by_cases hlt : i < l.length
    · obtain ⟨r, hr⟩ : ∃ r, l[i]? = some r := ⟨l[i], by simp [hlt]⟩
      have g1 := encKs_get hr
      (focus (have hF := (And.intro @e1 (And.intro @e2 @g1)); (repeat' (first | refine go1 (k:=?_) | with_reducible refine Ny.of ?_ ?_ | (refine Hyp.of ?_; intro hc; (try simp only [hc]); (try simp only [Bh] at hc)))); all_goals clear hF))
      refine Run.wk (Wk.own_nil 8 42 2 rfl rfl) ?_
      refine Run.while (σ := Nat) (fun m => ⟨tms [(0, .sl 3 (encKs l)), (4, .ptr 4 0), (5, .os 70 out.length), (6, .int .i64 (i : Int)), (7, .int .i64 ((i + m : Nat) : Int)), (8, .os 42 m)], mms [(4, .cells [.sl 1 (encIs all.vec), .sl 3 (encSs all.cloud)]), (42, .arr m 2 (encPs (((l.drop i).take m).map (·.past)))), (70, .arr out.length 3 (encKs out))]⟩)
        (fun m => i + m ≤ l.length ∧ ∀ x ∈ (l.drop i).take m, sameSku r.sku x = true) (fun m => l.length - i - m) 0 (have hW := @encKs_stb; stWk) ⟨by omega, fun x hx => absurd hx (by simp)⟩ ?_
      rintro m ⟨hm, hg⟩
      unfold t_k28_l2
      have hdr : (l.drop i)[m]? = l[i + m]? := by rw [List.getElem?_drop]
      have hrd : l.drop i = r :: l.drop (i + 1) := by
        have := List.drop_eq_getElem_cons hlt
        rw [this]
        simp only [List.getElem?_eq_getElem hlt, Option.some.injEq] at hr
        rw [hr]
      have hpl : (((l.drop i).take m).map (·.past)).length = m := by simp; omega
      have e3 := encPs_len (((l.drop i).take m).map (·.past))
      rw [hpl] at e3
      have hwp := hg0 i m r.sku hg
      by_cases hex : ∃ q, l[i + m]? = some q ∧ q.sku = r.sku
      · obtain ⟨q, hq, hsk⟩ := hex
        have hjl : i + m < l.length := by
          rcases Nat.lt_or_ge (i + m) l.length with h | h
          · exact h
          · rw [List.getElem?_eq_none h] at hq; cases hq
        have g2 := encKs_get hq
        have hsn : ((l.drop i).take (m + 1)).map (·.past) = ((l.drop i).take m).map (·.past) ++ [q.past] := by
          rw [List.take_add_one, hdr, hq]
          simp
        (focus (have hF := (And.intro (And.intro @e1 @e3) (And.intro @g1 (And.intro @g2 @hsk))); (repeat' (first | refine go1 (k:=?_) | with_reducible refine Ny.of ?_ ?_ | (refine Hyp.of ?_; intro hc; (try simp only [hc]); (try simp only [Bh] at hc)))); all_goals clear hF))
        (refine Fin.nextW (m + 1) ?_ (have hW := (And.intro @encKs_stb (And.intro @hsn @encPs_snoc')); stWk); (try dsimp only))
        refine ⟨⟨hjl, take_snoc_all (by rw [hdr, hq]) hg (by simp [sameSku, hsk])⟩, by omega⟩
      refine Run.wk (Wk.trans (Wk.toL [(8, .os 42 m), (0, .sl 3 (encKs l)), (4, .ptr 4 0), (5, .os 70 out.length), (6, .int .i64 (i : Int)), (7, .int .i64 ((i + m : Nat) : Int))] [(42, .arr m 2 (encPs (((l.drop i).take m).map (·.past)))), (4, .cells [.sl 1 (encIs all.vec), .sl 3 (encSs all.cloud)]), (70, .arr out.length 3 (encKs out))] ⟨rfl, rfl, rfl, rfl, rfl, rfl, trivial⟩ ⟨rfl, rfl, rfl, trivial⟩ ⟨rfl, no_of_stb (encKs_stb l), rfl, rfl, rfl, rfl, trivial⟩ ⟨arr_no (encPs_stb _), cells_no _ (by simp [stbs, AVal.stb, encIs_stb, encSs_stb]), arr_no (encKs_stb _), trivial⟩) (Wk.give ⟨no_of_stb (encKs_stb l), rfl, rfl, rfl, rfl, trivial⟩ ⟨cells_no _ (by simp [stbs, AVal.stb, encIs_stb, encSs_stb]), arr_no (encKs_stb _), trivial⟩ rfl (encPs_stb _))) ?_
      have htw := takeWhile_take (p := sameSku r.sku) hg (fun x hx => by rw [hdr] at hx; exact decide_eq_false fun h => hex ⟨x, hx, h⟩)
      by_cases hjl : i + m < l.length
      case' pos =>
        obtain ⟨q, hq⟩ : ∃ q, l[i + m]? = some q := ⟨l[i + m], by simp [hjl]⟩
        have g2 := encKs_get hq
        have hsk : ¬ q.sku = r.sku := fun h => hex ⟨q, hq, h⟩
        (focus (have hF := (And.intro (And.intro @e1 @e3) (And.intro @g1 (And.intro @g2 @hsk))); (repeat' (first | refine go1 (k:=?_) | with_reducible refine Ny.of ?_ ?_ | (refine Hyp.of ?_; intro hc; (try simp only [hc]); (try simp only [Bh] at hc)))); all_goals clear hF))
      case' neg =>
        (focus (have hF := (And.intro @e1 (And.intro @e3 @g1)); (repeat' (first | refine go1 (k:=?_) | with_reducible refine Ny.of ?_ ?_ | (refine Hyp.of ?_; intro hc; (try simp only [hc]); (try simp only [Bh] at hc)))); all_goals clear hF))
      all_goals
        have hm1 : 1 ≤ m := by
          rcases Nat.eq_zero_or_pos m with h0 | h0
          · exfalso
            have := htw.1
            rw [h0, hrd] at this
            simp [List.takeWhile, sameSku] at this
          · exact h0
        have hjg : joinG (r :: l.drop (i + 1)) = joinP (((l.drop i).take m).map (·.past)) := by
          unfold joinG headG
          rw [← hrd]
          have h2 := htw.1
          rw [hrd] at h2 ⊢
          simp only
          rw [h2]
        obtain ⟨n', rfl⟩ : ∃ n', n = n' + 1 := ⟨n - 1, by omega⟩
        rw [hrd] at hf
        unfold foldF at hf
        rw [hjg, ← hrd, htw.2, List.drop_drop] at hf
        have hjw := joinP_wt (((l.drop i).take m).map (·.past))
        generalize ((l.drop i).take m).map (·.past) = ps at *
        have c2 := ev_k42 ps (by omega) (by omega)
        refine stCall [.sl 2 (encPs ps)] (he := c2) (k:=?_)
        generalize joinP ps = p at *
        unfold encP
        have es := str_nil r.sku
        by_cases hz : r.sku.size = 0
        · have hng : newG all r.sku p = p := if_pos hz
          have hal : allG all r.sku p = p := if_pos hz
          rw [hng, hal] at hf
          rw [eq_true hz] at es
          have c3 := ev_k55 p (by omega)
          (focus (have hF := (And.intro @e2 @es); (repeat' (first | refine go1 (k:=?_) | with_reducible refine Ny.of ?_ ?_ | (refine Hyp.of ?_; intro hc; (try simp only [hc]); (try simp only [Bh] at hc)))); all_goals clear hF))
          refine stCall [encP p] (he := c3) (k:=?_)
          by_cases hs : sizeP p = 0
          · have hog : outG r.sku p = [] := if_pos hs
            rw [hog, List.nil_append] at hf
            rw [decide_eq_true hs]
            (focus (have hF := @e2; (repeat' (first | refine go1 (k:=?_) | with_reducible refine Ny.of ?_ ?_ | (refine Hyp.of ?_; intro hc; (try simp only [hc]); (try simp only [Bh] at hc)))); all_goals clear hF))
            (refine Fin.nextW (⟨i + m, p, out⟩) ?_ (have hW := @encKs_stb; stWk); (try dsimp only))
            exact ⟨⟨hm, by omega, by omega, ⟨n', by omega, hf⟩, hwo⟩, by omega⟩
          · have hog : outG r.sku p = [⟨r.sku, p⟩] := if_neg hs
            rw [hog, ← List.append_assoc] at hf
            rw [decide_eq_false hs]
            (focus (have hF := @e2; (repeat' (first | refine go1 (k:=?_) | with_reducible refine Ny.of ?_ ?_ | (refine Hyp.of ?_; intro hc; (try simp only [hc]); (try simp only [Bh] at hc)))); all_goals clear hF))
            (refine Fin.nextW (⟨i + m, p, out ++ [⟨r.sku, p⟩]⟩) ?_ (have hW := (And.intro @encKs_stb @encKs_snoc); stWk); (try dsimp only))
            refine ⟨⟨hm, by simp; omega, by omega, ⟨n', by omega, hf⟩, fun x hx => ?_⟩, by omega⟩
            rcases List.mem_append.1 hx with hx | hx
            · exact hwo x hx
            · simp at hx; subst hx; dsimp only; omega
        · have hng : newG all r.sku p = minusP p all := if_neg hz
          have hal : allG all r.sku p = all := if_neg hz
          rw [hng, hal] at hf
          rw [eq_false hz] at es
          have c3 := ev_k73 p all (by omega) (by omega)
          have hmw := minusP_wt p all
          (focus (have hF := (And.intro @e2 @es); (repeat' (first | refine go1 (k:=?_) | with_reducible refine Ny.of ?_ ?_ | (refine Hyp.of ?_; intro hc; (try simp only [hc]); (try simp only [Bh] at hc)))); all_goals clear hF))
          refine stCall [encP p, encP all] (he := c3) (k:=?_)
          generalize minusP p all = p2 at *
          have c4 := ev_k55 p2 (by omega)
          unfold encP
          (focus (have hF := @e2; (repeat' (first | refine go1 (k:=?_) | with_reducible refine Ny.of ?_ ?_ | (refine Hyp.of ?_; intro hc; (try simp only [hc]); (try simp only [Bh] at hc)))); all_goals clear hF))
          refine stCall [encP p2] (he := c4) (k:=?_)
          by_cases hs : sizeP p2 = 0
          · have hog : outG r.sku p2 = [] := if_pos hs
            rw [hog, List.nil_append] at hf
            rw [decide_eq_true hs]
            (focus (have hF := @e2; (repeat' (first | refine go1 (k:=?_) | with_reducible refine Ny.of ?_ ?_ | (refine Hyp.of ?_; intro hc; (try simp only [hc]); (try simp only [Bh] at hc)))); all_goals clear hF))
            (refine Fin.nextW (⟨i + m, all, out⟩) ?_ (have hW := @encKs_stb; stWk); (try dsimp only))
            exact ⟨⟨hm, by omega, by omega, ⟨n', by omega, hf⟩, hwo⟩, by omega⟩
          · have hog : outG r.sku p2 = [⟨r.sku, p2⟩] := if_neg hs
            rw [hog, ← List.append_assoc] at hf
            rw [decide_eq_false hs]
            (focus (have hF := @e2; (repeat' (first | refine go1 (k:=?_) | with_reducible refine Ny.of ?_ ?_ | (refine Hyp.of ?_; intro hc; (try simp only [hc]); (try simp only [Bh] at hc)))); all_goals clear hF))
            (refine Fin.nextW (⟨i + m, all, out ++ [⟨r.sku, p2⟩]⟩) ?_ (have hW := (And.intro @encKs_stb @encKs_snoc); stWk); (try dsimp only))
            refine ⟨⟨hm, by simp; omega, by omega, ⟨n', by omega, hf⟩, fun x hx => ?_⟩, by omega⟩
            rcases List.mem_append.1 hx with hx | hx
            · exact hwo x hx
            · simp at hx; subst hx; dsimp only; omega
    · have hfo : out = R := by
        rw [List.drop_eq_nil_of_le (by omega)] at hf
        rw [← hf]
        cases n <;> simp [foldF]
      rw [hfk, ← hfo]
      cases out with
      | nil =>
        (focus (have hF := (And.intro @e1 @e2); (repeat' (first | refine go1 (k:=?_) | with_reducible refine Ny.of ?_ ?_ | (refine Hyp.of ?_; intro hc; (try simp only [hc]); (try simp only [Bh] at hc)))); all_goals clear hF))
        exact Fin.two (x := .sl 3 (encKs [])) rfl rfl rfl rfl (.inl rfl) (.inl rfl)
      | cons x out =>
        have es := str_nil x.sku
        have g1 : (encKs (x :: out))[0]? = some (.agg [.str x.sku, .sl 1 (encIs x.past.vec), .sl 3 (encSs x.past.cloud)]) := rfl
        by_cases hz : x.sku.size = 0
        · rw [show headN (x :: out) = ⟨x.sku, normP x.past⟩ :: out from if_pos hz]
          rw [eq_true hz] at es
          have c4 := ev_k56 x (by have := hwo x (by simp); omega)
          (focus (have hF := (And.intro @e2 (And.intro @es @g1)); (repeat' (first | refine go1 (k:=?_) | with_reducible refine Ny.of ?_ ?_ | (refine Hyp.of ?_; intro hc; (try simp only [hc]); (try simp only [Bh] at hc)))); all_goals clear hF))
          refine stCall [encK x] (he := c4) (k:=?_)
          (focus (have hF := (And.intro @e2 (And.intro @es @g1)); (repeat' (first | refine go1 (k:=?_) | with_reducible refine Ny.of ?_ ?_ | (refine Hyp.of ?_; intro hc; (try simp only [hc]); (try simp only [Bh] at hc)))); all_goals clear hF))
          exact Fin.two (x := .sl 3 (encKs (⟨x.sku, normP x.past⟩ :: out))) (by simp [fz, fzc, allK, upd, tms, mms, encKs, encK]) (encKs_stb _) rfl rfl (.inl rfl) (.inl rfl)
        · rw [show headN (x :: out) = x :: out from if_neg hz]
          rw [eq_false hz] at es
          (focus (have hF := (And.intro @e2 (And.intro @es @g1)); (repeat' (first | refine go1 (k:=?_) | with_reducible refine Ny.of ?_ ?_ | (refine Hyp.of ?_; intro hc; (try simp only [hc]); (try simp only [Bh] at hc)))); all_goals clear hF))
          exact Fin.two (x := .sl 3 (encKs (x :: out))) (by simp [fz, fzc, allK, upd, tms, mms, encKs, encK]) (encKs_stb _) rfl rfl (.inl rfl) (.inl rfl)
theorem ev_k28 (l : List Rec) (hw : wtKs l ≤ 5000000) : Ev (En Tryz.prog rfl).P 28 [.sl 3 (encKs l)] (.ret (.tup [.sl 3 (encKs (if formK l = true then foldK l else [])), .int .i64 (if formK l = true then 0 else 1)])) := by
  have hlw := wtKs_len l
  refine ev_keepFoldW l (wtKs l) hw (by omega) (fun r hr => by have := wtK_le hr; unfold wtK at this; omega) (fun i m s _ => ?_)
  exact Nat.le_trans (wts_le (List.take_sublist m (l.drop i))) (sum_sub ((List.drop_sublist i l).map wtK))

theorem inP_lt {p : Pst} {r : Nat} {n : Int} (h : inP p r n) : r < 16 := h.1
theorem has_norm (p : Pst) (d : Rn) : hasP (normP p) d = hasP p d := bool_eq (by
  rw [hasP_iff, hasP_iff]
  exact ⟨fun h => ⟨h.1, (normP_in p (inP_lt h.2) _).1 h.2⟩, fun h => ⟨h.1, (normP_in p (inP_lt h.2) _).2 h.2⟩⟩)
theorem hasP_false {p : Pst} {d : Rn} : (!hasP p d) = true ↔ ¬ (0 ≤ d.1 ∧ inP p d.1.toNat d.2) := by
  rw [← hasP_iff]
  cases hasP p d <;> simp
theorem has_minus (p q : Pst) (d : Rn) : hasP (minusP p q) d = (hasP p d && !hasP q d) := bool_eq (by
  rw [Bool.and_eq_true, hasP_iff, hasP_iff, hasP_false]
  constructor
  · intro h
    have := (minusP_in p q (inP_lt h.2) _).1 h.2
    exact ⟨⟨h.1, this.1⟩, fun h' => this.2 h'.2⟩
  · rintro ⟨h, h'⟩
    exact ⟨h.1, (minusP_in p q (inP_lt h.2) _).2 ⟨h.2, fun x => h' ⟨h.1, x⟩⟩⟩)
theorem has_size {p : Pst} {d : Rn} (h : hasP p d = true) : 1 ≤ sizeP p := by
  have h' := (hasP_iff p d).1 h
  rw [sizeP_card]
  have := cardT_pos h'.2.2.1 h'.2.2.2.1 h'.2 (inP_lt h'.2)
  omega

def SrtK (l : List Rec) : Prop := ∀ (i : Nat) a b, l[i]? = some a → l[i + 1]? = some b → cmpR a b < 0
theorem SrtK.tail {t l : List Rec} (h : SrtK (t ++ l)) : SrtK l := fun i a b ha hb =>
  h (t.length + i) a b (by rw [List.getElem?_append_right (by omega)]; simpa using ha) (by rw [List.getElem?_append_right (by omega)]; rw [show t.length + i + 1 - t.length = i + 1 by omega]; exact hb)
theorem bs_len (s : ByteArray) : (bs s).length = s.size := by simp [bs]
theorem sku_step {a b : Rec} (h : cmpR a b < 0) (ha : a.sku.size ≠ 0) : b.sku.size ≠ 0 := by
  intro hb
  have h1 : bs b.sku = [] := by
    have := bs_len b.sku
    rw [hb] at this
    exact List.length_eq_zero_iff.1 this
  have h2 : cmpB a.sku b.sku = 1 := by
    unfold cmpB
    rw [h1]
    cases h3 : bs a.sku with
    | nil =>
      have := bs_len a.sku
      rw [h3] at this
      exact absurd this.symm ha
    | cons x l => rfl
  unfold cmpR at h
  rw [h2] at h
  simp at h
theorem sku_all : ∀ {l : List Rec} {r : Rec}, SrtK (r :: l) → r.sku.size ≠ 0 → ∀ x ∈ r :: l, x.sku.size ≠ 0
  | [], r, _, h, x, hx => by simp at hx; subst hx; exact h
  | q :: l, r, hs, h, x, hx => by
    rcases List.mem_cons.1 hx with rfl | hx
    · exact h
    · exact sku_all (SrtK.tail (t := [r]) hs) (sku_step (hs 0 r q rfl rfl) h) x hx
theorem has_joins (ps : List Pst) (d : Rn) : hasP (joinP ps) d = true ↔ ∃ p ∈ ps, hasP p d = true := by
  rw [hasP_iff]
  constructor
  · rintro ⟨h0, h⟩
    obtain ⟨p, hp, hi⟩ := (joinP_in ps h.1 _).1 h
    exact ⟨p, hp, (hasP_iff p d).2 ⟨h0, hi⟩⟩
  · rintro ⟨p, hp, h⟩
    obtain ⟨h0, hi⟩ := (hasP_iff p d).1 h
    exact ⟨h0, (joinP_in ps hi.1 _).2 ⟨p, hp, hi⟩⟩
theorem has_nil (d : Rn) : hasP ⟨[], []⟩ d = false := by
  unfold hasP
  simp
  intro h h1
  simp [isDotR] at h
  omega
def CovL (l : List Rec) (e : Ent) : Prop := ∃ r ∈ l, covK r e = true
theorem barsK_zero (l : List Rec) (e : Ent) : barsK l e = 0 ↔ ¬ CovL l e := by
  unfold barsK CovL
  rw [List.length_eq_zero_iff, List.filter_eq_nil_iff]
  constructor
  · rintro h ⟨r, hr, hc⟩; exact h r hr hc
  · intro h r hr hc; exact h ⟨r, hr, hc⟩
theorem CovL_app (l m : List Rec) (e : Ent) : CovL (l ++ m) e ↔ CovL l e ∨ CovL m e := by
  unfold CovL
  constructor
  · rintro ⟨r, hr, hc⟩
    rcases List.mem_append.1 hr with hr | hr
    · exact .inl ⟨r, hr, hc⟩
    · exact .inr ⟨r, hr, hc⟩
  · rintro (⟨r, hr, hc⟩ | ⟨r, hr, hc⟩)
    · exact ⟨r, by simp [hr], hc⟩
    · exact ⟨r, by simp [hr], hc⟩
theorem covK_iff (r : Rec) (e : Ent) : covK r e = true ↔ (r.sku.size = 0 ∨ r.sku = e.sku) ∧ hasP r.past e.dot = true := by
  unfold covK
  simp [Bool.and_eq_true, Bool.or_eq_true]
theorem CovL_out (s : ByteArray) (p : Pst) (e : Ent) : CovL (outG s p) e ↔ (s.size = 0 ∨ s = e.sku) ∧ hasP p e.dot = true := by
  unfold outG
  split
  · rename_i h
    constructor
    · rintro ⟨r, hr, _⟩; cases hr
    · rintro ⟨_, h2⟩
      have := has_size h2
      omega
  · constructor
    · rintro ⟨r, hr, hc⟩
      simp at hr
      subst hr
      exact (covK_iff _ e).1 hc
    · intro h
      exact ⟨⟨s, p⟩, by simp, (covK_iff _ e).2 h⟩
theorem CovL_head {r : Rec} {l : List Rec} (e : Ent) : CovL ((r :: l).takeWhile (sameSku r.sku)) e ↔ (r.sku.size = 0 ∨ r.sku = e.sku) ∧ hasP (joinG (r :: l)) e.dot = true := by
  have hall : ∀ x ∈ (r :: l).takeWhile (sameSku r.sku), x.sku = r.sku := fun x hx => of_decide_eq_true (List.all_eq_true.1 (List.all_takeWhile (p := sameSku r.sku)) x hx)
  unfold joinG headG
  rw [has_joins]
  simp only [List.mem_map]
  constructor
  · rintro ⟨x, hx, hc⟩
    have h := (covK_iff x e).1 hc
    rw [hall x hx] at h
    exact ⟨h.1, x.past, ⟨x, hx, rfl⟩, h.2⟩
  · rintro ⟨h1, _, ⟨x, hx, rfl⟩, h2⟩
    exact ⟨x, hx, (covK_iff x e).2 ⟨by rw [hall x hx]; exact h1, h2⟩⟩
theorem CovL_split (r : Rec) (l : List Rec) (e : Ent) : CovL (r :: l) e ↔ CovL ((r :: l).takeWhile (sameSku r.sku)) e ∨ CovL ((r :: l).dropWhile (sameSku r.sku)) e := by
  rw [← CovL_app, List.takeWhile_append_dropWhile]
theorem drop_len (r : Rec) (l : List Rec) : ((r :: l).dropWhile (sameSku r.sku)).length ≤ l.length := by
  rw [List.dropWhile_cons_of_pos (by simp [sameSku])]
  exact (List.dropWhile_suffix _).length_le
theorem foldF_cov : ∀ (n : Nat) (L : List Rec) (all : Pst) (e : Ent), L.length ≤ n → (∀ x ∈ L, x.sku.size ≠ 0) → ((CovL (foldF n L all) e ∨ hasP all e.dot = true) ↔ (CovL L e ∨ hasP all e.dot = true))
  | 0, L, all, e, h, _ => by
    have : L = [] := List.length_eq_zero_iff.1 (by omega)
    subst this
    exact Iff.rfl
  | n + 1, [], all, e, _, _ => Iff.rfl
  | n + 1, r :: l, all, e, h, hne => by
    have hz := hne r (by simp)
    have hdl := drop_len r l
    have ih := foldF_cov n ((r :: l).dropWhile (sameSku r.sku)) all e (by simp at h; omega) (fun x hx => hne x ((List.dropWhile_sublist _).subset hx))
    show (CovL (outG r.sku (newG all r.sku (joinG (r :: l))) ++ foldF n ((r :: l).dropWhile (sameSku r.sku)) (allG all r.sku (joinG (r :: l)))) e ∨ _) ↔ _
    rw [show newG all r.sku (joinG (r :: l)) = minusP (joinG (r :: l)) all from if_neg hz, show allG all r.sku (joinG (r :: l)) = all from if_neg hz]
    rw [CovL_app, CovL_out, CovL_split, CovL_head, has_minus]
    by_cases ha : hasP all e.dot = true
    · simp [ha]
    · have ha' : hasP all e.dot = false := by simpa using ha
      rw [ha'] at ih
      simp only [Bool.false_eq_true, or_false] at ih
      rw [ha', ih]
      simp
theorem foldK_cov {l : List Rec} (hs : SrtK l) (e : Ent) : CovL (foldK l) e ↔ CovL l e := by
  have hh : ∀ m : List Rec, CovL (headN m) e ↔ CovL m e := by
    intro m
    cases m with
    | nil => exact Iff.rfl
    | cons r m =>
      show CovL (if r.sku.size = 0 then ⟨r.sku, normP r.past⟩ :: m else r :: m) e ↔ _
      split
      · have hc : covK ⟨r.sku, normP r.past⟩ e = covK r e := by unfold covK; simp only [has_norm]
        unfold CovL
        simp [hc]
      · exact Iff.rfl
  unfold foldK
  rw [hh]
  cases l with
  | nil => exact Iff.rfl
  | cons r l =>
    by_cases hz : r.sku.size = 0
    · have hdl := drop_len r l
      have hd : ∀ x ∈ (r :: l).dropWhile (sameSku r.sku), x.sku.size ≠ 0 := by
        have h1 := SrtK.tail (t := (r :: l).takeWhile (sameSku r.sku)) (l := (r :: l).dropWhile (sameSku r.sku)) (by rw [List.takeWhile_append_dropWhile]; exact hs)
        have h2 := List.head?_dropWhile_not (sameSku r.sku) (r :: l)
        generalize (r :: l).dropWhile (sameSku r.sku) = D at h1 h2 ⊢
        cases D with
        | nil => intro x hx; cases hx
        | cons q D =>
          refine sku_all h1 ?_
          intro hq
          simp [sameSku] at h2
          exact h2 (by rw [size_zero.2 hq, size_zero.2 hz])
      have ih := foldF_cov l.length ((r :: l).dropWhile (sameSku r.sku)) (joinG (r :: l)) e hdl hd
      show CovL (outG r.sku (newG ⟨[], []⟩ r.sku (joinG (r :: l))) ++ foldF l.length ((r :: l).dropWhile (sameSku r.sku)) (allG ⟨[], []⟩ r.sku (joinG (r :: l)))) e ↔ _
      rw [show newG ⟨[], []⟩ r.sku (joinG (r :: l)) = joinG (r :: l) from if_pos hz, show allG ⟨[], []⟩ r.sku (joinG (r :: l)) = joinG (r :: l) from if_pos hz]
      rw [CovL_app, CovL_out, CovL_split, CovL_head]
      simp only [hz, true_or, true_and]
      rw [or_comm, ih, or_comm]
    · have h := foldF_cov (r :: l).length (r :: l) ⟨[], []⟩ e (Nat.le_refl _) (sku_all hs hz)
      rw [has_nil] at h
      simpa using h
theorem foldF_wt : ∀ (n : Nat) (L : List Rec) (all : Pst) (W : Nat), wtKs L ≤ W → wt all ≤ 16 + W → (foldF n L all).length ≤ L.length ∧ ∀ r ∈ foldF n L all, wt r.past ≤ 64 + 2 * W
  | 0, L, all, W, _, _ => ⟨Nat.zero_le _, fun r hr => absurd hr (by simp [foldF])⟩
  | n + 1, [], all, W, _, _ => ⟨Nat.le_refl _, fun r hr => absurd hr (by simp [foldF])⟩
  | n + 1, r :: l, all, W, h, ha => by
    have hdl := drop_len r l
    have hj : wt (joinG (r :: l)) ≤ 16 + W := by
      have h1 := joinP_wt ((headG (r :: l)).map (·.past))
      have h2 := wts_le (l := headG (r :: l)) (m := r :: l) (List.takeWhile_sublist _)
      unfold joinG
      omega
    have hmw := minusP_wt (joinG (r :: l)) all
    have hD : wtKs ((r :: l).dropWhile (sameSku r.sku)) ≤ W := Nat.le_trans (sum_sub ((List.dropWhile_sublist _).map wtK)) h
    have ih := foldF_wt n ((r :: l).dropWhile (sameSku r.sku)) (allG all r.sku (joinG (r :: l))) W hD (by unfold allG; split <;> omega)
    have ho : ∀ p, (outG r.sku p).length ≤ 1 := fun p => by unfold outG; split <;> simp
    refine ⟨?_, fun x hx => ?_⟩
    · show (outG r.sku _ ++ foldF n _ _).length ≤ _
      rw [List.length_append]
      have := ho (newG all r.sku (joinG (r :: l)))
      simp only [List.length_cons]
      omega
    · rcases List.mem_append.1 (show x ∈ outG r.sku _ ++ foldF n _ _ from hx) with hx | hx
      · unfold outG at hx
        split at hx
        · cases hx
        · simp at hx
          subst hx
          show wt (newG all r.sku (joinG (r :: l))) ≤ _
          unfold newG
          split <;> omega
      · exact ih.2 x hx
theorem foldK_wt (l : List Rec) : (foldK l).length ≤ l.length ∧ ∀ r ∈ foldK l, wt r.past ≤ 96 + 2 * wtKs l := by
  have h := foldF_wt l.length l ⟨[], []⟩ (wtKs l) (Nat.le_refl _) (Nat.zero_le _)
  unfold foldK
  generalize foldF l.length l ⟨[], []⟩ = m at h ⊢
  cases m with
  | nil => exact ⟨h.1, fun x hx => absurd hx (by simp [headN])⟩
  | cons r m =>
    have h1 : ∀ x ∈ r :: m, wt x.past ≤ 96 + 2 * wtKs l := fun x hx => by have := h.2 x hx; omega
    by_cases hz : r.sku.size = 0
    · rw [show headN (r :: m) = ⟨r.sku, normP r.past⟩ :: m from if_pos hz]
      refine ⟨h.1, fun x hx => ?_⟩
      rcases List.mem_cons.1 hx with rfl | hx
      · have h2 := normP_wt r.past
        have h3 := h.2 r (by simp)
        show wt (normP r.past) ≤ _
        omega
      · exact h1 x (by simp [hx])
    · rw [show headN (r :: m) = r :: m from if_neg hz]
      exact ⟨h.1, h1⟩

def r_k21_1 : List SOp := [⟨some 4,.assign (.const (.slice none 0 0)),none⟩,⟨some 5,.assign (.const (.int .i64 0)),none⟩]
instance : Live r_k21_1 := ⟨[0,1]⟩
def r_k21_2 : List SOp := [⟨some 11,.move (.tmp 0),none⟩,⟨some 12,.call ⟨.value (.func 70),#[.tmp 11],#[23]⟩,none⟩,⟨some 13,.binOp .neq 32 (.tmp 12) (.const (.int .i64 0)) 32,none⟩,⟨some 14,.move (.tmp 13),none⟩,⟨some 15,.move (.tmp 1),some ((some 14),false)⟩,⟨some 16,.call ⟨.value (.func 14),#[.tmp 15],#[22]⟩,some ((some 14),false)⟩,⟨some 17,.binOp .neq 32 (.tmp 16) (.const (.int .i64 0)) 32,some ((some 14),false)⟩,⟨some 18,.pick (.tmp 14) (.const (.bool true)) (.tmp 17),none⟩]
instance : Live r_k21_2 := ⟨[0,1]⟩
def r_k21_3 : List SOp := [⟨some 4,.assign (.const (.slice none 0 0)),none⟩,⟨some 5,.assign (.const (.int .i64 1)),none⟩]
instance : Live r_k21_3 := ⟨[]⟩
def r_k21_4 : List SOp := [⟨some 20,.move (.tmp 1),none⟩,⟨some 21,.call ⟨.value (.func 28),#[.tmp 20],#[22]⟩,none⟩,⟨some 19,.move (.tmp 21),none⟩,⟨some 22,.extract (.tmp 19) 0,none⟩,⟨some 23,.extract (.tmp 19) 1,none⟩,⟨some 6,.assign (.tmp 22),none⟩,⟨some 7,.assign (.tmp 23),none⟩]
instance : Live r_k21_4 := ⟨[0,1]⟩
def r_k21_5 : List SOp := [⟨some 8,.assign (.const (.slice none 0 0)),none⟩]
instance : Live r_k21_5 := ⟨[0,6]⟩
def r_k21_6 : List SOp := [⟨some 24,.move (.tmp 0),none⟩,⟨some 25,.call ⟨.builtin .len,#[.tmp 24],#[23]⟩,none⟩,⟨some 26,.move (.const (.int .i64 0)),none⟩]
instance : Live r_k21_6 := ⟨[0,6,8]⟩
def r_k21_7 : List SOp := [⟨some 27,.binOp .lss 3 (.tmp 26) (.tmp 25) 3,none⟩]
instance : Live r_k21_7 := ⟨[6,8,24,25,26]⟩
def r_k21_8 : List SOp := [⟨some 28,.indexAddr 23 (.tmp 24) (.tmp 26),none⟩,⟨some 29,.load 49 (.tmp 28),none⟩,⟨some 10,.alloc 49,none⟩,⟨none,.store 49 (.tmp 10) (.tmp 29),none⟩]
instance : Live r_k21_8 := ⟨[6,8,24,25,26]⟩
def r_k21_9 : List SOp := [⟨some 30,.move (.tmp 6),none⟩,⟨some 31,.load 49 (.tmp 10),none⟩,⟨some 32,.call ⟨.value (.func 24),#[.tmp 30,.tmp 31],#[22,49]⟩,none⟩,⟨some 33,.binOp .eql 3 (.tmp 32) (.const (.int .i64 0)) 3,none⟩]
instance : Live r_k21_9 := ⟨[6,8,10,24,25,26]⟩
def r_k21_10 : List SOp := [⟨some 34,.move (.tmp 8),none⟩,⟨some 35,.load 49 (.tmp 10),none⟩,⟨some 36,.buildSlice 23 1 #[(0,.tmp 35)],none⟩,⟨some 37,.call ⟨.builtin .append,#[.tmp 34,.tmp 36],#[23,23]⟩,none⟩,⟨some 8,.assign (.tmp 37),none⟩]
instance : Live r_k21_10 := ⟨[6,8,10,24,25,26]⟩
def r_k21_11 : List SOp := [⟨some 38,.binOp .add 3 (.tmp 26) (.const (.int .i64 1)) 3,none⟩,⟨some 26,.move (.tmp 38),none⟩]
instance : Live r_k21_11 := ⟨[6,8,24,25,26]⟩
def r_k21_12 : List SOp := [⟨some 39,.move (.tmp 8),none⟩,⟨some 4,.assign (.tmp 39),none⟩,⟨some 5,.assign (.const (.int .i64 0)),none⟩]
instance : Live r_k21_12 := ⟨[8]⟩
def t_k21_l1 : SC :=
  (.seq (.ops false r_k21_7) (.seq (.cond (.tmp 27) .skip (.exit 0)) (.seq (.block 1 (.seq (.ops false r_k21_8) (.seq (.ops false r_k21_9) (.cond (.tmp 33) (.ops false r_k21_10) .skip)))) (.ops false r_k21_11))))
def t_k21 : SC :=
  (.seq (.ops false r_k21_1) (.seq (.seq (.ops false r_k21_2) (.cond (.tmp 18) (.seq (.ops false r_k21_3) .ret) .skip)) (.seq (.ops false r_k21_4) (.seq (.ops false r_k21_5) (.seq (.seq (.ops false r_k21_6) (.block 0 (.loop t_k21_l1))) (.seq (.ops false r_k21_12) .ret))))))
theorem it_k21 : FnIs Tryz.prog 21 40 [.tmp 4, .tmp 5] t_k21 := ⟨Tryz.f21, _, Tryz.func21, rfl, rfl, rfl, rfl, by kernel_rfl⟩


def r_k23_1 : List SOp := [⟨some 4,.assign (.const (.bool false)),none⟩]
instance : Live r_k23_1 := ⟨[0,1]⟩
def r_k23_2 : List SOp := [⟨some 6,.move (.tmp 0),none⟩,⟨some 7,.call ⟨.builtin .len,#[.tmp 6],#[23]⟩,none⟩,⟨some 8,.move (.tmp 1),none⟩,⟨some 9,.call ⟨.builtin .len,#[.tmp 8],#[23]⟩,none⟩,⟨some 10,.binOp .neq 3 (.tmp 7) (.tmp 9) 3,none⟩]
instance : Live r_k23_2 := ⟨[0,1]⟩
def r_k23_3 : List SOp := [⟨some 4,.assign (.const (.bool false)),none⟩]
instance : Live r_k23_3 := ⟨[]⟩
def r_k23_4 : List SOp := [⟨some 5,.assign (.const (.int .i64 0)),none⟩]
instance : Live r_k23_4 := ⟨[0,1]⟩
def r_k23_5 : List SOp := [⟨some 11,.move (.tmp 5),none⟩,⟨some 12,.move (.tmp 0),none⟩,⟨some 13,.call ⟨.builtin .len,#[.tmp 12],#[23]⟩,none⟩,⟨some 14,.binOp .lss 3 (.tmp 11) (.tmp 13) 3,none⟩]
instance : Live r_k23_5 := ⟨[0,1,5]⟩
def r_k23_6 : List SOp := [⟨some 17,.move (.tmp 0),none⟩,⟨some 18,.move (.tmp 5),none⟩,⟨some 19,.indexAddr 23 (.tmp 17) (.tmp 18),none⟩,⟨some 20,.load 49 (.tmp 19),none⟩,⟨some 21,.move (.tmp 1),none⟩,⟨some 22,.move (.tmp 5),none⟩,⟨some 23,.indexAddr 23 (.tmp 21) (.tmp 22),none⟩,⟨some 24,.load 49 (.tmp 23),none⟩,⟨some 25,.binOp .neq 49 (.tmp 20) (.tmp 24) 49,none⟩]
instance : Live r_k23_6 := ⟨[0,1,5]⟩
def r_k23_7 : List SOp := [⟨some 4,.assign (.const (.bool false)),none⟩]
instance : Live r_k23_7 := ⟨[]⟩
def r_k23_8 : List SOp := [⟨some 15,.move (.tmp 5),none⟩,⟨some 16,.binOp .add 3 (.tmp 15) (.const (.int .i64 1)) 3,none⟩,⟨some 5,.assign (.tmp 16),none⟩]
instance : Live r_k23_8 := ⟨[0,1,5]⟩
def r_k23_9 : List SOp := [⟨some 4,.assign (.const (.bool true)),none⟩]
instance : Live r_k23_9 := ⟨[]⟩
def t_k23_l1 : SC :=
  (.seq (.seq (.ops false r_k23_5) (.cond (.tmp 14) .skip (.exit 0))) (.seq (.block 1 (.seq (.ops true r_k23_6) (.cond (.tmp 25) (.seq (.ops false r_k23_7) .ret) .skip))) (.ops false r_k23_8)))
def t_k23 : SC :=
  (.seq (.ops false r_k23_1) (.seq (.seq (.ops false r_k23_2) (.cond (.tmp 10) (.seq (.ops false r_k23_3) .ret) .skip)) (.seq (.seq (.ops false r_k23_4) (.block 0 (.loop t_k23_l1))) (.seq (.ops false r_k23_9) .ret))))
theorem it_k23 : FnIs Tryz.prog 23 26 [.tmp 4] t_k23 := ⟨Tryz.f23, _, Tryz.func23, rfl, rfl, rfl, rfl, by kernel_rfl⟩

def r_k16_1 : List SOp := [⟨some 4,.assign (.const (.bool false)),none⟩]
instance : Live r_k16_1 := ⟨[0,1]⟩
def r_k16_2 : List SOp := [⟨some 6,.move (.tmp 0),none⟩,⟨some 7,.call ⟨.builtin .len,#[.tmp 6],#[22]⟩,none⟩,⟨some 8,.move (.tmp 1),none⟩,⟨some 9,.call ⟨.builtin .len,#[.tmp 8],#[22]⟩,none⟩,⟨some 10,.binOp .neq 3 (.tmp 7) (.tmp 9) 3,none⟩]
instance : Live r_k16_2 := ⟨[0,1]⟩
def r_k16_3 : List SOp := [⟨some 4,.assign (.const (.bool false)),none⟩]
instance : Live r_k16_3 := ⟨[]⟩
def r_k16_4 : List SOp := [⟨some 5,.assign (.const (.int .i64 0)),none⟩]
instance : Live r_k16_4 := ⟨[0,1]⟩
def r_k16_5 : List SOp := [⟨some 11,.move (.tmp 5),none⟩,⟨some 12,.move (.tmp 0),none⟩,⟨some 13,.call ⟨.builtin .len,#[.tmp 12],#[22]⟩,none⟩,⟨some 14,.binOp .lss 3 (.tmp 11) (.tmp 13) 3,none⟩]
instance : Live r_k16_5 := ⟨[0,1,5]⟩
def r_k16_6 : List SOp := [⟨some 17,.move (.tmp 0),none⟩,⟨some 18,.move (.tmp 5),none⟩,⟨some 19,.indexAddr 22 (.tmp 17) (.tmp 18),none⟩,⟨some 20,.fieldAddr 39 (.tmp 19) 0,none⟩,⟨some 21,.load 9 (.tmp 20),none⟩,⟨some 22,.move (.tmp 1),none⟩,⟨some 23,.move (.tmp 5),none⟩,⟨some 24,.indexAddr 22 (.tmp 22) (.tmp 23),none⟩,⟨some 25,.fieldAddr 39 (.tmp 24) 0,none⟩,⟨some 26,.load 9 (.tmp 25),none⟩,⟨some 27,.binOp .neq 9 (.tmp 21) (.tmp 26) 9,none⟩,⟨some 28,.move (.tmp 27),none⟩,⟨some 29,.move (.tmp 0),some ((some 28),false)⟩,⟨some 30,.move (.tmp 5),some ((some 28),false)⟩,⟨some 31,.indexAddr 22 (.tmp 29) (.tmp 30),some ((some 28),false)⟩,⟨some 32,.fieldAddr 39 (.tmp 31) 1,some ((some 28),false)⟩,⟨some 33,.load 27 (.tmp 32),some ((some 28),false)⟩,⟨some 34,.move (.tmp 1),some ((some 28),false)⟩,⟨some 35,.move (.tmp 5),some ((some 28),false)⟩,⟨some 36,.indexAddr 22 (.tmp 34) (.tmp 35),some ((some 28),false)⟩,⟨some 37,.fieldAddr 39 (.tmp 36) 1,some ((some 28),false)⟩,⟨some 38,.load 27 (.tmp 37),some ((some 28),false)⟩,⟨some 39,.call ⟨.value (.func 64),#[.tmp 33,.tmp 38],#[27,27]⟩,some ((some 28),false)⟩,⟨some 40,.unOp .not 4 (.tmp 39),some ((some 28),false)⟩,⟨some 41,.pick (.tmp 28) (.const (.bool true)) (.tmp 40),none⟩]
instance : Live r_k16_6 := ⟨[0,1,5]⟩
def r_k16_7 : List SOp := [⟨some 4,.assign (.const (.bool false)),none⟩]
instance : Live r_k16_7 := ⟨[]⟩
def r_k16_8 : List SOp := [⟨some 15,.move (.tmp 5),none⟩,⟨some 16,.binOp .add 3 (.tmp 15) (.const (.int .i64 1)) 3,none⟩,⟨some 5,.assign (.tmp 16),none⟩]
instance : Live r_k16_8 := ⟨[0,1,5]⟩
def r_k16_9 : List SOp := [⟨some 4,.assign (.const (.bool true)),none⟩]
instance : Live r_k16_9 := ⟨[]⟩
def t_k16_l1 : SC :=
  (.seq (.seq (.ops false r_k16_5) (.cond (.tmp 14) .skip (.exit 0))) (.seq (.block 1 (.seq (.ops true r_k16_6) (.cond (.tmp 41) (.seq (.ops false r_k16_7) .ret) .skip))) (.ops false r_k16_8)))
def t_k16 : SC :=
  (.seq (.ops false r_k16_1) (.seq (.seq (.ops false r_k16_2) (.cond (.tmp 10) (.seq (.ops false r_k16_3) .ret) .skip)) (.seq (.seq (.ops false r_k16_4) (.block 0 (.loop t_k16_l1))) (.seq (.ops false r_k16_9) .ret))))
theorem it_k16 : FnIs Tryz.prog 16 42 [.tmp 4] t_k16 := ⟨Tryz.f16, _, Tryz.func16, rfl, rfl, rfl, rfl, by kernel_rfl⟩

def leftE (l : List Rec) (es : List Ent) : List Ent := es.filter fun e => decide (barsK l e = 0)
theorem leftE_take {es : List Ent} {i : Nat} {e : Ent} (h : es[i]? = some e) (l : List Rec) : leftE l (es.take (i + 1)) = leftE l (es.take i) ++ if barsK l e = 0 then [e] else [] := by
  unfold leftE
  rw [List.take_add_one, h, List.filter_append]
  by_cases hc : barsK l e = 0 <;> simp [hc]
theorem leftE_len (l : List Rec) (es : List Ent) : (leftE l es).length ≤ es.length := List.length_filter_le _ _
theorem leftE_fold {l : List Rec} (h : FormK l) (es : List Ent) : leftE (foldK l) es = leftE l es := by
  unfold leftE
  congr 1
  funext e
  refine bool_eq ?_
  rw [decide_eq_true_iff, decide_eq_true_iff, barsK_zero, barsK_zero, foldK_cov h.2]
theorem ev_k21_of (es : List Ent) (l : List Rec) (hl : es.length ≤ 100000000)
    (c2 : Ev (En Tryz.prog rfl).P 14 [.sl 3 (encKs l)] (.ret (.int .i64 (if formK l = true then 0 else 1))))
    (c3 : Ev (En Tryz.prog rfl).P 28 [.sl 3 (encKs l)] (.ret (.tup [.sl 3 (encKs (if formK l = true then foldK l else [])), .int .i64 (if formK l = true then 0 else 1)])))
    (hfl : (foldK l).length ≤ 900000000) (hfw : ∀ r ∈ foldK l, wt r.past ≤ 900000000) : Ev (En Tryz.prog rfl).P 21 [.sl 4 (encEs es), .sl 3 (encKs l)] (.ret (.tup [.sl 4 (encEs (if formE es = true ∧ formK l = true then leftE l es else [])), .int .i64 (if formE es = true ∧ formK l = true then 0 else 1)])) := by
  refine Ev.of_body it_k21 (by simp) (Run.start ?_)
  unfold t_k21
  have e1 := encEs_len es
  have hS := stbK
  have c1 := ev_k70 es (by omega)
  (focus (have hF := @e1; (repeat' (first | refine go1 (k:=?_) | with_reducible refine Ny.of ?_ ?_ | (refine Hyp.of ?_; intro hc; (try simp only [hc]); (try simp only [Bh] at hc)))); all_goals clear hF))
  refine stCall [.sl 4 (encEs es)] (he := c1) (k:=?_)
  by_cases h1 : formE es = true
  · rw [if_pos h1]
    by_cases h2 : formK l = true
    · simp only [h2, if_true, and_true, h1] at c2 c3 ⊢
      have hlf := leftE_fold (formK_iff.1 h2) es
      (focus (have hF := @e1; (repeat' (first | refine go1 (k:=?_) | with_reducible refine Ny.of ?_ ?_ | (refine Hyp.of ?_; intro hc; (try simp only [hc]); (try simp only [Bh] at hc)))); all_goals clear hF))
      refine stCall [.sl 3 (encKs l)] (he := c2) (k:=?_)
      (focus (have hF := @e1; (repeat' (first | refine go1 (k:=?_) | with_reducible refine Ny.of ?_ ?_ | (refine Hyp.of ?_; intro hc; (try simp only [hc]); (try simp only [Bh] at hc)))); all_goals clear hF))
      refine stCall [.sl 3 (encKs l)] (he := c3) (k:=?_)
      rw [← hlf]
      generalize foldK l = F at *
      (focus (have hF := @e1; (repeat' (first | refine go1 (k:=?_) | with_reducible refine Ny.of ?_ ?_ | (refine Hyp.of ?_; intro hc; (try simp only [hc]); (try simp only [Bh] at hc)))); all_goals clear hF))
      refine Run.wk (Wk.own_nil 8 37 4 rfl rfl) ?_
      refine Run.while (σ := Nat) (fun i => ⟨tms [(6, .sl 3 (encKs F)), (8, .os 37 (leftE F (es.take i)).length), (24, .sl 4 (encEs es)), (25, .int .i64 es.length), (26, .int .i64 (i : Int))], mms [(37, .arr (leftE F (es.take i)).length 4 (encEs (leftE F (es.take i))))]⟩)
        (fun i => i ≤ es.length) (fun i => es.length - i) 0 (have hW := (And.intro @encKs_stb @encEs_stb); stWk) (Nat.zero_le _) ?_
      intro i hi
      unfold t_k21_l1
      by_cases hlt : i < es.length
      · obtain ⟨e, he⟩ : ∃ e, es[i]? = some e := ⟨es[i], by simp [hlt]⟩
        have g1 := encEs_get he
        have c4 := ev_k24 F e (by omega) hfw
        have hst := leftE_take he F
        have hle := leftE_len F (es.take i)
        have hle2 : (es.take i).length ≤ es.length := by rw [List.length_take]; omega
        have hbl := barsK_le F e
        generalize leftE F (es.take i) = out at hst hle ⊢
        have e2 := encEs_len out
        (focus (have hF := (And.intro @e1 (And.intro @e2 @g1)); (repeat' (first | refine go1 (k:=?_) | with_reducible refine Ny.of ?_ ?_ | (refine Hyp.of ?_; intro hc; (try simp only [hc]); (try simp only [Bh] at hc)))); all_goals clear hF))
        refine stCall [.sl 3 (encKs F), encE e] (he := c4) (k:=?_)
        by_cases hb : barsK F e = 0
        · rw [if_pos hb] at hst
          rw [hb]
          (focus (have hF := (And.intro @e1 @e2); (repeat' (first | refine go1 (k:=?_) | with_reducible refine Ny.of ?_ ?_ | (refine Hyp.of ?_; intro hc; (try simp only [hc]); (try simp only [Bh] at hc)))); all_goals clear hF))
          (refine Fin.nextW (i + 1) ?_ (have hW := (And.intro (And.intro @encKs_stb @encEs_stb) (And.intro @hst @encEs_snoc)); stWk); (try dsimp only))
          omega
        · rw [if_neg hb, List.append_nil] at hst
          have hb' : ¬ ((barsK F e : Nat) : Int) = 0 := by omega
          (focus (have hF := (And.intro @e1 (And.intro @e2 @hb')); (repeat' (first | refine go1 (k:=?_) | with_reducible refine Ny.of ?_ ?_ | (refine Hyp.of ?_; intro hc; (try simp only [hc]); (try simp only [Bh] at hc)))); all_goals clear hF))
          (refine Fin.nextW (i + 1) ?_ (have hW := (And.intro (And.intro @encKs_stb @encEs_stb) (And.intro @hst @encEs_snoc)); stWk); (try dsimp only))
          omega
      · rw [List.take_of_length_le (show es.length ≤ i by omega)]
        (focus (have hF := @e1; (repeat' (first | refine go1 (k:=?_) | with_reducible refine Ny.of ?_ ?_ | (refine Hyp.of ?_; intro hc; (try simp only [hc]); (try simp only [Bh] at hc)))); all_goals clear hF))
        exact Fin.two (x := .sl 4 (encEs (leftE F es))) (by simp [fz, fzc, allK, upd, tms, mms]) (encEs_stb _) rfl rfl (.inl rfl) (.inl rfl)
    · simp only [h2, Bool.false_eq_true, if_false, and_false] at c2 ⊢
      (focus (have hF := @e1; (repeat' (first | refine go1 (k:=?_) | with_reducible refine Ny.of ?_ ?_ | (refine Hyp.of ?_; intro hc; (try simp only [hc]); (try simp only [Bh] at hc)))); all_goals clear hF))
      refine stCall [.sl 3 (encKs l)] (he := c2) (k:=?_)
      (focus (have hF := @e1; (repeat' (first | refine go1 (k:=?_) | with_reducible refine Ny.of ?_ ?_ | (refine Hyp.of ?_; intro hc; (try simp only [hc]); (try simp only [Bh] at hc)))); all_goals clear hF))
      exact Fin.two (x := .nil) (x' := .int .i64 1) rfl rfl rfl rfl (.inr ⟨rfl, 4, rfl⟩) (.inl rfl)
  · simp only [h1, Bool.false_eq_true, if_false, false_and]
    (focus (have hF := @e1; (repeat' (first | refine go1 (k:=?_) | with_reducible refine Ny.of ?_ ?_ | (refine Hyp.of ?_; intro hc; (try simp only [hc]); (try simp only [Bh] at hc)))); all_goals clear hF))
    exact Fin.two (x := .nil) (x' := .int .i64 1) rfl rfl rfl rfl (.inr ⟨rfl, 4, rfl⟩) (.inl rfl)
theorem ev_k21 (es : List Ent) (l : List Rec) (hl : es.length ≤ 100000000) (hw : wtKs l ≤ 5000000) : Ev (En Tryz.prog rfl).P 21 [.sl 4 (encEs es), .sl 3 (encKs l)] (.ret (.tup [.sl 4 (encEs (if formE es = true ∧ formK l = true then leftE l es else [])), .int .i64 (if formE es = true ∧ formK l = true then 0 else 1)])) := by
  have hlw := wtKs_len l
  have h := foldK_wt l
  exact ev_k21_of es l hl (ev_k14 l (by omega)) (ev_k28 l hw) (by omega) (fun r hr => by have := h.2 r hr; omega)

def r_k153_1 : List SOp := [⟨some 2,.assign (.const (.int .i64 0)),none⟩]
instance : Live r_k153_1 := ⟨[0]⟩
def r_k153_2 : List SOp := [⟨some 3,.move (.tmp 0),none⟩,⟨some 4,.binOp .geq 180 (.tmp 3) (.const (.int .u64 4294967296)) 180,none⟩]
instance : Live r_k153_2 := ⟨[0,2]⟩
def r_k153_3 : List SOp := [⟨some 5,.move (.tmp 0),none⟩,⟨some 6,.binOp .shr 180 (.tmp 5) (.const (.int .u64 32)) 131,none⟩,⟨some 0,.assign (.tmp 6),none⟩]
instance : Live r_k153_3 := ⟨[0]⟩
def r_k153_4 : List SOp := [⟨some 2,.assign (.const (.int .i64 32)),none⟩]
instance : Live r_k153_4 := ⟨[0]⟩
def r_k153_5 : List SOp := [⟨some 7,.move (.tmp 0),none⟩,⟨some 8,.binOp .geq 180 (.tmp 7) (.const (.int .u64 65536)) 180,none⟩]
instance : Live r_k153_5 := ⟨[0,2]⟩
def r_k153_6 : List SOp := [⟨some 9,.move (.tmp 0),none⟩,⟨some 10,.binOp .shr 180 (.tmp 9) (.const (.int .u64 16)) 131,none⟩,⟨some 0,.assign (.tmp 10),none⟩]
instance : Live r_k153_6 := ⟨[0,2]⟩
def r_k153_7 : List SOp := [⟨some 11,.move (.tmp 2),none⟩,⟨some 12,.binOp .add 3 (.tmp 11) (.const (.int .i64 16)) 3,none⟩,⟨some 2,.assign (.tmp 12),none⟩]
instance : Live r_k153_7 := ⟨[0,2]⟩
def r_k153_8 : List SOp := [⟨some 13,.move (.tmp 0),none⟩,⟨some 14,.binOp .geq 180 (.tmp 13) (.const (.int .u64 256)) 180,none⟩]
instance : Live r_k153_8 := ⟨[0,2]⟩
def r_k153_9 : List SOp := [⟨some 15,.move (.tmp 0),none⟩,⟨some 16,.binOp .shr 180 (.tmp 15) (.const (.int .u64 8)) 131,none⟩,⟨some 0,.assign (.tmp 16),none⟩]
instance : Live r_k153_9 := ⟨[0,2]⟩
def r_k153_10 : List SOp := [⟨some 17,.move (.tmp 2),none⟩,⟨some 18,.binOp .add 3 (.tmp 17) (.const (.int .i64 8)) 3,none⟩,⟨some 2,.assign (.tmp 18),none⟩]
instance : Live r_k153_10 := ⟨[0,2]⟩
def r_k153_11 : List SOp := [⟨some 19,.move (.tmp 2),none⟩,⟨some 20,.move (.tmp 0),none⟩,⟨some 21,.convert 180 5 (.tmp 20),none⟩,⟨some 22,.index 9 (.const (.string ⟨List.toArray ([0,1,2,2,3,3,3,3,4,4,4,4,4,4,4,4,5,5,5,5,5,5,5,5,5,5,5,5,5,5,5,5,6,6,6,6,6,6,6,6,6,6,6,6,6,6,6,6,6,6,6,6,6,6,6,6,6,6,6,6,6,6,6,6,7,7,7,7,7,7,7,7,7,7,7,7,7,7,7,7,7,7,7,7,7,7,7,7,7,7,7,7,7,7,7,7,7,7,7,7,7,7,7,7,7,7,7,7,7,7,7,7,7,7,7,7,7,7,7,7,7,7,7,7,7,7,7,7] ++ [8,8,8,8,8,8,8,8,8,8,8,8,8,8,8,8,8,8,8,8,8,8,8,8,8,8,8,8,8,8,8,8,8,8,8,8,8,8,8,8,8,8,8,8,8,8,8,8,8,8,8,8,8,8,8,8,8,8,8,8,8,8,8,8,8,8,8,8,8,8,8,8,8,8,8,8,8,8,8,8,8,8,8,8,8,8,8,8,8,8,8,8,8,8,8,8,8,8,8,8,8,8,8,8,8,8,8,8,8,8,8,8,8,8,8,8,8,8,8,8,8,8,8,8,8,8,8,8])⟩)) (.tmp 21),none⟩,⟨some 23,.convert 5 3 (.tmp 22),none⟩,⟨some 24,.binOp .add 3 (.tmp 19) (.tmp 23) 3,none⟩,⟨some 2,.assign (.tmp 24),none⟩]
instance : Live r_k153_11 := ⟨[0,2]⟩
def t_k153 : SC :=
  (.seq (.ops false r_k153_1) (.seq (.seq (.ops false r_k153_2) (.cond (.tmp 4) (.seq (.ops false r_k153_3) (.ops false r_k153_4)) .skip)) (.seq (.seq (.ops false r_k153_5) (.cond (.tmp 8) (.seq (.ops false r_k153_6) (.ops false r_k153_7)) .skip)) (.seq (.seq (.ops false r_k153_8) (.cond (.tmp 14) (.seq (.ops false r_k153_9) (.ops false r_k153_10)) .skip)) (.seq (.ops false r_k153_11) .ret)))))
theorem it_k153 : FnIs Tryz.prog 153 25 [.tmp 2] t_k153 := ⟨Tryz.f153, _, Tryz.func153, rfl, rfl, rfl, rfl, by kernel_rfl⟩

def r_k107_1 : List SOp := [⟨some 2,.assign (.const (.int .i64 0)),none⟩]
instance : Live r_k107_1 := ⟨[0]⟩
def r_k107_2 : List SOp := [⟨some 3,.move (.tmp 0),none⟩,⟨some 4,.convert 131 178 (.tmp 3),none⟩,⟨some 5,.call ⟨.value (.func 152),#[.tmp 4],#[178]⟩,none⟩,⟨some 2,.assign (.tmp 5),none⟩]
instance : Live r_k107_2 := ⟨[0]⟩
def r_k107_3 : List SOp := [⟨some 6,.move (.tmp 0),none⟩,⟨some 7,.call ⟨.value (.func 153),#[.tmp 6],#[180]⟩,none⟩,⟨some 2,.assign (.tmp 7),none⟩]
instance : Live r_k107_3 := ⟨[0]⟩
def t_k107 : SC :=
  (.seq (.ops false r_k107_1) (.seq (.cond (.const (.bool false)) (.seq (.ops false r_k107_2) .ret) .skip) (.seq (.ops false r_k107_3) .ret)))
theorem it_k107 : FnIs Tryz.prog 107 8 [.tmp 2] t_k107 := ⟨Tryz.f107, _, Tryz.func107, rfl, rfl, rfl, rfl, by kernel_rfl⟩

def r_k144_1 : List SOp := [⟨some 10,.move (.tmp 1),none⟩,⟨some 11,.binOp .add 3 (.tmp 10) (.const (.int .i64 1)) 3,none⟩,⟨some 8,.assign (.tmp 11),none⟩]
instance : Live r_k144_1 := ⟨[0,1,2,3]⟩
def r_k144_2 : List SOp := [⟨some 12,.move (.tmp 8),none⟩,⟨some 13,.move (.tmp 2),none⟩,⟨some 14,.binOp .lss 3 (.tmp 12) (.tmp 13) 3,none⟩]
instance : Live r_k144_2 := ⟨[0,1,2,3,8]⟩
def r_k144_3 : List SOp := [⟨some 17,.move (.tmp 8),none⟩,⟨some 9,.assign (.tmp 17),none⟩]
instance : Live r_k144_3 := ⟨[0,1,2,3,8]⟩
def r_k144_4 : List SOp := [⟨some 18,.move (.tmp 9),none⟩,⟨some 19,.move (.tmp 1),none⟩,⟨some 20,.binOp .gtr 3 (.tmp 18) (.tmp 19) 3,none⟩,⟨some 21,.move (.tmp 20),none⟩,⟨some 22,.move (.tmp 3),some ((some 21),true)⟩,⟨some 23,.move (.tmp 0),some ((some 21),true)⟩,⟨some 24,.move (.tmp 9),some ((some 21),true)⟩,⟨some 25,.indexAddr 22 (.tmp 23) (.tmp 24),some ((some 21),true)⟩,⟨some 26,.load 39 (.tmp 25),some ((some 21),true)⟩,⟨some 27,.move (.tmp 0),some ((some 21),true)⟩,⟨some 28,.move (.tmp 9),some ((some 21),true)⟩,⟨some 29,.binOp .sub 3 (.tmp 28) (.const (.int .i64 1)) 3,some ((some 21),true)⟩,⟨some 30,.indexAddr 22 (.tmp 27) (.tmp 29),some ((some 21),true)⟩,⟨some 31,.load 39 (.tmp 30),some ((some 21),true)⟩,⟨some 32,.call ⟨.value (.tmp 22),#[.tmp 26,.tmp 31],#[39,39]⟩,some ((some 21),true)⟩,⟨some 33,.binOp .lss 3 (.tmp 32) (.const (.int .i64 0)) 3,some ((some 21),true)⟩,⟨some 34,.pick (.tmp 21) (.tmp 33) (.const (.bool false)),none⟩]
instance : Live r_k144_4 := ⟨[0,1,2,3,8,9]⟩
def r_k144_5 : List SOp := [⟨some 37,.move (.tmp 0),none⟩,⟨some 38,.move (.tmp 9),none⟩,⟨some 39,.move (.tmp 0),none⟩,⟨some 40,.move (.tmp 9),none⟩,⟨some 41,.binOp .sub 3 (.tmp 40) (.const (.int .i64 1)) 3,none⟩,⟨some 42,.move (.tmp 0),none⟩,⟨some 43,.move (.tmp 9),none⟩,⟨some 44,.binOp .sub 3 (.tmp 43) (.const (.int .i64 1)) 3,none⟩,⟨some 45,.indexAddr 22 (.tmp 42) (.tmp 44),none⟩,⟨some 46,.load 39 (.tmp 45),none⟩,⟨some 47,.move (.tmp 0),none⟩,⟨some 48,.move (.tmp 9),none⟩,⟨some 49,.indexAddr 22 (.tmp 47) (.tmp 48),none⟩,⟨some 50,.load 39 (.tmp 49),none⟩,⟨some 51,.indexAddr 22 (.tmp 37) (.tmp 38),none⟩,⟨none,.store 39 (.tmp 51) (.tmp 46),none⟩,⟨some 52,.indexAddr 22 (.tmp 39) (.tmp 41),none⟩,⟨none,.store 39 (.tmp 52) (.tmp 50),none⟩]
instance : Live r_k144_5 := ⟨[0,1,2,3,8,9]⟩
instance : Rd r_k144_5 := ⟨fun j => false⟩
def r_k144_6 : List SOp := [⟨some 35,.move (.tmp 9),none⟩,⟨some 36,.binOp .sub 3 (.tmp 35) (.const (.int .i64 1)) 3,none⟩,⟨some 9,.assign (.tmp 36),none⟩]
instance : Live r_k144_6 := ⟨[0,1,2,3,8,9]⟩
def r_k144_7 : List SOp := [⟨some 15,.move (.tmp 8),none⟩,⟨some 16,.binOp .add 3 (.tmp 15) (.const (.int .i64 1)) 3,none⟩,⟨some 8,.assign (.tmp 16),none⟩]
instance : Live r_k144_7 := ⟨[0,1,2,3,8]⟩
def t_k144_l2 : SC :=
  (.seq (.seq (.ops true r_k144_4) (.cond (.tmp 34) .skip (.exit 2))) (.seq (.block 3 (.opsW [] r_k144_5)) (.ops false r_k144_6)))
def t_k144_l1 : SC :=
  (.seq (.seq (.ops false r_k144_2) (.cond (.tmp 14) .skip (.exit 0))) (.seq (.block 1 (.seq (.ops false r_k144_3) (.block 2 (.loop t_k144_l2)))) (.ops false r_k144_7)))
def t_k144 : SC :=
  (.seq (.ops false r_k144_1) (.block 0 (.loop t_k144_l1)))
theorem it_k144 : FnIs Tryz.prog 144 53 [] t_k144 := ⟨Tryz.f144, _, Tryz.func144, rfl, rfl, rfl, rfl, by kernel_rfl⟩

def r_k106_1 : List SOp := [⟨some 10,.assign (.const (.bool true)),none⟩]
instance : Live r_k106_1 := ⟨[0,1,2,3,4]⟩
def r_k106_2 : List SOp := [⟨some 11,.assign (.const (.bool true)),none⟩]
instance : Live r_k106_2 := ⟨[0,1,2,3,4,10]⟩
def r_k106_3 : List SOp := [⟨some 21,.move (.tmp 2),none⟩,⟨some 22,.move (.tmp 1),none⟩,⟨some 23,.binOp .sub 3 (.tmp 21) (.tmp 22) 3,none⟩,⟨some 12,.assign (.tmp 23),none⟩]
instance : Live r_k106_3 := ⟨[0,1,2,3,4,10,11]⟩
def r_k106_4 : List SOp := [⟨some 24,.move (.tmp 12),none⟩,⟨some 25,.binOp .leq 3 (.tmp 24) (.const (.int .i64 12)) 3,none⟩]
instance : Live r_k106_4 := ⟨[0,1,2,3,4,10,11,12]⟩
def r_k106_5 : List SOp := [⟨some 26,.move (.tmp 0),none⟩,⟨some 27,.move (.tmp 1),none⟩,⟨some 28,.move (.tmp 2),none⟩,⟨some 29,.move (.tmp 4),none⟩,⟨some 30,.call ⟨.value (.func 144),#[.tmp 26,.tmp 27,.tmp 28,.tmp 29],#[22,3,3,40]⟩,none⟩]
instance : Live r_k106_5 := ⟨[0,1,2,4]⟩
def r_k106_6 : List SOp := [⟨some 31,.move (.tmp 3),none⟩,⟨some 32,.binOp .eql 3 (.tmp 31) (.const (.int .i64 0)) 3,none⟩]
instance : Live r_k106_6 := ⟨[0,1,2,3,4,10,11,12]⟩
def r_k106_7 : List SOp := [⟨some 33,.move (.tmp 0),none⟩,⟨some 34,.move (.tmp 1),none⟩,⟨some 35,.move (.tmp 2),none⟩,⟨some 36,.move (.tmp 4),none⟩,⟨some 37,.call ⟨.value (.func 145),#[.tmp 33,.tmp 34,.tmp 35,.tmp 36],#[22,3,3,40]⟩,none⟩]
instance : Live r_k106_7 := ⟨[0,1,2,4]⟩
def r_k106_8 : List SOp := [⟨some 38,.move (.tmp 10),none⟩,⟨some 39,.unOp .not 4 (.tmp 38),none⟩]
instance : Live r_k106_8 := ⟨[0,1,2,3,4,10,11,12]⟩
def r_k106_9 : List SOp := [⟨some 40,.move (.tmp 0),none⟩,⟨some 41,.move (.tmp 1),none⟩,⟨some 42,.move (.tmp 2),none⟩,⟨some 43,.move (.tmp 4),none⟩,⟨some 44,.call ⟨.value (.func 146),#[.tmp 40,.tmp 41,.tmp 42,.tmp 43],#[22,3,3,40]⟩,none⟩]
instance : Live r_k106_9 := ⟨[0,1,2,3,4,10,11,12]⟩
def r_k106_10 : List SOp := [⟨some 45,.move (.tmp 3),none⟩,⟨some 46,.binOp .sub 3 (.tmp 45) (.const (.int .i64 1)) 3,none⟩,⟨some 3,.assign (.tmp 46),none⟩]
instance : Live r_k106_10 := ⟨[0,1,2,3,4,10,11,12]⟩
def r_k106_11 : List SOp := [⟨some 48,.move (.tmp 0),none⟩,⟨some 49,.move (.tmp 1),none⟩,⟨some 50,.move (.tmp 2),none⟩,⟨some 51,.move (.tmp 4),none⟩,⟨some 52,.call ⟨.value (.func 147),#[.tmp 48,.tmp 49,.tmp 50,.tmp 51],#[22,3,3,40]⟩,none⟩,⟨some 47,.move (.tmp 52),none⟩,⟨some 53,.extract (.tmp 47) 0,none⟩,⟨some 54,.extract (.tmp 47) 1,none⟩,⟨some 13,.assign (.tmp 53),none⟩,⟨some 14,.assign (.tmp 54),none⟩]
instance : Live r_k106_11 := ⟨[0,1,2,3,4,10,11,12]⟩
def r_k106_12 : List SOp := [⟨some 55,.move (.tmp 14),none⟩,⟨some 56,.binOp .eql 170 (.tmp 55) (.const (.int .i64 2)) 170,none⟩]
instance : Live r_k106_12 := ⟨[0,1,2,3,4,10,11,12,13,14]⟩
def r_k106_13 : List SOp := [⟨some 57,.move (.tmp 0),none⟩,⟨some 58,.move (.tmp 1),none⟩,⟨some 59,.move (.tmp 2),none⟩,⟨some 60,.move (.tmp 4),none⟩,⟨some 61,.call ⟨.value (.func 148),#[.tmp 57,.tmp 58,.tmp 59,.tmp 60],#[22,3,3,40]⟩,none⟩]
instance : Live r_k106_13 := ⟨[0,1,2,3,4,10,11,12,13]⟩
def r_k106_14 : List SOp := [⟨some 62,.move (.tmp 2),none⟩,⟨some 63,.binOp .sub 3 (.tmp 62) (.const (.int .i64 1)) 3,none⟩,⟨some 64,.move (.tmp 13),none⟩,⟨some 65,.move (.tmp 1),none⟩,⟨some 66,.binOp .sub 3 (.tmp 64) (.tmp 65) 3,none⟩,⟨some 67,.binOp .sub 3 (.tmp 63) (.tmp 66) 3,none⟩,⟨some 13,.assign (.tmp 67),none⟩]
instance : Live r_k106_14 := ⟨[0,1,2,3,4,10,11,12,13]⟩
def r_k106_15 : List SOp := [⟨some 14,.assign (.const (.int .i64 1)),none⟩]
instance : Live r_k106_15 := ⟨[0,1,2,3,4,10,11,12,13]⟩
def r_k106_16 : List SOp := [⟨some 68,.move (.tmp 10),none⟩,⟨some 69,.move (.tmp 68),none⟩,⟨some 70,.move (.tmp 11),some ((some 69),true)⟩,⟨some 71,.pick (.tmp 69) (.tmp 70) (.const (.bool false)),none⟩,⟨some 72,.move (.tmp 71),none⟩,⟨some 73,.move (.tmp 14),some ((some 72),true)⟩,⟨some 74,.binOp .eql 170 (.tmp 73) (.const (.int .i64 1)) 170,some ((some 72),true)⟩,⟨some 75,.pick (.tmp 72) (.tmp 74) (.const (.bool false)),none⟩]
instance : Live r_k106_16 := ⟨[0,1,2,3,4,10,11,12,13,14]⟩
def r_k106_17 : List SOp := [⟨some 76,.move (.tmp 0),none⟩,⟨some 77,.move (.tmp 1),none⟩,⟨some 78,.move (.tmp 2),none⟩,⟨some 79,.move (.tmp 4),none⟩,⟨some 80,.call ⟨.value (.func 149),#[.tmp 76,.tmp 77,.tmp 78,.tmp 79],#[22,3,3,40]⟩,none⟩]
instance : Live r_k106_17 := ⟨[0,1,2,3,4,10,11,12,13]⟩
def r_k106_18 : List SOp := [⟨some 81,.move (.tmp 1),none⟩,⟨some 82,.binOp .gtr 3 (.tmp 81) (.const (.int .i64 0)) 3,none⟩,⟨some 83,.move (.tmp 82),none⟩,⟨some 84,.move (.tmp 4),some ((some 83),true)⟩,⟨some 85,.move (.tmp 0),some ((some 83),true)⟩,⟨some 86,.move (.tmp 1),some ((some 83),true)⟩,⟨some 87,.binOp .sub 3 (.tmp 86) (.const (.int .i64 1)) 3,some ((some 83),true)⟩,⟨some 88,.indexAddr 22 (.tmp 85) (.tmp 87),some ((some 83),true)⟩,⟨some 89,.load 39 (.tmp 88),some ((some 83),true)⟩,⟨some 90,.move (.tmp 0),some ((some 83),true)⟩,⟨some 91,.move (.tmp 13),some ((some 83),true)⟩,⟨some 92,.indexAddr 22 (.tmp 90) (.tmp 91),some ((some 83),true)⟩,⟨some 93,.load 39 (.tmp 92),some ((some 83),true)⟩,⟨some 94,.call ⟨.value (.tmp 84),#[.tmp 89,.tmp 93],#[39,39]⟩,some ((some 83),true)⟩,⟨some 95,.binOp .lss 3 (.tmp 94) (.const (.int .i64 0)) 3,some ((some 83),true)⟩,⟨some 96,.unOp .not 4 (.tmp 95),some ((some 83),true)⟩,⟨some 97,.pick (.tmp 83) (.tmp 96) (.const (.bool false)),none⟩]
instance : Live r_k106_18 := ⟨[0,1,2,3,4,10,11,12,13]⟩
def r_k106_19 : List SOp := [⟨some 98,.move (.tmp 0),none⟩,⟨some 99,.move (.tmp 1),none⟩,⟨some 100,.move (.tmp 2),none⟩,⟨some 101,.move (.tmp 13),none⟩,⟨some 102,.move (.tmp 4),none⟩,⟨some 103,.call ⟨.value (.func 150),#[.tmp 98,.tmp 99,.tmp 100,.tmp 101,.tmp 102],#[22,3,3,3,40]⟩,none⟩,⟨some 15,.assign (.tmp 103),none⟩]
instance : Live r_k106_19 := ⟨[0,1,2,3,4,10,11,13]⟩
def r_k106_20 : List SOp := [⟨some 104,.move (.tmp 15),none⟩,⟨some 1,.assign (.tmp 104),none⟩]
instance : Live r_k106_20 := ⟨[0,2,3,4,10,11,15]⟩
def r_k106_21 : List SOp := [⟨some 106,.move (.tmp 0),none⟩,⟨some 107,.move (.tmp 1),none⟩,⟨some 108,.move (.tmp 2),none⟩,⟨some 109,.move (.tmp 13),none⟩,⟨some 110,.move (.tmp 4),none⟩,⟨some 111,.call ⟨.value (.func 151),#[.tmp 106,.tmp 107,.tmp 108,.tmp 109,.tmp 110],#[22,3,3,3,40]⟩,none⟩,⟨some 105,.move (.tmp 111),none⟩,⟨some 112,.extract (.tmp 105) 0,none⟩,⟨some 113,.extract (.tmp 105) 1,none⟩,⟨some 16,.assign (.tmp 112),none⟩,⟨some 17,.assign (.tmp 113),none⟩]
instance : Live r_k106_21 := ⟨[0,1,2,3,4,12,13]⟩
def r_k106_22 : List SOp := [⟨some 114,.move (.tmp 17),none⟩,⟨some 11,.assign (.tmp 114),none⟩]
instance : Live r_k106_22 := ⟨[0,1,2,3,4,12,16,17]⟩
def r_k106_23 : List SOp := [⟨some 115,.move (.tmp 16),none⟩,⟨some 116,.move (.tmp 1),none⟩,⟨some 117,.binOp .sub 3 (.tmp 115) (.tmp 116) 3,none⟩,⟨some 118,.move (.tmp 2),none⟩,⟨some 119,.move (.tmp 16),none⟩,⟨some 120,.binOp .sub 3 (.tmp 118) (.tmp 119) 3,none⟩,⟨some 18,.assign (.tmp 117),none⟩,⟨some 19,.assign (.tmp 120),none⟩]
instance : Live r_k106_23 := ⟨[0,1,2,3,4,11,12,16]⟩
def r_k106_24 : List SOp := [⟨some 121,.move (.tmp 12),none⟩,⟨some 122,.binOp .quo 3 (.tmp 121) (.const (.int .i64 8)) 3,none⟩,⟨some 20,.assign (.tmp 122),none⟩]
instance : Live r_k106_24 := ⟨[0,1,2,3,4,11,12,16,18,19]⟩
def r_k106_25 : List SOp := [⟨some 123,.move (.tmp 18),none⟩,⟨some 124,.move (.tmp 19),none⟩,⟨some 125,.binOp .lss 3 (.tmp 123) (.tmp 124) 3,none⟩]
instance : Live r_k106_25 := ⟨[0,1,2,3,4,11,16,18,19,20]⟩
def r_k106_26 : List SOp := [⟨some 126,.move (.tmp 18),none⟩,⟨some 127,.move (.tmp 20),none⟩,⟨some 128,.binOp .geq 3 (.tmp 126) (.tmp 127) 3,none⟩,⟨some 10,.assign (.tmp 128),none⟩]
instance : Live r_k106_26 := ⟨[0,1,2,3,4,11,16,18,20]⟩
def r_k106_27 : List SOp := [⟨some 129,.move (.tmp 0),none⟩,⟨some 130,.move (.tmp 1),none⟩,⟨some 131,.move (.tmp 16),none⟩,⟨some 132,.move (.tmp 3),none⟩,⟨some 133,.move (.tmp 4),none⟩,⟨some 134,.call ⟨.value (.func 106),#[.tmp 129,.tmp 130,.tmp 131,.tmp 132,.tmp 133],#[22,3,3,3,40]⟩,none⟩]
instance : Live r_k106_27 := ⟨[0,1,2,3,4,10,11,16]⟩
def r_k106_28 : List SOp := [⟨some 135,.move (.tmp 16),none⟩,⟨some 136,.binOp .add 3 (.tmp 135) (.const (.int .i64 1)) 3,none⟩,⟨some 1,.assign (.tmp 136),none⟩]
instance : Live r_k106_28 := ⟨[0,2,3,4,10,11,16]⟩
def r_k106_29 : List SOp := [⟨some 137,.move (.tmp 19),none⟩,⟨some 138,.move (.tmp 20),none⟩,⟨some 139,.binOp .geq 3 (.tmp 137) (.tmp 138) 3,none⟩,⟨some 10,.assign (.tmp 139),none⟩]
instance : Live r_k106_29 := ⟨[0,1,2,3,4,11,16,19,20]⟩
def r_k106_30 : List SOp := [⟨some 140,.move (.tmp 0),none⟩,⟨some 141,.move (.tmp 16),none⟩,⟨some 142,.binOp .add 3 (.tmp 141) (.const (.int .i64 1)) 3,none⟩,⟨some 143,.move (.tmp 2),none⟩,⟨some 144,.move (.tmp 3),none⟩,⟨some 145,.move (.tmp 4),none⟩,⟨some 146,.call ⟨.value (.func 106),#[.tmp 140,.tmp 142,.tmp 143,.tmp 144,.tmp 145],#[22,3,3,3,40]⟩,none⟩]
instance : Live r_k106_30 := ⟨[0,1,2,3,4,10,11,16]⟩
def r_k106_31 : List SOp := [⟨some 147,.move (.tmp 16),none⟩,⟨some 2,.assign (.tmp 147),none⟩]
instance : Live r_k106_31 := ⟨[0,1,3,4,10,11,16]⟩
def t_k106_l1 : SC :=
  (.block 1 (.seq (.ops false r_k106_3) (.seq (.seq (.ops false r_k106_4) (.cond (.tmp 25) (.seq (.ops false r_k106_5) .ret) .skip)) (.seq (.seq (.ops false r_k106_6) (.cond (.tmp 32) (.seq (.ops false r_k106_7) .ret) .skip)) (.seq (.seq (.ops false r_k106_8) (.cond (.tmp 39) (.seq (.ops false r_k106_9) (.ops false r_k106_10)) .skip)) (.seq (.ops false r_k106_11) (.seq (.seq (.ops false r_k106_12) (.cond (.tmp 56) (.seq (.ops false r_k106_13) (.seq (.ops false r_k106_14) (.ops false r_k106_15))) .skip)) (.seq (.seq (.ops false r_k106_16) (.cond (.tmp 75) (.seq (.ops false r_k106_17) (.cond (.tmp 80) .ret .skip)) .skip)) (.seq (.seq (.ops true r_k106_18) (.cond (.tmp 97) (.seq (.ops false r_k106_19) (.seq (.ops false r_k106_20) (.exit 1))) .skip)) (.seq (.ops false r_k106_21) (.seq (.ops false r_k106_22) (.seq (.ops false r_k106_23) (.seq (.ops false r_k106_24) (.seq (.ops false r_k106_25) (.cond (.tmp 125) (.seq (.ops false r_k106_26) (.seq (.ops false r_k106_27) (.ops false r_k106_28))) (.seq (.ops false r_k106_29) (.seq (.ops false r_k106_30) (.ops false r_k106_31))))))))))))))))))
def t_k106 : SC :=
  (.seq (.ops false r_k106_1) (.seq (.ops false r_k106_2) (.block 0 (.loop t_k106_l1))))
theorem it_k106 : FnIs Tryz.prog 106 148 [] t_k106 := ⟨Tryz.f106, _, Tryz.func106, rfl, rfl, rfl, rfl, by kernel_rfl⟩

def r_k57_1 : List SOp := [⟨some 5,.move (.tmp 0),none⟩,⟨some 6,.call ⟨.builtin .len,#[.tmp 5],#[22]⟩,none⟩,⟨some 4,.assign (.tmp 6),none⟩]
instance : Live r_k57_1 := ⟨[0,1]⟩
def r_k57_2 : List SOp := [⟨some 7,.move (.tmp 0),none⟩,⟨some 8,.move (.tmp 4),none⟩,⟨some 9,.move (.tmp 4),none⟩,⟨some 10,.convert 3 131 (.tmp 9),none⟩,⟨some 11,.call ⟨.value (.func 107),#[.tmp 10],#[131]⟩,none⟩,⟨some 12,.move (.tmp 1),none⟩,⟨some 13,.call ⟨.value (.func 106),#[.tmp 7,.const (.int .i64 0),.tmp 8,.tmp 11,.tmp 12],#[22,3,3,3,40]⟩,none⟩]
instance : Live r_k57_2 := ⟨[0,1,4]⟩
def t_k57 : SC :=
  (.seq (.ops false r_k57_1) (.ops false r_k57_2))
theorem it_k57 : FnIs Tryz.prog 57 14 [] t_k57 := ⟨Tryz.f57, _, Tryz.func57, rfl, rfl, rfl, rfl, by kernel_rfl⟩

def r_k58_1 : List SOp := [⟨some 4,.assign (.const (.slice none 0 0)),none⟩]
instance : Live r_k58_1 := ⟨[0,1]⟩
def r_k58_2 : List SOp := [⟨some 8,.move (.tmp 0),none⟩,⟨some 9,.call ⟨.builtin .len,#[.tmp 8],#[22]⟩,none⟩,⟨some 10,.binOp .lss 3 (.tmp 9) (.const (.int .i64 2)) 3,none⟩]
instance : Live r_k58_2 := ⟨[0,1]⟩
def r_k58_3 : List SOp := [⟨some 11,.move (.tmp 0),none⟩,⟨some 4,.assign (.tmp 11),none⟩]
instance : Live r_k58_3 := ⟨[0]⟩
def r_k58_4 : List SOp := [⟨some 5,.assign (.const (.int .i64 1)),none⟩]
instance : Live r_k58_4 := ⟨[0,1]⟩
def r_k58_5 : List SOp := [⟨some 12,.move (.tmp 5),none⟩,⟨some 13,.move (.tmp 0),none⟩,⟨some 14,.call ⟨.builtin .len,#[.tmp 13],#[22]⟩,none⟩,⟨some 15,.binOp .lss 3 (.tmp 12) (.tmp 14) 3,none⟩]
instance : Live r_k58_5 := ⟨[0,1,5]⟩
def r_k58_6 : List SOp := [⟨some 18,.move (.tmp 1),none⟩,⟨some 19,.move (.tmp 0),none⟩,⟨some 20,.move (.tmp 5),none⟩,⟨some 21,.indexAddr 22 (.tmp 19) (.tmp 20),none⟩,⟨some 22,.load 39 (.tmp 21),none⟩,⟨some 23,.move (.tmp 0),none⟩,⟨some 24,.move (.tmp 5),none⟩,⟨some 25,.binOp .sub 3 (.tmp 24) (.const (.int .i64 1)) 3,none⟩,⟨some 26,.indexAddr 22 (.tmp 23) (.tmp 25),none⟩,⟨some 27,.load 39 (.tmp 26),none⟩,⟨some 28,.call ⟨.value (.tmp 18),#[.tmp 22,.tmp 27],#[39,39]⟩,none⟩]
instance : Live r_k58_6 := ⟨[0,1,5]⟩
def r_k58_7 : List SOp := [⟨some 29,.move (.tmp 0),none⟩,⟨some 30,.move (.tmp 5),none⟩,⟨some 31,.slice 22 (.tmp 29) (some (.tmp 30)) none none,none⟩,⟨some 6,.assign (.tmp 31),none⟩]
instance : Live r_k58_7 := ⟨[0,1,5]⟩
def r_k58_8 : List SOp := [⟨some 7,.assign (.const (.int .i64 1)),none⟩]
instance : Live r_k58_8 := ⟨[0,1,5,6]⟩
def r_k58_9 : List SOp := [⟨some 32,.move (.tmp 7),none⟩,⟨some 33,.move (.tmp 6),none⟩,⟨some 34,.call ⟨.builtin .len,#[.tmp 33],#[22]⟩,none⟩,⟨some 35,.binOp .lss 3 (.tmp 32) (.tmp 34) 3,none⟩]
instance : Live r_k58_9 := ⟨[0,1,5,6,7]⟩
def r_k58_10 : List SOp := [⟨some 38,.move (.tmp 1),none⟩,⟨some 39,.move (.tmp 6),none⟩,⟨some 40,.move (.tmp 7),none⟩,⟨some 41,.indexAddr 22 (.tmp 39) (.tmp 40),none⟩,⟨some 42,.load 39 (.tmp 41),none⟩,⟨some 43,.move (.tmp 6),none⟩,⟨some 44,.move (.tmp 7),none⟩,⟨some 45,.binOp .sub 3 (.tmp 44) (.const (.int .i64 1)) 3,none⟩,⟨some 46,.indexAddr 22 (.tmp 43) (.tmp 45),none⟩,⟨some 47,.load 39 (.tmp 46),none⟩,⟨some 48,.call ⟨.value (.tmp 38),#[.tmp 42,.tmp 47],#[39,39]⟩,none⟩,⟨some 49,.unOp .not 4 (.tmp 48),none⟩]
instance : Live r_k58_10 := ⟨[0,1,5,6,7]⟩
def r_k58_11 : List SOp := [⟨some 50,.move (.tmp 0),none⟩,⟨some 51,.move (.tmp 5),none⟩,⟨some 52,.move (.tmp 6),none⟩,⟨some 53,.move (.tmp 7),none⟩,⟨some 54,.indexAddr 22 (.tmp 52) (.tmp 53),none⟩,⟨some 55,.load 39 (.tmp 54),none⟩,⟨some 56,.indexAddr 22 (.tmp 50) (.tmp 51),none⟩,⟨none,.store 39 (.tmp 56) (.tmp 55),none⟩]
instance : Live r_k58_11 := ⟨[0,1,5,6,7]⟩
def r_k58_12 : List SOp := [⟨some 57,.move (.tmp 5),none⟩,⟨some 58,.binOp .add 3 (.tmp 57) (.const (.int .i64 1)) 3,none⟩,⟨some 5,.assign (.tmp 58),none⟩]
instance : Live r_k58_12 := ⟨[0,1,5,6,7]⟩
def r_k58_13 : List SOp := [⟨some 36,.move (.tmp 7),none⟩,⟨some 37,.binOp .add 3 (.tmp 36) (.const (.int .i64 1)) 3,none⟩,⟨some 7,.assign (.tmp 37),none⟩]
instance : Live r_k58_13 := ⟨[0,1,5,6,7]⟩
def r_k58_14 : List SOp := [⟨some 59,.move (.tmp 0),none⟩,⟨some 60,.move (.tmp 5),none⟩,⟨some 61,.slice 22 (.tmp 59) (some (.tmp 60)) none none,none⟩,⟨none,.call ⟨.builtin .clear,#[.tmp 61],#[22]⟩,none⟩]
instance : Live r_k58_14 := ⟨[0,5]⟩
def r_k58_15 : List SOp := [⟨some 62,.move (.tmp 0),none⟩,⟨some 63,.move (.tmp 5),none⟩,⟨some 64,.slice 22 (.tmp 62) none (some (.tmp 63)) none,none⟩,⟨some 4,.assign (.tmp 64),none⟩]
instance : Live r_k58_15 := ⟨[0,5]⟩
def r_k58_16 : List SOp := [⟨some 16,.move (.tmp 5),none⟩,⟨some 17,.binOp .add 3 (.tmp 16) (.const (.int .i64 1)) 3,none⟩,⟨some 5,.assign (.tmp 17),none⟩]
instance : Live r_k58_16 := ⟨[0,1,5]⟩
def r_k58_17 : List SOp := [⟨some 65,.move (.tmp 0),none⟩,⟨some 4,.assign (.tmp 65),none⟩]
instance : Live r_k58_17 := ⟨[0]⟩
def t_k58_l2 : SC :=
  (.seq (.seq (.ops false r_k58_9) (.cond (.tmp 35) .skip (.exit 2))) (.seq (.block 3 (.seq (.ops true r_k58_10) (.cond (.tmp 49) (.seq (.ops false r_k58_11) (.ops false r_k58_12)) .skip))) (.ops false r_k58_13)))
def t_k58_l1 : SC :=
  (.seq (.seq (.ops false r_k58_5) (.cond (.tmp 15) .skip (.exit 0))) (.seq (.block 1 (.seq (.ops true r_k58_6) (.cond (.tmp 28) (.seq (.ops false r_k58_7) (.seq (.seq (.ops false r_k58_8) (.block 2 (.loop t_k58_l2))) (.seq (.ops false r_k58_14) (.seq (.ops false r_k58_15) .ret)))) .skip))) (.ops false r_k58_16)))
def t_k58 : SC :=
  (.seq (.ops false r_k58_1) (.seq (.seq (.ops false r_k58_2) (.cond (.tmp 10) (.seq (.ops false r_k58_3) .ret) .skip)) (.seq (.seq (.ops false r_k58_4) (.block 0 (.loop t_k58_l1))) (.seq (.ops false r_k58_17) .ret))))
theorem it_k58 : FnIs Tryz.prog 58 66 [.tmp 4] t_k58 := ⟨Tryz.f58, _, Tryz.func58, rfl, rfl, rfl, rfl, by kernel_rfl⟩

theorem ev_insertion1 (xs : List AVal) (h : Int) (hh : h ≤ 1) (g : FuncId) (hs : stbs xs = true) : Ev (En Tryz.prog rfl).P 144 [.sl 3 xs, .int .i64 0, .int .i64 h, .fn g []] (.ret (.tup [])) := by
  refine Ev.of_body it_k144 (by simp) (Run.start ?_)
  unfold t_k144
  have hS := hs
  (focus (have hF := True.intro; (repeat' (first | refine go1 (k:=?_) | with_reducible refine Ny.of ?_ ?_ | (refine Hyp.of ?_; intro hc; (try simp only [hc]); (try simp only [Bh] at hc)))); all_goals clear hF))
  refine Run.while (σ := Nat) (fun i => ⟨tms [(0, .sl 3 xs), (1, .int .i64 0), (2, .int .i64 h), (3, .fn g []), (8, .int .i64 1)], mms []⟩) (fun i => True) (fun i => 0) 0 (have hW := @hs; stWk) trivial ?_
  intro i _
  unfold t_k144_l1
  (focus (have hF := True.intro; (repeat' (first | refine go1 (k:=?_) | with_reducible refine Ny.of ?_ ?_ | (refine Hyp.of ?_; intro hc; (try simp only [hc]); (try simp only [Bh] at hc)))); all_goals clear hF))
  exact Fin.done ⟨[], rfl, rfl, [], trivial, rfl⟩
theorem ev_pdq1 (xs : List AVal) (h lim : Int) (h0 : 0 ≤ h) (hh : h ≤ 1) (g : FuncId) (hs : stbs xs = true) : Ev (En Tryz.prog rfl).P 106 [.sl 3 xs, .int .i64 0, .int .i64 h, .int .i64 lim, .fn g []] (.ret (.tup [])) := by
  refine Ev.of_body it_k106 (by simp) (Run.start ?_)
  unfold t_k106
  have hS := hs
  have c1 := ev_insertion1 xs h hh g hs
  (focus (have hF := True.intro; (repeat' (first | refine go1 (k:=?_) | with_reducible refine Ny.of ?_ ?_ | (refine Hyp.of ?_; intro hc; (try simp only [hc]); (try simp only [Bh] at hc)))); all_goals clear hF))
  refine Run.while (σ := Nat) (fun i => ⟨tms [(0, .sl 3 xs), (1, .int .i64 0), (2, .int .i64 h), (3, .int .i64 lim), (4, .fn g [])], mms []⟩) (fun i => True) (fun i => 0) 0 (have hW := @hs; stWk) trivial ?_
  intro i _
  unfold t_k106_l1
  (focus (have hF := True.intro; (repeat' (first | refine go1 (k:=?_) | with_reducible refine Ny.of ?_ ?_ | (refine Hyp.of ?_; intro hc; (try simp only [hc]); (try simp only [Bh] at hc)))); all_goals clear hF))
  refine stCall [.sl 3 xs, .int .i64 0, .int .i64 h, .fn g []] (he := c1) (k:=?_)
  (focus (have hF := True.intro; (repeat' (first | refine go1 (k:=?_) | with_reducible refine Ny.of ?_ ?_ | (refine Hyp.of ?_; intro hc; (try simp only [hc]); (try simp only [Bh] at hc)))); all_goals clear hF))
  exact Fin.done ⟨[], rfl, rfl, [], trivial, rfl⟩
theorem ev_len64 (x : Int) (h0 : x = 0 ∨ x = 1) : Ev (En Tryz.prog rfl).P 153 [.int .u64 x] (.ret (.int .i64 x)) := by
  refine Ev.of_body it_k153 (by simp) (Run.start ?_)
  unfold t_k153
  rcases h0 with rfl | rfl
  · (focus (have hF := True.intro; (repeat' (first | refine go1 (k:=?_) | with_reducible refine Ny.of ?_ ?_ | (refine Hyp.of ?_; intro hc; (try simp only [hc]); (try simp only [Bh] at hc)))); all_goals clear hF))
    exact Fin.tmp' (by with_unfolding_all rfl) rfl
  · (focus (have hF := True.intro; (repeat' (first | refine go1 (k:=?_) | with_reducible refine Ny.of ?_ ?_ | (refine Hyp.of ?_; intro hc; (try simp only [hc]); (try simp only [Bh] at hc)))); all_goals clear hF))
    exact Fin.tmp' (by with_unfolding_all rfl) rfl
theorem ev_len (x : Int) (h0 : x = 0 ∨ x = 1) : Ev (En Tryz.prog rfl).P 107 [.int .u64 x] (.ret (.int .i64 x)) := by
  refine Ev.of_body it_k107 (by simp) (Run.start ?_)
  unfold t_k107
  (focus (have hF := True.intro; (repeat' (first | refine go1 (k:=?_) | with_reducible refine Ny.of ?_ ?_ | (refine Hyp.of ?_; intro hc; (try simp only [hc]); (try simp only [Bh] at hc)))); all_goals clear hF))
  refine stCall [.int .u64 x] (he := ev_len64 x h0) (k:=?_)
  (focus (have hF := True.intro; (repeat' (first | refine go1 (k:=?_) | with_reducible refine Ny.of ?_ ?_ | (refine Hyp.of ?_; intro hc; (try simp only [hc]); (try simp only [Bh] at hc)))); all_goals clear hF))
  exact Fin.tmp' rfl rfl
theorem ev_sort1 (xs : List AVal) (hl : xs.length ≤ 1) (g : FuncId) (hs : stbs xs = true) : Ev (En Tryz.prog rfl).P 57 [.sl 3 xs, .fn g []] (.ret (.tup [])) := by
  refine Ev.of_body it_k57 (by simp) (Run.start ?_)
  unfold t_k57
  have hS := hs
  have c1 := ev_len xs.length (by omega)
  have c2 := ev_pdq1 xs xs.length xs.length (by omega) (by omega) g hs
  have hwr : IntKind.u64.wrap (xs.length : Int) = (xs.length : Int) := by
    rcases Nat.lt_or_ge xs.length 1 with h | h
    · rw [show xs.length = 0 by omega]; rfl
    · rw [show xs.length = 1 by omega]; rfl
  (focus (have hF := @hwr; (repeat' (first | refine go1 (k:=?_) | with_reducible refine Ny.of ?_ ?_ | (refine Hyp.of ?_; intro hc; (try simp only [hc]); (try simp only [Bh] at hc)))); all_goals clear hF))
  refine stCall [.int .u64 xs.length] (he := c1) (k:=?_)
  (focus (have hF := True.intro; (repeat' (first | refine go1 (k:=?_) | with_reducible refine Ny.of ?_ ?_ | (refine Hyp.of ?_; intro hc; (try simp only [hc]); (try simp only [Bh] at hc)))); all_goals clear hF))
  refine stCall [.sl 3 xs, .int .i64 0, .int .i64 xs.length, .int .i64 xs.length, .fn g []] (he := c2) (k:=?_)
  (focus (have hF := True.intro; (repeat' (first | refine go1 (k:=?_) | with_reducible refine Ny.of ?_ ?_ | (refine Hyp.of ?_; intro hc; (try simp only [hc]); (try simp only [Bh] at hc)))); all_goals clear hF))
  exact Fin.done ⟨[], rfl, rfl, [], trivial, rfl⟩
theorem ev_compact1 (xs : List AVal) (hl : xs.length ≤ 1) (g : FuncId) (hs : stbs xs = true) : Ev (En Tryz.prog rfl).P 58 [.sl 3 xs, .fn g []] (.ret (.sl 3 xs)) := by
  refine Ev.of_body it_k58 (by simp) (Run.start ?_)
  unfold t_k58
  (focus (have hF := True.intro; (repeat' (first | refine go1 (k:=?_) | with_reducible refine Ny.of ?_ ?_ | (refine Hyp.of ?_; intro hc; (try simp only [hc]); (try simp only [Bh] at hc)))); all_goals clear hF))
  exact Fin.tmp' rfl hs

def r_k12_1 : List SOp := [⟨some 2,.assign (.const (.slice none 0 0)),none⟩,⟨some 3,.assign (.const (.int .i64 0)),none⟩]
instance : Live r_k12_1 := ⟨[0]⟩
def r_k12_2 : List SOp := [⟨some 4,.assign (.const (.slice none 0 0)),none⟩]
instance : Live r_k12_2 := ⟨[0]⟩
def r_k12_3 : List SOp := [⟨some 7,.move (.tmp 0),none⟩,⟨some 8,.call ⟨.builtin .len,#[.tmp 7],#[22]⟩,none⟩,⟨some 9,.move (.const (.int .i64 0)),none⟩]
instance : Live r_k12_3 := ⟨[0,4]⟩
def r_k12_4 : List SOp := [⟨some 10,.binOp .lss 3 (.tmp 9) (.tmp 8) 3,none⟩]
instance : Live r_k12_4 := ⟨[4,7,8,9]⟩
def r_k12_5 : List SOp := [⟨some 11,.indexAddr 22 (.tmp 7) (.tmp 9),none⟩,⟨some 12,.load 39 (.tmp 11),none⟩,⟨some 6,.alloc 39,none⟩,⟨none,.store 39 (.tmp 6) (.tmp 12),none⟩]
instance : Live r_k12_5 := ⟨[4,7,8,9]⟩
def r_k12_6 : List SOp := [⟨some 13,.fieldAddr 39 (.tmp 6) 0,none⟩,⟨some 14,.load 9 (.tmp 13),none⟩,⟨some 15,.binOp .neq 9 (.tmp 14) (.const (.string ⟨#[]⟩)) 9,none⟩,⟨some 16,.move (.tmp 15),none⟩,⟨some 17,.fieldAddr 39 (.tmp 6) 0,some ((some 16),true)⟩,⟨some 18,.load 9 (.tmp 17),some ((some 16),true)⟩,⟨some 19,.call ⟨.value (.func 54),#[.tmp 18],#[9]⟩,some ((some 16),true)⟩,⟨some 20,.unOp .not 4 (.tmp 19),some ((some 16),true)⟩,⟨some 21,.pick (.tmp 16) (.tmp 20) (.const (.bool false)),none⟩]
instance : Live r_k12_6 := ⟨[4,6,7,8,9]⟩
def r_k12_7 : List SOp := [⟨some 2,.assign (.const (.slice none 0 0)),none⟩,⟨some 3,.assign (.const (.int .i64 5)),none⟩]
instance : Live r_k12_7 := ⟨[]⟩
def r_k12_8 : List SOp := [⟨some 22,.fieldAddr 39 (.tmp 6) 1,none⟩,⟨some 23,.load 27 (.tmp 22),none⟩,⟨some 24,.call ⟨.value (.func 55),#[.tmp 23],#[27]⟩,none⟩,⟨some 25,.unOp .not 4 (.tmp 24),none⟩]
instance : Live r_k12_8 := ⟨[4,6,7,8,9]⟩
def r_k12_9 : List SOp := [⟨some 26,.move (.tmp 4),none⟩,⟨some 27,.load 39 (.tmp 6),none⟩,⟨some 28,.call ⟨.value (.func 56),#[.tmp 27],#[39]⟩,none⟩,⟨some 29,.buildSlice 22 1 #[(0,.tmp 28)],none⟩,⟨some 30,.call ⟨.builtin .append,#[.tmp 26,.tmp 29],#[22,22]⟩,none⟩,⟨some 4,.assign (.tmp 30),none⟩]
instance : Live r_k12_9 := ⟨[4,6,7,8,9]⟩
def r_k12_10 : List SOp := [⟨some 31,.binOp .add 3 (.tmp 9) (.const (.int .i64 1)) 3,none⟩,⟨some 9,.move (.tmp 31),none⟩]
instance : Live r_k12_10 := ⟨[4,7,8,9]⟩
def r_k12_11 : List SOp := [⟨some 32,.move (.tmp 4),none⟩,⟨some 33,.call ⟨.value (.func 57),#[.tmp 32,.func 19],#[22,40]⟩,none⟩]
instance : Live r_k12_11 := ⟨[4]⟩
def r_k12_12 : List SOp := [⟨some 34,.move (.tmp 4),none⟩,⟨some 35,.call ⟨.value (.func 58),#[.tmp 34,.func 59],#[22,95]⟩,none⟩,⟨some 2,.assign (.tmp 35),none⟩,⟨some 3,.assign (.const (.int .i64 0)),none⟩]
instance : Live r_k12_12 := ⟨[4]⟩
def t_k12_l1 : SC :=
  (.seq (.ops false r_k12_4) (.seq (.cond (.tmp 10) .skip (.exit 0)) (.seq (.block 1 (.seq (.ops false r_k12_5) (.seq (.seq (.ops false r_k12_6) (.cond (.tmp 21) (.seq (.ops false r_k12_7) .ret) .skip)) (.seq (.ops false r_k12_8) (.cond (.tmp 25) (.ops false r_k12_9) .skip))))) (.ops false r_k12_10))))
def t_k12 : SC :=
  (.seq (.ops false r_k12_1) (.seq (.ops false r_k12_2) (.seq (.seq (.ops false r_k12_3) (.block 0 (.loop t_k12_l1))) (.seq (.ops false r_k12_11) (.seq (.ops false r_k12_12) .ret)))))
theorem it_k12 : FnIs Tryz.prog 12 36 [.tmp 2, .tmp 3] t_k12 := ⟨Tryz.f12, _, Tryz.func12, rfl, rfl, rfl, rfl, by kernel_rfl⟩

def keptK (l : List Rec) : List Rec := (l.filter fun r => !decide (sizeP r.past = 0)).map fun r => ⟨r.sku, normP r.past⟩
theorem keptK_take {l : List Rec} {i : Nat} {r : Rec} (h : l[i]? = some r) : keptK (l.take (i + 1)) = keptK (l.take i) ++ if sizeP r.past = 0 then [] else [⟨r.sku, normP r.past⟩] := by
  unfold keptK
  rw [List.take_add_one, h, List.filter_append, List.map_append]
  by_cases hc : sizeP r.past = 0 <;> simp [hc]
theorem keptK_len (l : List Rec) : (keptK l).length ≤ l.length := by
  unfold keptK
  rw [List.length_map]
  exact List.length_filter_le _ _
theorem ev_k59 (l : List Rec) (hl : l.length ≤ 1000) (hw : ∀ r ∈ l, wt r.past ≤ 40000000) (hg : ∀ r ∈ l, r.sku.size = 0 ∨ goodS r.sku = true) (h1 : (keptK l).length ≤ 1) : Ev (En Tryz.prog rfl).P 12 [.sl 3 (encKs l)] (.ret (.tup [.sl 3 (encKs (keptK l)), .int .i64 0])) := by
  refine Ev.of_body it_k12 (by simp) (Run.start ?_)
  unfold t_k12
  have e1 := encKs_len l
  have hS := stbK
  (focus (have hF := @e1; (repeat' (first | refine go1 (k:=?_) | with_reducible refine Ny.of ?_ ?_ | (refine Hyp.of ?_; intro hc; (try simp only [hc]); (try simp only [Bh] at hc)))); all_goals clear hF))
  refine Run.wk (Wk.own_nil 4 30 3 rfl rfl) ?_
  refine Run.while (σ := Nat) (fun i => ⟨tms [(4, .os 30 (keptK (l.take i)).length), (7, .sl 3 (encKs l)), (8, .int .i64 l.length), (9, .int .i64 (i : Int))], mms [(30, .arr (keptK (l.take i)).length 3 (encKs (keptK (l.take i))))]⟩)
    (fun i => i ≤ l.length) (fun i => l.length - i) 0 (have hW := @encKs_stb; stWk) (Nat.zero_le _) ?_
  intro i hi
  unfold t_k12_l1
  by_cases hlt : i < l.length
  · obtain ⟨r, hr⟩ : ∃ r, l[i]? = some r := ⟨l[i], by simp [hlt]⟩
    have g1 := encKs_get hr
    have hst := keptK_take hr
    have hle := keptK_len (l.take i)
    have hle2 : (l.take i).length ≤ l.length := by rw [List.length_take]; omega
    generalize keptK (l.take i) = out at hst hle ⊢
    have e2 := encKs_len out
    have hwr := hw r (List.mem_of_getElem? hr)
    have c1 := ev_k54 r.sku
    have c2 := ev_k55 r.past (by omega)
    have c3 := ev_k56 r (by omega)
    have es := str_nil r.sku
    by_cases hz : r.sku.size = 0
    case' pos =>
      rw [eq_true hz] at es
      (focus (have hF := (And.intro (And.intro @e1 @e2) (And.intro @g1 @es)); (repeat' (first | refine go1 (k:=?_) | with_reducible refine Ny.of ?_ ?_ | (refine Hyp.of ?_; intro hc; (try simp only [hc]); (try simp only [Bh] at hc)))); all_goals clear hF))
    case' neg =>
      rw [eq_false hz] at es
      rw [(hg r (List.mem_of_getElem? hr)).resolve_left hz] at c1
      (focus (have hF := (And.intro (And.intro @e1 @e2) (And.intro @g1 @es)); (repeat' (first | refine go1 (k:=?_) | with_reducible refine Ny.of ?_ ?_ | (refine Hyp.of ?_; intro hc; (try simp only [hc]); (try simp only [Bh] at hc)))); all_goals clear hF))
      refine stCall [.str r.sku] (he := c1) (k:=?_)
      (focus (have hF := (And.intro (And.intro @e1 @e2) (And.intro @g1 @es)); (repeat' (first | refine go1 (k:=?_) | with_reducible refine Ny.of ?_ ?_ | (refine Hyp.of ?_; intro hc; (try simp only [hc]); (try simp only [Bh] at hc)))); all_goals clear hF))
    all_goals
      refine stCall [encP r.past] (he := c2) (k:=?_)
      by_cases hs : sizeP r.past = 0
      · rw [if_pos hs, List.append_nil] at hst
        rw [decide_eq_true hs]
        (focus (have hF := (And.intro @e1 (And.intro @e2 @g1)); (repeat' (first | refine go1 (k:=?_) | with_reducible refine Ny.of ?_ ?_ | (refine Hyp.of ?_; intro hc; (try simp only [hc]); (try simp only [Bh] at hc)))); all_goals clear hF))
        (refine Fin.nextW (i + 1) ?_ (have hW := (And.intro @encKs_stb @hst); stWk); (try dsimp only))
        omega
      · rw [if_neg hs] at hst
        rw [decide_eq_false hs]
        (focus (have hF := (And.intro @e1 (And.intro @e2 @g1)); (repeat' (first | refine go1 (k:=?_) | with_reducible refine Ny.of ?_ ?_ | (refine Hyp.of ?_; intro hc; (try simp only [hc]); (try simp only [Bh] at hc)))); all_goals clear hF))
        refine stCall [encK r] (he := c3) (k:=?_)
        unfold encK
        (focus (have hF := (And.intro @e1 (And.intro @e2 @g1)); (repeat' (first | refine go1 (k:=?_) | with_reducible refine Ny.of ?_ ?_ | (refine Hyp.of ?_; intro hc; (try simp only [hc]); (try simp only [Bh] at hc)))); all_goals clear hF))
        (refine Fin.nextW (i + 1) ?_ (have hW := (And.intro @encKs_stb (And.intro @hst @encKs_snoc)); stWk); (try dsimp only))
        omega
  · rw [List.take_of_length_le (show l.length ≤ i by omega)]
    refine Run.wk (Wk.give ⟨no_of_stb (encKs_stb l), rfl, rfl, trivial⟩ trivial rfl (encKs_stb _)) ?_
    have hk := encKs_len (keptK l)
    have c1 := ev_sort1 (encKs (keptK l)) (by omega) 19 (encKs_stb _)
    have c2 := ev_compact1 (encKs (keptK l)) (by omega) 59 (encKs_stb _)
    generalize keptK l = out at *
    (focus (have hF := (And.intro @e1 @hk); (repeat' (first | refine go1 (k:=?_) | with_reducible refine Ny.of ?_ ?_ | (refine Hyp.of ?_; intro hc; (try simp only [hc]); (try simp only [Bh] at hc)))); all_goals clear hF))
    refine stCall [.sl 3 (encKs out), .fn 19 []] (he := c1) (k:=?_)
    (focus (have hF := (And.intro @e1 @hk); (repeat' (first | refine go1 (k:=?_) | with_reducible refine Ny.of ?_ ?_ | (refine Hyp.of ?_; intro hc; (try simp only [hc]); (try simp only [Bh] at hc)))); all_goals clear hF))
    refine stCall [.sl 3 (encKs out), .fn 59 []] (he := c2) (k:=?_)
    (focus (have hF := (And.intro @e1 @hk); (repeat' (first | refine go1 (k:=?_) | with_reducible refine Ny.of ?_ ?_ | (refine Hyp.of ?_; intro hc; (try simp only [hc]); (try simp only [Bh] at hc)))); all_goals clear hF))
    exact Fin.two rfl (encKs_stb _) rfl rfl (.inl rfl) (.inl rfl)
theorem sameP_self (p : Pst) : sameP p p = true := sameP_true ⟨rfl, rfl⟩
theorem ev_k16 (l : List Rec) (hl : l.length ≤ 1000000000) (hw : ∀ r ∈ l, wt r.past ≤ 900000000) : Ev (En Tryz.prog rfl).P 16 [.sl 3 (encKs l), .sl 3 (encKs l)] (.ret (.bool true)) := by
  refine Ev.of_body it_k16 (by simp) (Run.start ?_)
  unfold t_k16
  have e1 := encKs_len l
  have hS := stbK
  (focus (have hF := @e1; (repeat' (first | refine go1 (k:=?_) | with_reducible refine Ny.of ?_ ?_ | (refine Hyp.of ?_; intro hc; (try simp only [hc]); (try simp only [Bh] at hc)))); all_goals clear hF))
  refine Run.while (σ := Nat) (fun i => ⟨tms [(0, .sl 3 (encKs l)), (1, .sl 3 (encKs l)), (5, .int .i64 (i : Int))], mms []⟩)
    (fun i => i ≤ l.length) (fun i => l.length - i) 0 (have hW := @encKs_stb; stWk) (Nat.zero_le _) ?_
  intro i hi
  unfold t_k16_l1
  by_cases hlt : i < l.length
  · obtain ⟨r, hr⟩ : ∃ r, l[i]? = some r := ⟨l[i], by simp [hlt]⟩
    have g1 := encKs_get hr
    have hwr := hw r (List.mem_of_getElem? hr)
    unfold wt at hwr
    have c1 := ev_k64 r.past r.past (by omega) (by omega)
    rw [sameP_self] at c1
    (focus (have hF := (And.intro @e1 @g1); (repeat' (first | refine go1 (k:=?_) | with_reducible refine Ny.of ?_ ?_ | (refine Hyp.of ?_; intro hc; (try simp only [hc]); (try simp only [Bh] at hc)))); all_goals clear hF))
    refine stCall [encP r.past, encP r.past] (he := c1) (k:=?_)
    (focus (have hF := (And.intro @e1 @g1); (repeat' (first | refine go1 (k:=?_) | with_reducible refine Ny.of ?_ ?_ | (refine Hyp.of ?_; intro hc; (try simp only [hc]); (try simp only [Bh] at hc)))); all_goals clear hF))
    (refine Fin.nextW (i + 1) ?_ (have hW := @encKs_stb; stWk); (try dsimp only))
    omega
  · (focus (have hF := @e1; (repeat' (first | refine go1 (k:=?_) | with_reducible refine Ny.of ?_ ?_ | (refine Hyp.of ?_; intro hc; (try simp only [hc]); (try simp only [Bh] at hc)))); all_goals clear hF))
    exact Fin.tmp' rfl rfl
theorem ev_k23 (l : List Ent) (hl : l.length ≤ 1000000000) : Ev (En Tryz.prog rfl).P 23 [.sl 4 (encEs l), .sl 4 (encEs l)] (.ret (.bool true)) := by
  refine Ev.of_body it_k23 (by simp) (Run.start ?_)
  unfold t_k23
  have e1 := encEs_len l
  have hS := stbK
  (focus (have hF := @e1; (repeat' (first | refine go1 (k:=?_) | with_reducible refine Ny.of ?_ ?_ | (refine Hyp.of ?_; intro hc; (try simp only [hc]); (try simp only [Bh] at hc)))); all_goals clear hF))
  refine Run.while (σ := Nat) (fun i => ⟨tms [(0, .sl 4 (encEs l)), (1, .sl 4 (encEs l)), (5, .int .i64 (i : Int))], mms []⟩)
    (fun i => i ≤ l.length) (fun i => l.length - i) 0 (have hW := @encEs_stb; stWk) (Nat.zero_le _) ?_
  intro i hi
  unfold t_k23_l1
  by_cases hlt : i < l.length
  · obtain ⟨r, hr⟩ : ∃ r, l[i]? = some r := ⟨l[i], by simp [hlt]⟩
    have g1 := encEs_get hr
    (focus (have hF := (And.intro @e1 @g1); (repeat' (first | refine go1 (k:=?_) | with_reducible refine Ny.of ?_ ?_ | (refine Hyp.of ?_; intro hc; (try simp only [hc]); (try simp only [Bh] at hc)))); all_goals clear hF))
    (refine Fin.nextW (i + 1) ?_ (have hW := @encEs_stb; stWk); (try dsimp only))
    omega
  · (focus (have hF := @e1; (repeat' (first | refine go1 (k:=?_) | with_reducible refine Ny.of ?_ ?_ | (refine Hyp.of ?_; intro hc; (try simp only [hc]); (try simp only [Bh] at hc)))); all_goals clear hF))
    exact Fin.tmp' rfl rfl

def Wkn (x y : AVal) : Prop := ∀ (D : Nat → Nat → Prop) (G : Gh) (B : Nat → Prop) (w : World) (v : Value), VR D G B w x v → VR D G B w y v
theorem Wkn.refl (x : AVal) : Wkn x x := fun _ _ _ _ _ h => h
theorem Wkn.nil (sz : Nat) : Wkn .nil (.sl sz []) := fun D G B w v h => by
  cases h
  exact .slnil sz
def Wkns : List AVal → List AVal → Prop
  | [], [] => True
  | a :: l, b :: m => Wkn a b ∧ Wkns l m
  | _, _ => False
theorem Wkns.len : ∀ {l m : List AVal}, Wkns l m → l.length = m.length
  | [], [], _ => rfl
  | a :: l, b :: m, h => by rw [List.length_cons, List.length_cons, Wkns.len h.2]
  | [], _ :: _, h => h.elim
  | _ :: _, [], h => h.elim
theorem Wkns.get : ∀ {l m : List AVal}, Wkns l m → ∀ (i : Nat) (y : AVal), m[i]? = some y → ∃ x, l[i]? = some x ∧ Wkn x y
  | [], [], _, i, y, h => by simp at h
  | a :: l, b :: m, hw, 0, y, h => by
    simp only [List.getElem?_cons_zero, Option.some.injEq] at h
    subst h
    exact ⟨a, rfl, hw.1⟩
  | a :: l, b :: m, hw, i + 1, y, h => by
    obtain ⟨x, hx, hxy⟩ := Wkns.get hw.2 i y (by simpa using h)
    exact ⟨x, by simpa using hx, hxy⟩
  | [], _ :: _, h, _, _, _ => h.elim
  | _ :: _, [], h, _, _, _ => h.elim
theorem Wkns.refl : ∀ l : List AVal, Wkns l l
  | [] => trivial
  | a :: l => ⟨Wkn.refl a, Wkns.refl l⟩
theorem Wkn.agg {l m : List AVal} (h : Wkns l m) : Wkn (.agg l) (.agg m) := fun D G B w v hv => by
  cases hv with
  | agg cs vs hl hh =>
    refine .agg m vs (by rw [hl, h.len]) fun n x u hx hu => ?_
    obtain ⟨y, hy, hyx⟩ := h.get n x hx
    exact hyx D G B w u (hh n y u hy hu)
theorem Ev.wks {P : Program} {f : FuncId} {l m : List AVal} {out : Out} (he : Ev P f m out) (h : Wkns l m) : Ev P f l out :=
  ⟨he.1, fun B w vs G ho hs hv hb => he.2 B w vs G ho (by rw [hs, h.len]) (fun i y v hy hvv => by
    obtain ⟨x, hx, hxy⟩ := h.get i y hy
    exact hxy _ G B w v (hv i x v hx hvv)) hb⟩

def r_k11_1 : List SOp := [⟨some 0,.assign (.const (.bool false)),none⟩]
instance : Live r_k11_1 := ⟨[]⟩
def r_k11_2 : List SOp := [⟨some 6,.buildSlice 24 3 #[(0,.const (.int .i64 0)),(1,.const (.int .i64 0)),(2,.const (.int .i64 0))],none⟩,⟨some 7,.build 89 #[(0,.const (.int .i64 0)),(1,.const (.int .i64 1)),(2,.const (.int .i64 2))],none⟩,⟨some 8,.buildSlice 25 1 #[(0,.tmp 7)],none⟩,⟨some 9,.build 27 #[(0,.tmp 6),(1,.tmp 8)],none⟩,⟨some 10,.build 39 #[(0,.const (.string ⟨#[66]⟩)),(1,.tmp 9)],none⟩,⟨some 11,.build 27 #[],none⟩,⟨some 12,.build 39 #[(0,.const (.string ⟨#[65]⟩)),(1,.tmp 11)],none⟩,⟨some 13,.buildSlice 22 2 #[(0,.tmp 10),(1,.tmp 12)],none⟩,⟨some 1,.assign (.tmp 13),none⟩]
instance : Live r_k11_2 := ⟨[]⟩
def r_k11_3 : List SOp := [⟨some 15,.move (.tmp 1),none⟩,⟨some 16,.call ⟨.value (.func 12),#[.tmp 15],#[22]⟩,none⟩,⟨some 14,.move (.tmp 16),none⟩,⟨some 17,.extract (.tmp 14) 0,none⟩,⟨some 18,.extract (.tmp 14) 1,none⟩,⟨some 2,.assign (.tmp 17),none⟩,⟨some 3,.assign (.tmp 18),none⟩]
instance : Live r_k11_3 := ⟨[1]⟩
def r_k11_4 : List SOp := [⟨some 19,.move (.tmp 3),none⟩,⟨some 20,.binOp .neq 32 (.tmp 19) (.const (.int .i64 0)) 32,none⟩,⟨some 21,.move (.tmp 20),none⟩,⟨some 22,.move (.tmp 2),some ((some 21),false)⟩,⟨some 23,.buildSlice 24 1 #[(0,.const (.int .i64 2))],some ((some 21),false)⟩,⟨some 24,.build 27 #[(0,.tmp 23)],some ((some 21),false)⟩,⟨some 25,.build 39 #[(0,.const (.string ⟨#[66]⟩)),(1,.tmp 24)],some ((some 21),false)⟩,⟨some 26,.buildSlice 22 1 #[(0,.tmp 25)],some ((some 21),false)⟩,⟨some 27,.call ⟨.value (.func 16),#[.tmp 22,.tmp 26],#[22,22]⟩,some ((some 21),false)⟩,⟨some 28,.unOp .not 4 (.tmp 27),some ((some 21),false)⟩,⟨some 29,.pick (.tmp 21) (.const (.bool true)) (.tmp 28),none⟩]
instance : Live r_k11_4 := ⟨[2,3]⟩
def r_k11_5 : List SOp := [⟨some 0,.assign (.const (.bool false)),none⟩]
instance : Live r_k11_5 := ⟨[]⟩
def r_k11_6 : List SOp := [⟨some 30,.build 47 #[(0,.const (.int .i64 0)),(1,.const (.int .i64 2))],none⟩,⟨some 31,.build 49 #[(0,.tmp 30),(1,.const (.string ⟨#[65]⟩)),(2,.const (.int .i64 5))],none⟩,⟨some 32,.build 47 #[(0,.const (.int .i64 0)),(1,.const (.int .i64 3))],none⟩,⟨some 33,.build 49 #[(0,.tmp 32),(1,.const (.string ⟨#[66]⟩)),(2,.const (.int .i64 1))],none⟩,⟨some 34,.buildSlice 23 2 #[(0,.tmp 31),(1,.tmp 33)],none⟩,⟨some 4,.assign (.tmp 34),none⟩]
instance : Live r_k11_6 := ⟨[]⟩
def r_k11_7 : List SOp := [⟨some 36,.move (.tmp 4),none⟩,⟨some 37,.buildSlice 24 1 #[(0,.const (.int .i64 2))],none⟩,⟨some 38,.build 27 #[(0,.tmp 37)],none⟩,⟨some 39,.build 39 #[(0,.const (.string ⟨#[65]⟩)),(1,.tmp 38)],none⟩,⟨some 40,.buildSlice 22 1 #[(0,.tmp 39)],none⟩,⟨some 41,.call ⟨.value (.func 21),#[.tmp 36,.tmp 40],#[23,22]⟩,none⟩,⟨some 35,.move (.tmp 41),none⟩,⟨some 42,.extract (.tmp 35) 0,none⟩,⟨some 43,.extract (.tmp 35) 1,none⟩,⟨some 5,.assign (.tmp 42),none⟩,⟨some 3,.assign (.tmp 43),none⟩]
instance : Live r_k11_7 := ⟨[4]⟩
def r_k11_8 : List SOp := [⟨some 44,.move (.tmp 3),none⟩,⟨some 45,.binOp .eql 32 (.tmp 44) (.const (.int .i64 0)) 32,none⟩,⟨some 46,.move (.tmp 45),none⟩,⟨some 47,.move (.tmp 5),some ((some 46),true)⟩,⟨some 48,.move (.tmp 4),some ((some 46),true)⟩,⟨some 49,.slice 23 (.tmp 48) (some (.const (.int .i64 1))) none none,some ((some 46),true)⟩,⟨some 50,.call ⟨.value (.func 23),#[.tmp 47,.tmp 49],#[23,23]⟩,some ((some 46),true)⟩,⟨some 51,.pick (.tmp 46) (.tmp 50) (.const (.bool false)),none⟩,⟨some 52,.move (.tmp 51),none⟩,⟨some 53,.build 39 #[(0,.const (.string ⟨#[97]⟩))],some ((some 52),true)⟩,⟨some 54,.buildSlice 22 1 #[(0,.tmp 53)],some ((some 52),true)⟩,⟨some 55,.call ⟨.value (.func 14),#[.tmp 54],#[22]⟩,some ((some 52),true)⟩,⟨some 56,.binOp .eql 32 (.tmp 55) (.const (.int .i64 1)) 32,some ((some 52),true)⟩,⟨some 57,.pick (.tmp 52) (.tmp 56) (.const (.bool false)),none⟩,⟨some 0,.assign (.tmp 57),none⟩]
instance : Live r_k11_8 := ⟨[3,4,5]⟩
def t_k11 : SC :=
  (.seq (.ops false r_k11_1) (.seq (.ops false r_k11_2) (.seq (.ops false r_k11_3) (.seq (.seq (.ops false r_k11_4) (.cond (.tmp 29) (.seq (.ops false r_k11_5) .ret) .skip)) (.seq (.ops false r_k11_6) (.seq (.ops false r_k11_7) (.seq (.ops false r_k11_8) .ret)))))))
theorem it_k11 : FnIs Tryz.prog 11 58 [.tmp 0] t_k11 := ⟨Tryz.f11, _, Tryz.func11, rfl, rfl, rfl, rfl, by kernel_rfl⟩

theorem Wkn.sl {sz : Nat} {xs ys : List AVal} (hl : xs.length = ys.length) (hf : Wkns (flat xs) (flat ys)) (h1 : ∀ x ∈ flat ys, x.one = true) (h2 : ∀ x ∈ ys, x.cells.length = sz) : Wkn (.sl sz xs) (.sl sz ys) := fun D G B w v h => by
  cases h with
  | slnil =>
    have : ys = [] := List.length_eq_zero_iff.1 hl.symm
    subst this
    exact .slnil sz
  | slemp _ a cap =>
    have : ys = [] := List.length_eq_zero_iff.1 hl.symm
    subst this
    exact .slemp sz a cap
  | sl _ _ b off cap f hcap hB hone hsz hc hv =>
    have hne : flat ys ≠ [] → flat xs ≠ [] := fun h h' => h (List.length_eq_zero_iff.1 (by rw [← hf.len, h']; rfl))
    have hg := fun n y (hy : (flat ys)[n]? = some y) => hf.get n y hy
    rw [hl]
    refine .sl sz ys b off cap f (by omega) (fun h => hB (hne h)) h1 h2 (fun n y hy => ?_) (fun n y hy => ?_)
    · obtain ⟨x, hx, _⟩ := hg n y hy
      exact hc n x hx
    · obtain ⟨x, hx, hxy⟩ := hg n y hy
      exact hxy D G B w _ (hv n x hx)
def sB : ByteArray := ⟨#[66]⟩
def sA : ByteArray := ⟨#[65]⟩
def sa : ByteArray := ⟨#[97]⟩
def kp0 : Pst := ⟨[0, 0, 0], [(0, 1, 2)]⟩
def kp1 : Pst := ⟨[2], []⟩
theorem rows0 : (openT [⟨[], []⟩]).map normR = [[], [], [], [], [], [], [], [], [], [], [], [], [], [], [], []] := by
  have h : openT [⟨[], []⟩] = [[], [], [], [], [], [], [], [], [], [], [], [], [], [], [], []] := by decide
  rw [h]
  have n0 : normR [] = [] := normR_of_can Can.nil
  simp only [List.map_cons, List.map_nil, n0]
theorem rows1 : (openT [kp0]).map normR = [[(1, 2)], [], [], [], [], [], [], [], [], [], [], [], [], [], [], []] := by
  have h : openT [kp0] = [[(1, 0), (1, 2)], [(1, 0)], [(1, 0)], [], [], [], [], [], [], [], [], [], [], [], [], []] := by decide
  rw [h]
  have n0 : normR [] = [] := normR_of_can Can.nil
  have n1 : normR [(1, 0), (1, 2)] = [(1, 2)] := (normR_sorted (c := [(1, 2)]) (by decide) (by simp)).trans (by decide)
  have n2 : normR [(1, 0)] = [] := (normR_sorted (c := []) (by decide) (by simp)).trans (by decide)
  simp only [List.map_cons, List.map_nil, n0, n1, n2]
theorem rows2 : (openT [kp1]).map normR = [[(1, 2)], [], [], [], [], [], [], [], [], [], [], [], [], [], [], []] := by
  have h : openT [kp1] = [[(1, 2)], [], [], [], [], [], [], [], [], [], [], [], [], [], [], []] := by decide
  rw [h]
  have n0 : normR [] = [] := normR_of_can Can.nil
  have n1 : normR [(1, 2)] = [(1, 2)] := (normR_sorted (c := [(1, 2)]) (by decide) (by simp)).trans (by decide)
  simp only [List.map_cons, List.map_nil, n0, n1]
theorem kp0_norm : normP kp0 = kp1 := by unfold normP; rw [pastT_N, rows1]; rfl
theorem kp1_norm : normP kp1 = kp1 := by unfold normP; rw [pastT_N, rows2]; rfl
theorem kp0_size : sizeP kp0 = 2 := by
  unfold sizeP sizeTab
  simp only [getD_norm, rows1]
  rfl
theorem kp1_size : sizeP kp1 = 2 := by
  unfold sizeP sizeTab
  simp only [getD_norm, rows2]
  rfl
theorem kpe_size : sizeP ⟨[], []⟩ = 0 := by
  unfold sizeP sizeTab
  simp only [getD_norm, rows0]
  rfl
theorem kp1_can : isNormP kp1 = true := isNormP_iff.2 kp1_norm
theorem good_B : goodS sB = true := by decide +kernel
theorem good_A : goodS sA = true := by decide +kernel
theorem good_a : goodS sa = false := by decide +kernel
def rs0 : List Rec := [⟨sB, kp0⟩, ⟨sA, ⟨[], []⟩⟩]
def rs1 : List Rec := [⟨sB, kp1⟩]
def rs2 : List Rec := [⟨sA, kp1⟩]
def rs3 : List Rec := [⟨sa, ⟨[], []⟩⟩]
def en1 : Ent := ⟨0, 2, sA, 5⟩
def en2 : Ent := ⟨0, 3, sB, 1⟩
theorem kept0 : keptK rs0 = rs1 := by
  unfold keptK rs0 rs1
  simp [kp0_size, kpe_size, kp0_norm]
theorem ent1 : entErr en1 = 0 := by unfold entErr; simp [en1, good_A]
theorem ent2 : entErr en2 = 0 := by unfold entErr; simp [en2, good_B]
theorem form_es : formE [en1, en2] = true := formE_true ⟨fun i e h => by
    match i with
    | 0 => simp at h; subst h; exact ent1
    | 1 => simp at h; subst h; exact ent2
    | i + 2 => simp at h, fun i a b h h' => by
    match i with
    | 0 => simp at h h'; subst h; subst h'; decide
    | i + 1 => simp at h'⟩
theorem form_rs2 : formK rs2 = true := formK_true ⟨fun i r h => by
    match i with
    | 0 => simp [rs2] at h; subst h; unfold recErr; simp [good_A, kp1_can, kp1_size]
    | i + 1 => simp [rs2] at h, fun i a b h h' => by simp [rs2] at h'⟩
theorem form_rs3 : formK rs3 = false := formK_false fun h => by
  have := h.1 0 _ rfl
  unfold recErr at this
  rw [good_a] at this
  revert this
  decide
theorem left_es : leftE rs2 [en1, en2] = [en2] := by
  have h1 : barsK rs2 en1 = 1 := by decide +kernel
  have h2 : barsK rs2 en2 = 0 := by decide +kernel
  unfold leftE
  simp [h1, h2]
theorem ev_k11 : Ev (En Tryz.prog rfl).P 11 [] (.ret (.bool true)) := by
  refine Ev.of_body it_k11 (by simp) (Run.start ?_)
  unfold t_k11
  have hS := stbK
  have c1 := ev_k59 rs0 (by decide) (by decide) (fun r hr => by simp [rs0] at hr; rcases hr with rfl | rfl; exact .inr good_B; exact .inr good_A) (by rw [kept0]; decide)
  rw [kept0] at c1
  replace c1 : Ev (En Tryz.prog rfl).P 12 [.sl 3 [.agg [.str sB, .sl 1 (encIs [0, 0, 0]), .sl 3 (encSs [(0, 1, 2)])], .agg [.str sA, .nil, .nil]]] _ := c1.wks ⟨Wkn.sl rfl ⟨Wkn.refl _, Wkn.refl _, Wkn.refl _, Wkn.refl _, Wkn.nil 1, Wkn.nil 3, trivial⟩ (by decide) (by decide), trivial⟩
  have c2 := ev_k16 rs1 (by decide) (by decide)
  replace c2 : Ev (En Tryz.prog rfl).P 16 [.sl 3 (encKs rs1), .sl 3 [.agg [.str sB, .sl 1 (encIs [2]), .nil]]] _ := c2.wks ⟨Wkn.refl _, Wkn.sl rfl ⟨Wkn.refl _, Wkn.refl _, Wkn.nil 3, trivial⟩ (by decide) (by decide), trivial⟩
  have c3 := ev_k21 [en1, en2] rs2 (by decide) (by decide)
  rw [if_pos ⟨form_es, form_rs2⟩, if_pos ⟨form_es, form_rs2⟩, left_es] at c3
  replace c3 : Ev (En Tryz.prog rfl).P 21 [.sl 4 (encEs [en1, en2]), .sl 3 [.agg [.str sA, .sl 1 (encIs [2]), .nil]]] _ := c3.wks ⟨Wkn.refl _, Wkn.sl rfl ⟨Wkn.refl _, Wkn.refl _, Wkn.nil 3, trivial⟩ (by decide) (by decide), trivial⟩
  have c4 := ev_k23 [en2] (by decide)
  have c5 := ev_k14 rs3 (by decide)
  rw [form_rs3] at c5
  replace c5 : Ev (En Tryz.prog rfl).P 14 [.sl 3 [.agg [.str sa, .nil, .nil]]] _ := c5.wks ⟨Wkn.sl rfl ⟨Wkn.refl _, Wkn.nil 1, Wkn.nil 3, trivial⟩ (by decide) (by decide), trivial⟩
  (focus (have hF := True.intro; (repeat' (first | refine go1 (k:=?_) | with_reducible refine Ny.of ?_ ?_ | (refine Hyp.of ?_; intro hc; (try simp only [hc]); (try simp only [Bh] at hc)))); all_goals clear hF))
  refine stCall [.sl 3 [.agg [.str sB, .sl 1 (encIs [0, 0, 0]), .sl 3 (encSs [(0, 1, 2)])], .agg [.str sA, .nil, .nil]]] (he := c1) (k:=?_)
  (focus (have hF := True.intro; (repeat' (first | refine go1 (k:=?_) | with_reducible refine Ny.of ?_ ?_ | (refine Hyp.of ?_; intro hc; (try simp only [hc]); (try simp only [Bh] at hc)))); all_goals clear hF))
  refine stCall [.sl 3 (encKs rs1), .sl 3 [.agg [.str sB, .sl 1 (encIs [2]), .nil]]] (he := c2) (k:=?_)
  (focus (have hF := True.intro; (repeat' (first | refine go1 (k:=?_) | with_reducible refine Ny.of ?_ ?_ | (refine Hyp.of ?_; intro hc; (try simp only [hc]); (try simp only [Bh] at hc)))); all_goals clear hF))
  refine stCall [.sl 4 (encEs [en1, en2]), .sl 3 [.agg [.str sA, .sl 1 (encIs [2]), .nil]]] (he := c3) (k:=?_)
  (focus (have hF := True.intro; (repeat' (first | refine go1 (k:=?_) | with_reducible refine Ny.of ?_ ?_ | (refine Hyp.of ?_; intro hc; (try simp only [hc]); (try simp only [Bh] at hc)))); all_goals clear hF))
  refine stCall [.sl 4 (encEs [en2]), .sl 4 (encEs [en2])] (he := c4) (k:=?_)
  (focus (have hF := True.intro; (repeat' (first | refine go1 (k:=?_) | with_reducible refine Ny.of ?_ ?_ | (refine Hyp.of ?_; intro hc; (try simp only [hc]); (try simp only [Bh] at hc)))); all_goals clear hF))
  refine stCall [.sl 3 [.agg [.str sa, .nil, .nil]]] (he := c5) (k:=?_)
  (focus (have hF := True.intro; (repeat' (first | refine go1 (k:=?_) | with_reducible refine Ny.of ?_ ?_ | (refine Hyp.of ?_; intro hc; (try simp only [hc]); (try simp only [Bh] at hc)))); all_goals clear hF))
  exact Fin.tmp' rfl rfl

theorem cells_str : Tryz.prog.cellsOf 9 = 1 := by kernel_rfl
theorem cells_Rec : Tryz.prog.cellsOf 39 = 3 := by kernel_rfl
theorem cells_Ent : Tryz.prog.cellsOf 49 = 4 := by kernel_rfl
theorem cells_recs : Tryz.prog.cellsOf 22 = 1 := by kernel_rfl
theorem cells_ents : Tryz.prog.cellsOf 23 = 1 := by kernel_rfl
theorem op_str : Opens Tryz.prog 9 ByteArray (fun _ => True) (fun s => [.str s]) (fun s => s.size + 1) := Opens.string Tryz.underlying9
def okK (r : Rec) : Prop := okP r.past
def cellsK (r : Rec) : List AVal := [.str r.sku, .sl 1 (encIs r.past.vec), .sl 3 (encSs r.past.cloud)]
theorem op_Rec : Opens Tryz.prog 39 Rec okK cellsK wtK :=
  (Opens.struct Tryz.underlying39 cells_Rec (OpensF.cons (k := 1) op_str (fun _ => rfl) cells_str rfl (OpensF.cons (k := 2) op_Past (fun _ => rfl) cells_Past rfl (OpensF.nil _)))).map
    (fun x => ⟨x.1, x.2.1⟩) (fun x h => h.2.1) (fun _ => rfl) (fun x => by show wt x.2.1 + 1 ≤ x.1.size + 1 + (wt x.2.1 + 0) + 1; omega)
theorem op_recs : Opens Tryz.prog 22 (List Rec) (fun l => ∀ x ∈ l, okK x) (fun l => [.sl 3 (encKs l)]) (wtL wtK) :=
  Opens.slice (mk := encK) Tryz.underlying22 op_Rec cells_Rec (by decide) (fun _ => rfl) (fun _ => rfl) (fun x y hy => by simp [cellsK] at hy; rcases hy with rfl | rfl | rfl <;> rfl)
def okE (e : Ent) : Prop := True
def cellsE (e : Ent) : List AVal := [.int .i64 e.rep, .int .i64 e.num, .str e.sku, .int .i64 e.qty]
theorem op_Ent : Opens Tryz.prog 49 Ent okE cellsE (fun _ => 1) :=
  (Opens.struct Tryz.underlying49 cells_Ent (OpensF.cons (k := 2) op_Dot (fun _ => rfl) cells_Dot rfl (OpensF.cons (k := 1) op_str (fun _ => rfl) cells_str rfl (OpensF.cons (k := 1) op_int (fun _ => rfl) cells_int rfl (OpensF.nil _))))).map
    (fun x => ⟨x.1.1, x.1.2, x.2.1, x.2.2.1⟩) (fun x h => trivial) (fun _ => rfl) (fun _ => Nat.le_add_left _ _)
theorem op_ents : Opens Tryz.prog 23 (List Ent) (fun l => ∀ x ∈ l, okE x) (fun l => [.sl 4 (encEs l)]) (wtL fun _ => 1) :=
  Opens.slice (mk := encE) Tryz.underlying23 op_Ent cells_Ent (by decide) (fun _ => rfl) (fun _ => rfl) (fun x y hy => by simp [cellsE] at hy; rcases hy with rfl | rfl | rfl | rfl <;> rfl)
structure CasK where
  r : List Rec
  q : List Rec
  a : List Ent
  b : List Ent
  p : Pst
  o : Pst
def cellsX (x : CasK) : List AVal := [.sl 3 (encKs x.r), .sl 3 (encKs x.q), .sl 4 (encEs x.a), .sl 4 (encEs x.b), .sl 1 (encIs x.p.vec), .sl 3 (encSs x.p.cloud), .sl 1 (encIs x.o.vec), .sl 3 (encSs x.o.cloud)]
def encX (x : CasK) : AVal := .agg [.sl 3 (encKs x.r), .sl 3 (encKs x.q), .sl 4 (encEs x.a), .sl 4 (encEs x.b), .sl 1 (encIs x.p.vec), .sl 3 (encSs x.p.cloud), .sl 1 (encIs x.o.vec), .sl 3 (encSs x.o.cloud)]
def okX (x : CasK) : Prop := okP x.p ∧ okP x.o
def wtX (x : CasK) : Nat := wtKs x.r + wtKs x.q + x.a.length + x.b.length + wt x.p + wt x.o
theorem cells_CaseK : Tryz.prog.cellsOf 29 = 8 := by kernel_rfl
theorem op_CaseK : Opens Tryz.prog 29 CasK okX cellsX wtX :=
  (Opens.struct Tryz.underlying29 cells_CaseK (OpensF.cons (k := 1) op_recs (fun _ => rfl) cells_recs rfl (OpensF.cons (k := 1) op_recs (fun _ => rfl) cells_recs rfl
    (OpensF.cons (k := 1) op_ents (fun _ => rfl) cells_ents rfl (OpensF.cons (k := 1) op_ents (fun _ => rfl) cells_ents rfl (OpensF.cons (k := 2) op_Past (fun _ => rfl) cells_Past rfl (OpensF.cons (k := 2) op_Past (fun _ => rfl) cells_Past rfl (OpensF.nil _)))))))).map
    (fun x => ⟨x.1, x.2.1, x.2.2.1, x.2.2.2.1, x.2.2.2.2.1, x.2.2.2.2.2.1⟩) (fun x h => ⟨h.2.2.2.2.1, h.2.2.2.2.2.1⟩) (fun _ => rfl)
    (fun x => by
      show wtKs x.1 + wtKs x.2.1 + x.2.2.1.length + x.2.2.2.1.length + wt x.2.2.2.2.1 + wt x.2.2.2.2.2.1 ≤ (wtKs x.1 + 1) + ((wtKs x.2.1 + 1) + (wtL (fun _ => 1) x.2.2.1 + (wtL (fun _ => 1) x.2.2.2.1 + (wt x.2.2.2.2.1 + (wt x.2.2.2.2.2.1 + 0))))) + 1
      rw [wtL_one, wtL_one]; omega)

def EvFresh (P : Program) (f : FuncId) (args : List AVal) (sz : Nat) (xs : List AVal) : Prop :=
  Callable P f ∧ ∀ (B : Nat → Prop) (w : World) (vs : Array Value) (G : Gh), (∀ b, G.ow b = none) → vs.size = args.length →
    (∀ (i : Nat) (x : AVal) (v : Value), args[i]? = some x → vs[i]? = some v → VR (Dm NoM) G B w x v) → (∀ b, B b → b < w.heap.size) →
    Calls P f vs w (fun e w' => ∃ (G' : Gh) (v : Value) (key : OKey), e = .returned v ∧ Adv G w G' w' ∧ (∀ b, G'.ow b ≠ none → b < w'.heap.size) ∧ OwnAt (Dm NoM) G' B w' key sz xs v)
def FrQ (t : Tmp) (sz : Nat) (xs : List AVal) : Ex → AS → Prop
  | .ret, s => ∃ k e, s.T t = .os k e ∧ s.M k = some (.arr e sz xs) ∧ stbs xs = true
  | _, _ => False
theorem EvFresh.of_body {E : Env} {f : FuncId} {n : Nat} {t : Tmp} {sc : SC} (hf : FnIs E.P f n [.tmp t] sc) {args xs : List AVal} {sz : Nat} (hl : args.length ≤ n)
    (h : AW E n sc (FrQ t sz xs) ⟨initT args, NoM⟩) : EvFresh E.P f args sz xs := by
  obtain ⟨fn, c, h1, h2, h3, rfl, hrs, h6⟩ := hf
  refine ⟨⟨fn, h1, h2, by simp [h3]⟩, fun B w vs G hG hsz hv hB => ?_⟩
  refine calls_of_wp h1 h3 ?_
  have hR : Rel fn.ntmps B G ⟨initT args, NoM⟩ { tmps := vs ++ Array.replicate (fn.ntmps - vs.size) undef, defers := [] } w := by
    refine ⟨by simp; omega, rfl, fun t => ?_, fun k blk hk => by simp [NoM] at hk, fun b hb => ⟨hB b hb, hG b⟩, fun b hb => absurd (hG b) hb⟩
    simp only [initT]
    cases ht : args[t]? with
    | none => exact .undef _
    | some x =>
      have hlt : t < vs.size := by
        rw [hsz]
        rcases Nat.lt_or_ge t args.length with h' | h'
        · exact h'
        · rw [List.getElem?_eq_none h'] at ht; cases ht
      have : (vs ++ Array.replicate (fn.ntmps - vs.size) undef).getD t undef = vs[t] := by
        rw [Array.getD_eq_getD_getElem?, Array.getElem?_append_left hlt]
        simp [hlt]
      simp only [Option.getD_some, this]
      exact hv t x _ ht (by simp [hlt])
  refine h c h6 B G _ w hR _ fun e s a' w' G' hA hR' hq => ?_
  cases e with
  | normal => exact hq.elim
  | exit id => exact hq.elim
  | pan x => exact hq.elim
  | ret =>
    obtain ⟨k, e, q1, q2, q3⟩ := hq
    have hx := hR'.temps t
    rw [q1] at hx
    have e1 : a'.tmps.getD t undef = G'.hd k e := by generalize a'.tmps.getD t undef = q at hx; cases hx with | os _ _ _ v hv => exact hv
    have hb : OwnAt (Dm s.M) G' B w' (.arr k) sz xs (G'.hd k e) := hR'.mem k _ q2
    let G2 : Gh := { G' with ow := fun b => if G'.ow b = some (.arr k) then some (.arr k) else none }
    have g2 : ∀ b, G'.ow b = none → G2.ow b = none := fun b hb => by simp [G2, hb]
    refine ⟨hR'.defers, _, results_one hrs a'.tmps w', G2, G'.hd k e, .arr k, by rw [e1], ⟨hA.os, hA.tape, hA.output, hA.size, fun b hb ho => ⟨(hA.keep b hb ho).1, g2 b (hA.keep b hb ho).2⟩⟩, fun b hb' => hR'.ol b fun hn => hb' (g2 b hn), ?_⟩
    exact hb.trade (fun b hb ho => ⟨hb, by simp [G2, ho]⟩) fun x hx u hr => hr.stable (fun b _ hn ho => ⟨rfl, hn, g2 b ho⟩) (stbs_flat q3 x hx)
theorem callFresh_ok {P : Program} {n : Nat} {B : Nat → Prop} {G : Gh} {s : AS} {a : Act} {w : World} (h : Rel n B G s a w) {f : FuncId} {args xs : List AVal} {sz : Nat} {vs : Array Value} (hl : vs.size = args.length)
    (hv : ∀ (i : Nat) (x : AVal) (v : Value), args[i]? = some x → vs[i]? = some v → VR (Dm s.M) G B w x v) (hs : stbs (args.map (fz (fun _ => false) s.M)) = true) (he : EvFresh P f (args.map (fz (fun _ => false) s.M)) sz xs)
    {k : Nat} (hk : s.M k = none) {R : Ending → World → Prop}
    (hr : ∀ v' w' G', Adv G w G' w' → Rel n B G' ⟨s.T, upd s.M k (some (.arr 0 sz xs))⟩ a w' → VR (Dm (upd s.M k (some (.arr 0 sz xs)))) G' B w' (.os k 0) v' → R (.returned v') w') :
    Calls P f vs w R := by
  let B' : Nat → Prop := fun b => B b ∨ G.ow b ≠ none
  let G0 : Gh := { G with ow := fun _ => none }
  have hargs : ∀ (i : Nat) (x : AVal) (v : Value), (args.map (fz (fun _ => false) s.M))[i]? = some x → vs[i]? = some v → VR (Dm NoM) G0 B' w x v := by
    intro i x v hx hvi
    have hst := stbs_get hs hx
    rw [List.getElem?_map] at hx
    cases ha : args[i]? with
    | none => simp [ha] at hx
    | some y =>
      simp only [ha, Option.map_some, Option.some.injEq] at hx
      subst hx
      refine (fz_ok (K := fun _ => false) h.mem (hv i y v ha hvi)).stable (fun b _ hn ho => ?_) hst
      have ho' : G.ow b = none := by
        simp only [Gh.without] at ho
        cases hb : G.ow b with
        | none => rfl
        | some key => simp [hb] at ho
      exact ⟨rfl, by simp only [B', not_or]; exact ⟨hn, fun hc => hc ho'⟩, rfl⟩
  have hB' : ∀ b, B' b → b < w.heap.size := fun b hb => by
    rcases hb with hb | hb
    · exact (h.fr b hb).1
    · exact h.ol b hb
  refine (he.2 B' w vs G0 (fun _ => rfl) (by simpa using hl) hargs hB').mono fun e w' ⟨G', v, key, heq, hA, hol, hown⟩ => ?_
  subst heq
  have hsame : ∀ b', b' < w.heap.size → w'.heap[b']? = w.heap[b']? := fun b' hb => (hA.keep b' hb rfl).1
  have hnone : ∀ b', b' < w.heap.size → G'.ow b' = none := fun b' hb => (hA.keep b' hb rfl).2
  let ow1 : Nat → Option OKey := fun b' => if w.heap.size ≤ b' then (if G'.ow b' = some key then some (.arr k) else none) else G.ow b'
  let G1 : Gh := G.setHd k 0 v hown.one ow1
  have g1 : ∀ b', b' < w.heap.size → G1.ow b' = G.ow b' := fun b' hlt => if_neg (by omega)
  have g2 : ∀ b', w.heap.size ≤ b' → G1.ow b' = if G'.ow b' = some key then some (.arr k) else none := fun b' hge => if_pos hge
  have hA1 : Adv G w G1 w' := ⟨hA.os, hA.tape, hA.output, hA.size, fun b' hlt ho => ⟨hsame b' hlt, by rw [g1 b' hlt]; exact ho⟩⟩
  have hG := setHd_G (G := G) (v := v) (hv := hown.one) (ow := ow1) (Dm_none (M := s.M) (e := 0) hk)
  have hblk : OwnAt (Dm (upd s.M k (some (.arr 0 sz xs)))) G1 B w' (.arr k) sz xs v := by
    refine hown.trade (fun b hb ho => ?_) (fun x _ u hr => hr.mono (fun _ _ h => absurd h NoM_D) (fun _ _ h => absurd h NoM_D) fun b' hlt hn ho => ?_)
    · have hge : w.heap.size ≤ b := by
        rcases Nat.lt_or_ge b w.heap.size with h' | h'
        · rw [hnone b h'] at ho; cases ho
        · exact h'
      exact ⟨fun hB => hb (.inl hB), by rw [g2 b hge, if_pos ho]⟩
    · simp only [B', not_or, ne_eq, Classical.not_not] at hn
      refine ⟨rfl, hn.1, ?_⟩
      rcases Nat.lt_or_ge b' w.heap.size with h' | h'
      · rw [g1 b' h']; exact hn.2
      · rw [g2 b' h', ho, if_neg (by simp)]
  have hR1 : Rel n B G1 ⟨s.T, upd s.M k (some (.arr 0 sz xs))⟩ a w' := by
    refine h.update hA1 k (.arr 0 sz xs) (by rw [hk]; trivial) hG (fun b' key' hlt _ ho _ => ⟨hsame b' hlt, by rw [g1 b' hlt]; exact ho⟩) (fun b' hne => ?_) ?_
    · rcases Nat.lt_or_ge b' w.heap.size with h' | h'
      · exact Nat.lt_of_lt_of_le h' hA.size
      · rw [g2 b' h'] at hne
        split at hne
        · rename_i hq; exact hol b' (by rw [hq]; simp)
        · exact absurd rfl hne
    · show OwnAt _ G1 B w' (.arr k) sz xs (G1.hd k 0)
      rw [show G1.hd k 0 = v from setHd_hd]
      exact hblk
  exact hr v w' G1 hA1 hR1 (.os k 0 (by simp [Dm, upd_same]) v setHd_hd.symm)
theorem hook_fresh {P : Program} {s : AS} {x : Operand} {args : Array Operand} {ts : Array TypeId} {f : FuncId} {caps l xs : List AVal} {sz : Nat} (k : Nat) (hf : ev s.T x = .fn f caps)
    (hl : (evs s.T args.toList ++ caps).map (fz (fun _ => false) s.M) = l) (hst : stbs l = true) (he : EvFresh P f l sz xs) (hk : s.M k = none) :
    Hook P s (.call ⟨.value x, args, ts⟩) (fun v M' => v = .os k 0 ∧ M' = upd s.M k (some (.arr 0 sz xs))) := by
  intro n B G a w h o ho K Q hK
  subst hl
  obtain ⟨fn, hfn, hnm, hbd⟩ := he.1.ok
  have hx := h.ev x
  rw [hf] at hx
  generalize hxv : a.eval x = xv at hx
  cases hx with
  | fn _ _ vs hl hh =>
    have hrun : (execOp a.eval o).run P w = .ok (.enter f (args.map a.eval ++ vs)) w := by
      unfold execOp
      rw [ho]
      have h1 : (fn.name = "runtime.NumGoroutine") = False := by simpa using hnm
      have h2 : (fn.body = none) = False := by simp only [eq_iff_iff, iff_false]; intro hn; rw [hn] at hbd; simp at hbd
      simp [resolve, hxv, Deferred.ofValue, invoke, callFunc, hfn, h1, h2]
    unfold Oper.wp
    rw [hrun]
    simp only [Oper.upon]
    obtain ⟨q1, q2⟩ := args_ok h args
    refine callFresh_ok h (args := evs s.T args.toList ++ caps) (by simp [q1, hl]) (fun i y u hy hu => ?_) hst he hk (fun v' w' G' hA hR hV => hK _ v' _ w' G' ⟨rfl, rfl⟩ hA hR hV)
    rcases Nat.lt_or_ge i (evs s.T args.toList).length with hlt | hge
    · rw [List.getElem?_append_left hlt] at hy
      rw [Array.getElem?_append_left (by rw [q1]; exact hlt)] at hu
      obtain ⟨u', hu', hr'⟩ := q2 i y hy
      rw [hu] at hu'
      exact (Option.some.inj hu') ▸ hr'
    · rw [List.getElem?_append_right hge] at hy
      rw [Array.getElem?_append_right (by rw [q1]; exact hge), q1] at hu
      exact hh _ y u hy hu
theorem hook_take {P : Program} {TE : TyE} (hT : TyOk P TE) {s : AS} {t el : TypeId} {i ei : TyI} {x y : Operand} {k e sz : Nat} {xs : List AVal} {kk : IntKind} {m : Nat} (hx : ev s.T x = .os k e) (hk : s.M k = some (.arr e sz xs)) (hy : ev s.T y = .int kk (m : Int))
    (hm : m ≤ xs.length) (ht : TE t = some i) (htd : i.td = .slice el) (he : TE el = some ei) (hei : ei.size = sz) :
    Hook P s (.slice t x none (some y) none) (fun v M' => v = .os k (e + 1) ∧ M' = upd s.M k (some (.arr (e + 1) sz (xs.take m)))) := by
  intro n B G a w h o ho K Q hK
  have qx := h.ev x
  have qy := h.ev y
  rw [hx] at qx
  rw [hy] at qy
  generalize hxv : a.eval x = xv at qx
  generalize hyv : a.eval y = yv at qy
  have hO : OVR (Dm s.M) G B w (some (.int kk (m : Int))) (some yv) := qy
  have hO0 : OVR (Dm s.M) G B w none none := trivial
  have hb1 : boundA none 0 = some 0 := rfl
  have hb2 : ∀ d, boundA (some (.int kk (m : Int))) d = some m := fun d => by simp [boundA]
  have fin : ∀ (v' : Value) (G' : Gh), (Instr.sliceAt t xv none (some yv) none).run P w = .ok v' w → Adv G w G' w → Rel n B G' ⟨s.T, upd s.M k (some (.arr (e + 1) sz (xs.take m)))⟩ a w → v' = G'.hd k (e + 1) → o.wp P a w K Q := by
    intro v' G' hrun hA hR hv
    have : (execOp a.eval o).run P w = .ok (.value v') w := by
      unfold execOp
      rw [ho]
      simp [hxv, hyv, hrun]
    unfold Oper.wp
    rw [this]
    exact hK (.os k (e + 1)) v' _ w G' ⟨rfl, rfl⟩ hA hR (.os k (e + 1) (by simp [Dm, upd_same]) v' hv)
  cases qx with
  | os _ _ hD _ hvv =>
    have hown := h.mem k _ hk
    simp only [BlkRel] at hown
    rcases hown with ⟨hn, rfl⟩ | ⟨b, o', cap, c, el', q1, q2, q3, q4, q5, q6, q7, q7', q8⟩
    · obtain rfl : m = 0 := by simpa using hm
      have := bounds_ok (P := P) hO0 hO (isS := true) (len := 0) (cap := 0) hb1 (hb2 0) (Nat.le_refl _) (Nat.le_refl _)
      obtain ⟨G', hA, hR, hh⟩ := h.nil_arr (k := k) (e := e + 1) (.inr ⟨e, sz, _, hk, rfl⟩) sz
      refine fin (.slice none 0 0) G' ?_ hA (by simpa using hR) hh.symm
      rw [hvv, hn, run_sliceExpr hT ht htd he this]
      simp
    · have := bounds_ok (P := P) hO0 hO (isS := true) (len := xs.length) (cap := cap) hb1 (hb2 _) (Nat.zero_le _) (by omega)
      have hself : w.setRow b c = w := setRow_self w b c el' (0, 0) q5
      obtain ⟨G', hA, hR, hh⟩ := h.set_arr hk q1 (e + 1) o' (.inl rfl) (xs.take m) (fun h => by omega) cap (by simp; omega) (fun h => by omega) q5 q3 c q6
        (fun z hz => q7 z (List.mem_of_mem_take hz)) (fun z hz => by rw [flat_take q7] at hz; exact q7' z (List.mem_of_mem_take hz)) (fun i x hx => by
          rw [flat_take q7, List.getElem?_take] at hx
          split at hx
          · exact q8 i x hx
          · cases hx)
      rw [hself] at hA hR
      refine fin _ G' ?_ hA hR hh.symm
      rw [hvv, q1, run_sliceExpr hT ht htd he this, List.length_take, Nat.min_eq_left hm]
      by_cases hc : cap = 0
      · simp [hc]
      · rw [if_neg hc]
        simp [Addr_add]
theorem run_app_zeros {P : Program} {t1 t2 e ty : TypeId} {ik : IntKind} {nm : Bool} (hu : P.underlying t1 = some (.slice e)) (hu2 : P.underlying t2 = some (.int ik)) {inf : TypeInfo} (hi : P.info? e = some inf) {z : Value} (hz : inf.zero = some z) {w : World} {m : Nat} (h0 : 0 < m) (hsz : 0 < inf.size)
    (hm : m ≤ 1000000000) (hfit : m * inf.bytes ≤ 281474976710656) :
    (Builtin.append_ #[t1, t2] ty #[.slice none 0 0, .int .i64 (m : Int)]).run P w =
      .ok (.slice (some ⟨w.heap.size, 0, none⟩) m (grownCap w m 0 e)) (w.drew.alloc (.cells (Builtin.zeroCells z.cells m ++ Builtin.zeroCells z.cells (grownCap w m 0 e - m)) e)) := by
  have hw : IntKind.i64.wrap (m : Int) = (m : Int) := wrap_i64_id (by omega) (by omega)
  have hne : ¬ (m * inf.size = 0) := by
    intro h
    rcases Nat.mul_eq_zero.1 h with h | h <;> omega
  have hnx : Builtin.nextslicecap m 0 = m := by
    unfold Builtin.nextslicecap
    rw [if_pos (by omega)]
  have h48b : ¬ ((m : Int) * (inf.bytes : Int) > 281474976710656) := by
    have h1 : (m : Int) * (inf.bytes : Int) = ((m * inf.bytes : Nat) : Int) := (Int.natCast_mul m inf.bytes).symm
    rw [h1]
    omega
  have h48 : ¬ ((m : Int) * (inf.bytes : Int) > 2 ^ 48) := by
    rw [show (2 : Int) ^ 48 = 281474976710656 by decide]
    exact h48b
  have hmax : IntKind.i64.max = 9223372036854775807 := by decide
  have h63 : ¬ ((m : Int) > IntKind.i64.max) := by rw [hmax]; omega
  have h49 : ¬ (281474976710656 < m * inf.bytes) := by omega
  simp [Builtin.append_, run_underlying hu, run_underlying hu2, sizeOf, typeInfo, zeroValue, hi, hz, asInt, asIntOf, hw, hne, hnx, h48, h48b, h63, h49, Question.forced, Builtin.firstCells, newRow, grownCap]
  rw [if_neg (by omega), if_neg (by omega), if_neg (by omega)]
theorem hook_zeros {P : Program} {TE : TyE} (hT : TyOk P TE) {s : AS} {t1 t2 el : TypeId} {i1 i2 ei : TyI} {ik : IntKind} {x y : Operand} {m : Nat} (d : Nat) (hx : ev s.T x = .nil) (hy : ev s.T y = .int .i64 (m : Int)) (h0 : 0 < m) (hm : m ≤ 1000000000)
    (ht1 : TE t1 = some i1) (hd1 : i1.td = .slice el) (ht2 : TE t2 = some i2) (hd2 : i2.td = .int ik) (he : TE el = some ei) (hok : ei.okElem = true) (hb : m * ei.bytes ≤ 281474976710656) (hd : s.M d = none) :
    Hook P s (.call ⟨.builtin .append, #[x, y], #[t1, t2]⟩) (fun v M' => v = .os d 0 ∧ M' = upd s.M d (some (.arr 0 ei.size (List.replicate m ei.zeroElem)))) := by
  intro n B G a w h o ho K Q hK
  have qx := h.ev x
  have qy := h.ev y
  rw [hx] at qx
  rw [hy] at qy
  generalize hxv : a.eval x = xv at qx
  generalize hyv : a.eval y = yv at qy
  cases qx
  cases qy
  obtain ⟨o1, o2, o3, o4⟩ := okElem_spec hT he hok
  obtain ⟨dd, inf, q1, q2, q3, q4, q5, q6, q7⟩ := hT el ei he
  have hu := under_slice hT ht1 hd1
  have hu2 : P.underlying t2 = some (.int ik) := by
    obtain ⟨d2, inf2, r1, r2, _⟩ := hT t2 i2 ht2
    rw [hd2] at r2
    cases d2 <;> simp [TD.of] at r2
    subst r2
    exact r1
  have hrun := run_app_zeros (P := P) (ty := o.type) (nm := true) hu hu2 q3 q6 (w := w) h0 (by rw [q4]; exact o1) hm (by rw [q5]; exact hb)
  have hzl : ei.zeroElem.cells.length = ei.size := by rw [o2, o3]
  have hzs : ∀ x ∈ List.replicate m ei.zeroElem, x.cells.length = ei.size := fun x hx => by rw [List.eq_of_mem_replicate hx]; exact hzl
  have hcap : m ≤ grownCap w m 0 el := grownCap_ge _ _ _ _
  have hz1 : (Builtin.zeroCells ei.zero.cells m).size = m * ei.size := by rw [size_zeroCells, q7]
  have hz2 : (Builtin.zeroCells ei.zero.cells (grownCap w m 0 el - m)).size = (grownCap w m 0 el - m) * ei.size := by rw [size_zeroCells, q7]
  have hfz : (flat (List.replicate m ei.zeroElem)).length = m * ei.size := by rw [flat_length hzs]; simp
  have hzr : ∀ (j : Nat) (x : AVal), (flat (List.replicate m ei.zeroElem))[j]? = some x → ∃ u, (Builtin.zeroCells ei.zero.cells m)[j]? = some u ∧ VR (Dm s.M) G B (w.drew) x u := by
    have := zero_row hT he (D := Dm s.M) (G := G) (B := B) (w := w.drew) o2 o1 m m (Nat.le_refl _)
    unfold Builtin.zeroCells
    rw [show m * ei.zero.cells.size = m * ei.size by rw [q7]]
    exact this
  obtain ⟨G', hA, hR, hh⟩ := (h.drawn (w.drawn + 1)).new_arr (k := d) (e := 0) (.inl hd) ei.size (grownCap w m 0 el) (List.replicate m ei.zeroElem) (Builtin.zeroCells ei.zero.cells m ++ Builtin.zeroCells ei.zero.cells (grownCap w m 0 el - m)) el
    (by simpa using hcap) (by rw [Array.size_append, hz1, hz2, ← Nat.add_mul]; exact Nat.mul_le_mul_right _ (by omega)) hzs
    (fun x hx => by
      obtain ⟨y, hy, hx⟩ := List.mem_flatMap.1 hx
      rw [List.eq_of_mem_replicate hy, o2] at hx
      exact o4 x hx)
    (fun i x hx => by
      obtain ⟨u, hu, hr⟩ := hzr i x hx
      have hlt : i < (Builtin.zeroCells ei.zero.cells m).size := by
        rcases Nat.lt_or_ge i (Builtin.zeroCells ei.zero.cells m).size with h' | h'
        · exact h'
        · rw [Array.getElem?_eq_none h'] at hu; cases hu
      exact ⟨u, by rw [Array.getElem?_append_left hlt]; exact hu, hr⟩)
  have hex : (execOp a.eval o).run P w = .ok (.value (.slice (some ⟨w.heap.size, 0, none⟩) m (grownCap w m 0 el))) (w.drew.alloc (.cells (Builtin.zeroCells ei.zero.cells m ++ Builtin.zeroCells ei.zero.cells (grownCap w m 0 el - m)) el)) := by
    have he : execOp a.eval o = builtin .append #[t1, t2] o.type (#[x, y].map fun | .const _ => true | _ => false) (#[x, y].map a.eval) := by
      unfold execOp
      rw [ho]
      rfl
    have hq : #[x, y].map a.eval = #[.slice none 0 0, .int .i64 (m : Int)] := by simp [hxv, hyv]
    have hb2 : builtin .append #[t1, t2] o.type (#[x, y].map fun | .const _ => true | _ => false) #[.slice none 0 0, .int .i64 (m : Int)] = (do pure (.value (← Builtin.append_ #[t1, t2] o.type #[.slice none 0 0, .int .i64 (m : Int)]))) := rfl
    rw [he, hq, hb2]
    simp [hrun]
  unfold Oper.wp
  rw [hex]
  refine hK (.os d 0) _ _ _ G' ⟨rfl, rfl⟩ ((Adv.drawn G w _).trans hA) hR (.os d 0 (by simp [Dm, upd_same]) _ ?_)
  rw [hh, List.length_replicate]
theorem hook_capnil {P : Program} {TE : TyE} (hT : TyOk P TE) {s : AS} {t el : TypeId} {i : TyI} {x : Operand} (hx : ev s.T x = .nil) (ht : TE t = some i) (hd : i.td = .slice el) :
    Hook P s (.call ⟨.builtin .cap, #[x], #[t]⟩) (fun v M' => v = .int .i64 0 ∧ M' = s.M) := by
  intro n B G a w h o ho K Q hK
  have qx := h.ev x
  rw [hx] at qx
  generalize hxv : a.eval x = xv at qx
  cases qx
  have hu := under_slice hT ht hd
  have hex : (execOp a.eval o).run P w = .ok (.value (.int .i64 0)) w := by
    have he : execOp a.eval o = builtin .cap #[t] o.type (#[x].map fun | .const _ => true | _ => false) (#[x].map a.eval) := by
      unfold execOp
      rw [ho]
      rfl
    have hq : #[x].map a.eval = #[.slice none 0 0] := by simp [hxv]
    have hb2 : builtin .cap #[t] o.type (#[x].map fun | .const _ => true | _ => false) #[.slice none 0 0] = (do pure (.value (← Builtin.cap_ #[t] o.type #[.slice none 0 0]))) := rfl
    rw [he, hq, hb2]
    simp [Builtin.cap_, run_underlying hu, goInt]
  unfold Oper.wp
  rw [hex]
  exact hK (.int .i64 0) _ s.M w G ⟨rfl, rfl⟩ (.refl G w) h (.int _ _)

section
open Go.Proofs Go.Shelf Go.RowKit Go.Lib Go.Sort
theorem cmpB_ng (a b : ByteArray) : cmpB b a = - cmpB a b := lexI_neg _ _
theorem cmpP_neg (p q : Pst) : cmpP q p = - cmpP p q := lexI_neg _ _
theorem cmpR_neg (a b : Rec) : cmpR b a = - cmpR a b := by
  unfold cmpR
  rw [cmpB_ng a.sku b.sku, cmpP_neg a.past b.past]
  by_cases h : cmpB a.sku b.sku = 0
  · rw [if_pos (by omega), if_pos h]
  · rw [if_neg (by omega), if_neg h]
theorem cmpR_self (a : Rec) : cmpR a a = 0 := by
  unfold cmpR
  rw [if_pos (cmpB_zero.2 rfl)]
  exact cmpP_zero.2 rfl
theorem cmpR_le {a b c : Rec} (h1 : cmpR a b ≤ 0) (h2 : cmpR b c ≤ 0) : cmpR a c ≤ 0 := by
  have s1 : cmpB a.sku b.sku ≤ 0 := by
    unfold cmpR at h1
    split at h1
    · omega
    · exact h1
  have s2 : cmpB b.sku c.sku ≤ 0 := by
    unfold cmpR at h2
    split at h2
    · omega
    · exact h2
  have s3 : cmpB a.sku c.sku ≤ 0 := lexI_trans s1 s2
  by_cases h : cmpB a.sku c.sku = 0
  · have e := cmpB_zero.1 h
    have s4 : cmpB a.sku b.sku = 0 := by
      have := cmpB_ng b.sku c.sku
      rw [← e] at this s2
      omega
    have s5 : cmpB b.sku c.sku = 0 := by rw [← cmpB_zero.1 s4]; exact h
    unfold cmpR at h1 h2 ⊢
    rw [if_pos s4] at h1
    rw [if_pos s5] at h2
    rw [if_pos h]
    exact lexI_trans h1 h2
  · unfold cmpR
    rw [if_neg h]
    exact s3
theorem cmpR_lt {a b c : Rec} (h1 : cmpR a b < 0) (h2 : cmpR b c < 0) : cmpR a c < 0 := by
  have h3 := cmpR_le (a := a) (b := b) (c := c) (by omega) (by omega)
  rcases Int.lt_or_eq_of_le h3 with h | h
  · exact h
  · have h4 := cmpR_le (a := b) (b := c) (c := a) (by omega) (by have := cmpR_neg a c; omega)
    have := cmpR_neg a b
    omega
theorem cmpR_SWO : SWO (ltOf cmpR) := by
  refine ⟨fun x => ?_, fun x y z h1 h2 => ?_, fun x y z h1 h2 => ?_⟩
  · unfold ltOf
    rw [cmpR_self]
    rfl
  · unfold ltOf at *
    simp only [decide_eq_true_eq] at *
    exact cmpR_lt h1 h2
  · unfold ltOf at *
    simp only [decide_eq_false_iff_not] at *
    have := cmpR_le (a := z) (b := y) (c := x) (by have := cmpR_neg y z; omega) (by have := cmpR_neg x y; omega)
    have := cmpR_neg x z
    omega
def CanR (r : Rec) : Prop := normP r.past = r.past
theorem cmpR_eq {a b : Rec} (ha : CanR a) (hb : CanR b) (h : cmpR a b = 0) : a = b := by
  unfold cmpR at h
  split at h
  · rename_i hs
    have e1 := cmpB_zero.1 hs
    have e2 := cmpP_zero.1 h
    unfold CanR at ha hb
    rw [ha, hb] at e2
    cases a; cases b
    simp only at e1 e2
    rw [e1, e2]
  · rename_i hs
    exact absurd h hs
def SrtR (l : List Rec) : Prop := l.Pairwise fun a b => cmpR a b < 0
theorem SrtR.ext : ∀ {l m : List Rec}, SrtR l → SrtR m → (∀ x, x ∈ l ↔ x ∈ m) → l = m
  | [], [], _, _, _ => rfl
  | [], y :: m, _, _, h => absurd ((h y).2 (by simp)) (by simp)
  | x :: l, [], _, _, h => absurd ((h x).1 (by simp)) (by simp)
  | x :: l, y :: m, hl, hm, h => by
    unfold SrtR at hl hm
    rw [List.pairwise_cons] at hl hm
    have irr : ∀ a : Rec, ¬ cmpR a a < 0 := fun a => by rw [cmpR_self]; omega
    have e : x = y := by
      rcases List.mem_cons.1 ((h x).1 (by simp)) with e | e
      · exact e
      · rcases List.mem_cons.1 ((h y).2 (by simp)) with e' | e'
        · exact e'.symm
        · have h1 := hm.1 x e
          have h2 := hl.1 y e'
          exact absurd (cmpR_lt h1 h2) (irr _)
    subst e
    have : l = m := by
      refine SrtR.ext hl.2 hm.2 fun z => ⟨fun hz => ?_, fun hz => ?_⟩
      · rcases List.mem_cons.1 ((h z).1 (by simp [hz])) with e | e
        · subst e; exact absurd (hl.1 z hz) (irr z)
        · exact e
      · rcases List.mem_cons.1 ((h z).2 (by simp [hz])) with e | e
        · subst e; exact absurd (hm.1 z hz) (irr z)
        · exact e
    rw [this]
def insR (x : Rec) : List Rec → List Rec
  | [] => [x]
  | y :: l => if cmpR x y < 0 then x :: y :: l else if cmpR x y = 0 then y :: l else y :: insR x l
def ordR : List Rec → List Rec
  | [] => []
  | x :: l => insR x (ordR l)
theorem insR_mem {x : Rec} : ∀ {l : List Rec} {z : Rec}, z ∈ insR x l → z = x ∨ z ∈ l
  | [], z, h => by simp only [insR, List.mem_singleton] at h; exact .inl h
  | y :: l, z, h => by
    unfold insR at h
    split at h
    · simpa using h
    · split at h
      · exact .inr h
      · rcases List.mem_cons.1 h with h | h
        · exact .inr (by simp [h])
        · rcases insR_mem h with h | h
          · exact .inl h
          · exact .inr (by simp [h])
theorem insR_in {x : Rec} (hx : CanR x) : ∀ {l : List Rec}, (∀ y ∈ l, CanR y) → ∀ z, (z = x ∨ z ∈ l) → z ∈ insR x l
  | [], _, z, h => by
    rcases h with h | h
    · simp [insR, h]
    · cases h
  | y :: l, hl, z, h => by
    unfold insR
    split
    · rcases h with h | h
      · simp [h]
      · exact List.mem_cons_of_mem _ h
    · split
      · rename_i h0
        rcases h with h | h
        · rw [h, cmpR_eq hx (hl y (by simp)) h0]; simp
        · exact h
      · rcases h with h | h
        · exact List.mem_cons_of_mem _ (insR_in hx (fun y hy => hl y (by simp [hy])) z (.inl h))
        · rcases List.mem_cons.1 h with h | h
          · simp [h]
          · exact List.mem_cons_of_mem _ (insR_in hx (fun y hy => hl y (by simp [hy])) z (.inr h))
theorem insR_srt {x : Rec} : ∀ {l : List Rec}, SrtR l → SrtR (insR x l)
  | [], _ => by simp [insR, SrtR]
  | y :: l, h => by
    unfold SrtR at h
    rw [List.pairwise_cons] at h
    unfold insR
    split
    · rename_i hxy
      unfold SrtR
      rw [List.pairwise_cons, List.pairwise_cons]
      refine ⟨fun z hz => ?_, h⟩
      rcases List.mem_cons.1 hz with e | e
      · rw [e]; exact hxy
      · exact cmpR_lt hxy (h.1 z e)
    · split
      · unfold SrtR
        rw [List.pairwise_cons]
        exact h
      · rename_i h1 h2
        unfold SrtR
        rw [List.pairwise_cons]
        refine ⟨fun z hz => ?_, insR_srt h.2⟩
        rcases insR_mem hz with e | e
        · rw [e]; have := cmpR_neg x y; omega
        · exact h.1 z e
theorem ordR_srt : ∀ l : List Rec, SrtR (ordR l)
  | [] => List.Pairwise.nil
  | x :: l => insR_srt (ordR_srt l)
theorem ordR_sub : ∀ {l : List Rec} {z : Rec}, z ∈ ordR l → z ∈ l
  | [], z, h => by cases h
  | x :: l, z, h => by
    rcases insR_mem h with h | h
    · simp [h]
    · exact List.mem_cons_of_mem _ (ordR_sub h)
theorem ordR_in : ∀ {l : List Rec}, (∀ y ∈ l, CanR y) → ∀ z, z ∈ l → z ∈ ordR l
  | [], _, z, h => by cases h
  | x :: l, hl, z, h => by
    refine insR_in (hl x (by simp)) (fun y hy => hl y (List.mem_cons_of_mem _ (ordR_sub hy))) z ?_
    rcases List.mem_cons.1 h with h | h
    · exact .inl h
    · exact .inr (ordR_in (fun y hy => hl y (by simp [hy])) z h)
theorem ordR_mem {l : List Rec} (hl : ∀ y ∈ l, CanR y) (z : Rec) : z ∈ ordR l ↔ z ∈ l := ⟨ordR_sub, ordR_in hl z⟩
theorem ordR_uniq {l m : List Rec} (hl : ∀ y ∈ l, CanR y) (hm : SrtR m) (h : ∀ x, x ∈ m ↔ x ∈ l) : m = ordR l :=
  hm.ext (ordR_srt l) fun x => by rw [h x, ordR_mem hl]
theorem ordR_len (l : List Rec) : (ordR l).length ≤ l.length := by
  have h1 : ∀ (x : Rec) (m : List Rec), (insR x m).length ≤ m.length + 1 := by
    intro x m
    induction m with
    | nil => simp [insR]
    | cons y m ih =>
      unfold insR
      split
      · simp
      · split
        · simp
        · simp only [List.length_cons]; omega
  induction l with
  | nil => simp [ordR]
  | cons x l ih =>
    have := h1 x (ordR l)
    simp only [ordR, List.length_cons]
    omega
def cpt (l : List Rec) : Nat → List Rec
  | 0 => []
  | n + 1 => cpt l n ++ match l[n]? with
    | none => []
    | some x => if n = 0 then [x] else match l[n - 1]? with
      | none => []
      | some y => if cmpR x y = 0 then [] else [x]
theorem cpt_step {l : List Rec} {n : Nat} {x y : Rec} (hn : 0 < n) (hx : l[n]? = some x) (hy : l[n - 1]? = some y) : cpt l (n + 1) = cpt l n ++ if cmpR x y = 0 then [] else [x] := by
  conv => lhs; unfold cpt
  rw [hx]
  simp only
  rw [if_neg (by omega), hy]
theorem cpt_one {l : List Rec} {x : Rec} (hx : l[0]? = some x) : cpt l 1 = [x] := by
  simp [cpt, hx]
theorem cpt_same {l : List Rec} : ∀ {n : Nat}, n ≤ l.length → (∀ (j : Nat) x y, j + 1 < n → l[j]? = some y → l[j + 1]? = some x → cmpR x y ≠ 0) → cpt l n = l.take n
  | 0, _, _ => by simp [cpt]
  | n + 1, hn, h => by
    have ih := cpt_same (l := l) (n := n) (by omega) fun j x y hj => h j x y (by omega)
    obtain ⟨x, hx⟩ : ∃ x, l[n]? = some x := ⟨l[n], by simp [show n < l.length by omega]⟩
    rcases Nat.eq_zero_or_pos n with h0 | h0
    · subst h0
      rw [cpt_one hx, List.take_add_one, hx]
      simp
    · obtain ⟨y, hy⟩ : ∃ y, l[n - 1]? = some y := ⟨l[n - 1], by simp [show n - 1 < l.length by omega]⟩
      rw [cpt_step h0 hx hy, ih, if_neg (h (n - 1) x y (by omega) hy (by rw [show n - 1 + 1 = n by omega]; exact hx)), List.take_add_one, hx]
      rfl
theorem cpt_spec {l : List Rec} (hs : l.Pairwise fun a b => cmpR a b ≤ 0) (hc : ∀ y ∈ l, CanR y) : ∀ {n : Nat}, n ≤ l.length → SrtR (cpt l n) ∧ (∀ x, x ∈ cpt l n ↔ x ∈ l.take n) ∧ (∀ x, l[n - 1]? = some x → 0 < n → ∀ z ∈ cpt l n, z = x ∨ cmpR z x < 0)
  | 0, _ => ⟨List.Pairwise.nil, fun x => by simp [cpt], fun x _ h => by omega⟩
  | n + 1, hn => by
    obtain ⟨i1, i2, i3⟩ := cpt_spec hs hc (n := n) (by omega)
    obtain ⟨x, hx⟩ : ∃ x, l[n]? = some x := ⟨l[n], by simp [show n < l.length by omega]⟩
    have hxl := List.mem_of_getElem? hx
    rcases Nat.eq_zero_or_pos n with h0 | h0
    · subst h0
      rw [cpt_one hx]
      refine ⟨by simp [SrtR], fun z => by rw [List.take_add_one, hx]; simp, fun z hz _ w hw => ?_⟩
      simp only [Nat.add_sub_cancel] at hz
      rw [hx] at hz
      cases hz
      exact .inl (by simpa using hw)
    · obtain ⟨y, hy⟩ : ∃ y, l[n - 1]? = some y := ⟨l[n - 1], by simp [show n - 1 < l.length by omega]⟩
      have hyl := List.mem_of_getElem? hy
      have hle : cmpR y x ≤ 0 := by
        rw [List.pairwise_iff_getElem] at hs
        have := hs (n - 1) n (by omega) (by omega) (by omega)
        have e1 : l[n - 1] = y := by rw [List.getElem?_eq_getElem (by omega)] at hy; exact Option.some.inj hy
        have e2 : l[n] = x := by rw [List.getElem?_eq_getElem (by omega)] at hx; exact Option.some.inj hx
        rw [e1, e2] at this
        exact this
      rw [cpt_step h0 hx hy]
      have hn := cmpR_neg x y
      have i3' := i3 y hy h0
      by_cases hz : cmpR x y = 0
      · rw [if_pos hz, List.append_nil]
        have e := cmpR_eq (hc x hxl) (hc y hyl) hz
        subst e
        refine ⟨i1, fun z => ?_, fun z hz' _ w hw => ?_⟩
        · rw [i2 z, List.take_add_one, hx]
          simp only [Option.toList_some, List.mem_append, List.mem_singleton]
          refine ⟨fun h => .inl h, fun h => h.elim id fun e => ?_⟩
          subst e
          exact List.mem_of_getElem? (i := n - 1) (by rw [List.getElem?_take, if_pos (by omega)]; exact hy)
        · simp only [Nat.add_sub_cancel] at hz'
          rw [hx] at hz'
          cases hz'
          exact i3' w hw
      · rw [if_neg hz]
        have hlt : cmpR y x < 0 := by omega
        have hall : ∀ w ∈ cpt l n, cmpR w x < 0 := fun w hw => by
          rcases i3' w hw with e | e
          · rw [e]; exact hlt
          · exact cmpR_lt e hlt
        refine ⟨?_, fun z => ?_, fun z hz' _ w hw => ?_⟩
        · unfold SrtR
          rw [List.pairwise_append]
          exact ⟨i1, by simp, fun a ha b hb => by rw [List.mem_singleton.1 hb]; exact hall a ha⟩
        · rw [List.take_add_one, hx]
          simp only [Option.toList_some, List.mem_append, List.mem_singleton, i2 z]
        · simp only [Nat.add_sub_cancel] at hz'
          rw [hx] at hz'
          cases hz'
          rcases List.mem_append.1 hw with h | h
          · exact .inr (hall w h)
          · exact .inl (List.mem_singleton.1 h)
theorem cpt_ord {l s : List Rec} (hp : s.Perm l) (hs : s.Pairwise fun a b => cmpR a b ≤ 0) (hc : ∀ y ∈ l, CanR y) : cpt s s.length = ordR l := by
  have hc' : ∀ y ∈ s, CanR y := fun y hy => hc y (hp.mem_iff.1 hy)
  obtain ⟨h1, h2, _⟩ := cpt_spec hs hc' (Nat.le_refl s.length)
  refine ordR_uniq hc h1 fun x => ?_
  rw [h2 x, List.take_length]
  exact hp.mem_iff
end
section
open Go.Shelf Go.RowKit Go.Lib Go.Sort
theorem SWO.pull {α β : Type} {lt : α → α → Bool} (h : SWO lt) (f : β → α) : SWO fun x y => lt (f x) (f y) :=
  ⟨fun x => h.irrefl _, fun x y z => h.trans _ _ _, fun x y z => h.ntrans _ _ _⟩
section
variable {P : Program} {ρ : Ren} {τ : Type}
theorem sortOwnR (L : SlLaysF0.n6 P ρ) (hc6 : Callable P (ρ.f 6)) (k : Nat) (h0k : 0 < k) (aE : ∀ w, (isAgg (ρ.t 24)).run P w = .ok true w) (zE : ∀ w, (Go.sizeOf (ρ.t 24)).run P w = .ok k w)
    (c : τ → List AVal) (hk : ∀ x, (c x).length = k) (hst : ∀ x, stbs (c x) = true) (h1c : ∀ x, ∀ y ∈ c x, y.one = true) (cf : τ → τ → Int) (hO : SWO (ltOf cf)) (g : FuncId) (l : List τ) (hl0 : 0 < l.length) (hl : l.length < 4611686018427387904)
    (hcmp : ∀ x ∈ l, ∀ y ∈ l, Ev P g [.agg (c x), .agg (c y)] (.ret (.int .i64 (cf x y)))) :
    ∃ s : List τ, s.Perm l ∧ s.Pairwise (fun x y => ltOf cf y x = false) ∧ EvOwn P (ρ.f 6) [.undef, .fn g []] 0 k (l.map fun x => .agg (c x)) false (.tup []) (s.map fun x => .agg (c x)) := by
  let τ' := _root_.Fin l.length
  let lx : τ' → τ := fun i => l[i]
  letI : Inhabited τ' := ⟨⟨0, hl0⟩⟩
  let cf' : τ' → τ' → Int := fun i j => cf (lx i) (lx j)
  let c' : τ' → List AVal := fun i => c (lx i)
  have hO' : SWO (ltOf cf') := SWO.pull hO lx
  have hmem : ∀ i : τ', lx i ∈ l := fun i => List.getElem_mem _
  have hdl : (List.finRange l.length).map lx = l := by
    apply List.ext_getElem
    · rw [List.length_map, List.length_finRange]
    · intro i h1 h2
      rw [List.getElem_map, List.getElem_finRange]
      rfl
  let d : Array τ' := (List.finRange l.length).toArray
  let d' := pdq (ltOf cf') d 0 d.size (Lib.bitLen d.size) true true
  have hds : d.size = l.length := by
    show (List.finRange l.length).toArray.size = _
    rw [List.size_toArray, List.length_finRange]
  obtain ⟨hp, hsrt⟩ := pdq_sorts (ltOf cf') hO' d 0 d.size (Lib.bitLen d.size) true true (Nat.zero_le _) (Nat.le_refl _) (Or.inl rfl)
  have hsz' : d'.size = d.size := hp.1
  have hperm : d'.toList.Perm (List.finRange l.length) := by
    have := hp.2.2
    have e : ∀ (x : Array τ') (n : Nat), x.size = n → x.extract 0 n = x := by rintro x n rfl; exact Array.extract_size
    rw [e d _ rfl, e _ _ hsz'] at this
    simpa [d] using this
  have hpw : d'.toList.Pairwise (fun x y => ltOf cf' y x = false) := by
    rw [List.pairwise_iff_getElem]
    intro i j hi hj hij
    have h1 : i < d'.size := by simpa using hi
    have h2 : j < d'.size := by simpa using hj
    have := hsrt i j (Nat.zero_le _) hij (by rw [← hsz']; exact h2)
    rw [show (pdq (ltOf cf') d 0 d.size (Lib.bitLen d.size) true true) = d' from rfl, getElem!_pos d' i h1, getElem!_pos d' j h2] at this
    simpa using this
  refine ⟨d'.toList.map lx, ?_, ?_, hc6, fun B w vs G hkey hvs hv hown hB hol => ?_⟩
  · have := hperm.map lx
    rwa [hdl] at this
  · rw [List.pairwise_map]
    exact hpw
  obtain ⟨v0, hv0, hown⟩ := hown
  obtain ⟨v1, hv1⟩ : ∃ v, vs[1]? = some v := ⟨vs[1]'(by rw [hvs]; simp), by simp [hvs]⟩
  have hfn := hv 1 (.fn g []) v1 (by decide) rfl hv1
  have hf1 : v1 = .func (.func g) #[] #[] := by
    cases hfn with
    | fn _ _ ws hl0 _ =>
      have : ws = #[] := Array.eq_empty_of_size_eq_zero (by simpa using hl0)
      rw [this]
  have hvs' : vs = #[v0, v1] := by
    have h2 : vs.size = 2 := hvs
    apply Array.ext_getElem?
    intro i
    match i with
    | 0 => simpa using hv0
    | 1 => simpa using hv1
    | i + 2 => rw [Array.getElem?_eq_none (by omega)]; simp
  rw [hvs', hf1]
  rcases hown with ⟨rfl, hnil⟩ | ⟨b, off, cap, cc, el, hb1, hb2, hb3, hb4, hb5, hb6, hb7, hb8, hb9⟩
  · have : l = [] := by simpa using hnil
    rw [this] at hl0
    simp at hl0
  · rw [flat_aggs] at hb8 hb9
    have hblk : b < w.heap.size := by
      rcases Nat.lt_or_ge b w.heap.size with h | h
      · exact h
      · rw [Array.getElem?_eq_none h] at hb5; cases hb5
    have hlen : (l.map fun x => AVal.agg (c x)).length = l.length := by simp
    rw [hlen] at hb1 hb2
    have hroom : off + l.length * k ≤ cc.size := by
      have := Nat.mul_le_mul_right k hb2
      omega
    let enc : τ' → List Value := fun i => (List.range k).map fun j => cc.getD (off + (i.val * k + j)) undef
    have hek : ∀ x, (enc x).length = k := fun x => by simp [enc]
    have cellE : ∀ (i : τ') (j : Nat) (y : AVal), (c' i)[j]? = some y → ∃ u, (enc i)[j]? = some u ∧ cc[off + (i.val * k + j)]? = some u ∧ VR (Dm NoM) G B w y u := by
      intro i j y hy
      have hj : j < k := by
        rw [← hk (lx i)]
        rcases Nat.lt_or_ge j (c' i).length with h | h
        · exact h
        · rw [List.getElem?_eq_none h] at hy; cases hy
      obtain ⟨u, hu, hr⟩ := hb9 (i.val * k + j) y (by rw [flatMap_at hk (x := lx i) (List.getElem?_eq_getElem i.isLt) hj]; exact hy)
      exact ⟨u, by simp [enc, hj, hu], hu, hr⟩
    have encOf : ∀ (i : τ') (u : Value), u ∈ enc i → ∃ (j : Nat) (y : AVal), (c' i)[j]? = some y ∧ (enc i)[j]? = some u := by
      intro i u hu
      obtain ⟨j, hj, hu'⟩ := List.getElem_of_mem hu
      have hj' : j < (c' i).length := by rw [hk]; rwa [hek] at hj
      exact ⟨j, _, List.getElem?_eq_getElem hj', by rw [← hu']; exact List.getElem?_eq_getElem hj⟩
    have he1 : ∀ x, ∀ v ∈ enc x, v.oneCell' = true := fun x v hv => by
      obtain ⟨j, y, hy, hu⟩ := encOf x v hv
      obtain ⟨u, hu2, _, hr⟩ := cellE x j y hy
      rw [hu] at hu2
      cases hu2
      exact hr.oneCell (h1c (lx x) y (List.mem_of_getElem? hy))
    have cellv : ∀ (m : Array τ') (t : Nat), t < m.size * k → ∃ (x : τ') (y : AVal) (u : Value), m.toList[t / k]? = some x ∧ (c' x)[t % k]? = some y ∧ ((m.toList.map lx).flatMap c)[t]? = some y ∧ (flatK enc k m)[t]! = u ∧ cc[off + (x.val * k + t % k)]? = some u ∧ VR (Dm NoM) G B w y u := by
      intro m t ht
      have h1 : t / k < m.size := Nat.div_lt_of_lt_mul (by rw [Nat.mul_comm]; exact ht)
      have h2 : t % k < k := Nat.mod_lt _ h0k
      have hx : m.toList[t / k]? = some m[t / k] := by simp [h1]
      have hy : (c' m[t / k])[t % k]? = some ((c' m[t / k])[t % k]'(by rw [hk]; exact h2)) := by simp [hk, h2]
      obtain ⟨u, hu1, hu2, hr⟩ := cellE m[t / k] (t % k) _ hy
      refine ⟨m[t / k], _, u, hx, hy, ?_, ?_, hu2, hr⟩
      · have hx' : (m.toList.map lx)[t / k]? = some (lx m[t / k]) := by rw [List.getElem?_map, hx]; rfl
        rw [← hy, ← flatMap_at hk hx' h2, Nat.mul_comm, Nat.div_add_mod]
      · rw [get_flatK _ _ _ _ ht, getElem!_pos m _ h1, getElem!_pos (enc m[t / k]) _ (by rw [hek]; exact h2)]
        rw [List.getElem?_eq_getElem (by rw [hek]; exact h2)] at hu1
        exact Option.some.inj hu1
    have hdget : ∀ (t : Nat) (x : τ'), d.toList[t]? = some x → x.val = t := by
      intro t x hx
      have hx : (List.finRange l.length)[t]? = some x := hx
      rw [List.getElem?_eq_some_iff] at hx
      obtain ⟨h1, h2⟩ := hx
      rw [List.getElem_finRange] at h2
      rw [← h2]
      rfl
    have hH : HoldsK enc k w b off d := by
      intro t ht
      rw [size_flatK, hds] at ht
      obtain ⟨x, y, u, e1, e2, e3, e4, e5, e6⟩ := cellv d t (by rw [hds]; exact ht)
      have hx := hdget _ _ e1
      have hidx : x.val * k + t % k = t := by rw [hx, Nat.mul_comm]; exact Nat.div_add_mod t k
      rw [hidx] at e5
      refine ⟨?_, ?_⟩
      · rw [cell_at hb5, e5, e4]; rfl
      · simp [World.frozen?, hb5]
    have hbg : G.ow b ≠ none := by rw [hb3]; simp
    have hwk : ∀ (m : Nat) (os : Array Obj) (dk : Array τ') (b' : Nat), b' < w.heap.size → (sortWorldK enc k w b off m dk os).heap[b']? = if b' = b then some (.cells (putCells id off (flatK enc k dk) cc) el (0, 0)) else w.heap[b']? := by
      intro m os dk b' hb'
      simp only [sortWorldK, grow, putRowK, putRow, mapBlock, Sort.ahead]
      rw [Array.getElem?_append_left (by simpa using hb'), Array.getElem?_modify]
      by_cases hbb : b = b'
      · subst hbb
        rw [if_pos rfl, if_pos rfl, hb5]
        rfl
      · rw [if_neg hbb, if_neg (Ne.symm hbb)]
    have hstw : ∀ (m : Nat) (os : Array Obj) (dk : Array τ') (G' : Gh) (B' : Nat → Prop), (∀ b', G.ow b' = none → G'.ow b' = none) → (∀ b', B' b' → B b') → ∀ (y : AVal) (u : Value), y.stb = true → VR (Dm NoM) G B w y u → VR (Dm NoM) G' B' (sortWorldK enc k w b off m dk os) y u := by
      intro m os dk G' B' hG hBB y u hy hr
      refine hr.stable (fun b' hb' hn ho => ⟨?_, fun hc => hn (hBB _ hc), hG _ ho⟩) hy
      rw [hwk m os dk b' hb', if_neg]
      rintro rfl
      exact hbg ho
    have hlays : CmpLays P g #[] enc k cf' b off d.size w := by
      intro m os dk hdk x y
      have hone : ∀ x : τ', VR (Dm NoM) { G with ow := fun _ => none } (fun _ => False) (sortWorldK enc k w b off m dk os) (.agg (c' x)) (.agg (enc x).toArray) := fun x => by
        refine .agg _ _ (by simp [hek, c', hk]) fun n z v hz hv => ?_
        obtain ⟨u, hu, _, hr⟩ := cellE x n z hz
        rw [List.getElem?_toArray, hu] at hv
        rw [← Option.some.inj hv]
        exact hstw m os dk _ _ (fun _ _ => rfl) (fun _ h => False.elim h) z u (stbs_get (hst (lx x)) hz) hr
      have hE := (hcmp _ (hmem x) _ (hmem y)).2 (fun _ => False) (sortWorldK enc k w b off m dk os) #[.agg (enc x).toArray, .agg (enc y).toArray] { G with ow := fun _ => none } (fun _ => rfl) rfl (fun i z v hz hv => ?_) (fun _ h => h.elim)
      · refine hE.mono ?_
        rintro e w' ⟨G', v', hG', hA, he, hr⟩
        cases hr
        exact ⟨he, hA.grown (fun _ => rfl)⟩
      · match i with
        | 0 => simp at hz hv; subst hz; subst hv; exact hone x
        | 1 => simp at hz hv; subst hz; subst hv; exact hone y
        | i + 2 => simp at hz
    have eg : ∀ args w, (callFunc g args).run P w = .ok (.enter g args) w := fun args w => by
      obtain ⟨fn, hfn, hnm, hbd⟩ := (hcmp _ (hmem default) _ (hmem default)).1.ok
      have e1 : (fn.name = "runtime.NumGoroutine") = False := by simpa using hnm
      have e2 : (fn.body = none) = False := by simp only [eq_iff_iff, iff_false]; intro hn; rw [hn] at hbd; simp at hbd
      simp [callFunc, hfn, e1, e2]
    have hmain := AnyQ.slices_SortFunc_eq L k aE zE enc hek he1 cf' hO' g #[] b off cap d w eg hlays hH hblk (by rw [hds]; exact hl)
    rw [hb1, show l.length = d.size by rw [hds]]
    refine hmain.mono ?_
    rintro e w' ⟨rfl, n, os, hw'⟩
    have hw0 : ∀ b', b' < w.heap.size → w'.heap[b']? = if b' = b then some (.cells (putCells id off (flatK enc k d') cc) el (0, 0)) else w.heap[b']? := by
      intro b' hb'
      rw [hw']
      exact hwk _ _ _ _ hb'
    have hsize : w.heap.size ≤ w'.heap.size := by
      rw [hw']
      simp [sortWorldK, grow, putRowK, putRow, mapBlock, Sort.ahead]
    have hkeep : ∀ b', b' < w.heap.size → G.ow b' = none → w'.heap[b']? = w.heap[b']? ∧ G.ow b' = none := fun b' hb' ho => by
      refine ⟨?_, ho⟩
      rw [hw0 b' hb', if_neg]
      rintro rfl
      rw [hb3] at ho; cases ho
    have hA : Adv G w G w' := ⟨by rw [hw']; exact ⟨rfl, Nat.le_add_right _ _⟩, by rw [hw']; rfl, by rw [hw']; rfl, hsize, hkeep⟩
    refine ⟨G, .tuple #[], v0, rfl, hkey, fun b' hb' => Nat.lt_of_lt_of_le (hol b' hb') hsize, hA, .inr ⟨b, off, cap, putCells id off (flatK enc k d') cc, el, ?_, ?_, hb3, hb4, ?_, ?_, ?_, ?_, ?_⟩, fun h => (by cases h), fun _ => ⟨by simp [hb1, hds], .tup [] #[] rfl fun n x v hx => by simp at hx⟩⟩
    · rw [hb1]; simp [hsz', hds]
    · simp only [List.length_map, Array.length_toList, hsz', hds]; exact hb2
    · rw [hw0 b hblk, if_pos rfl]
    · simp only [putCells, Array.size_mapIdx]; exact hb6
    · intro x hx
      obtain ⟨z, _, rfl⟩ := List.mem_map.1 hx
      exact hk z
    · intro x hx
      rw [flat_aggs] at hx
      obtain ⟨z, _, hz⟩ := List.mem_flatMap.1 hx
      exact h1c z x hz
    · intro t x hx
      rw [flat_aggs] at hx
      have htl : t < d'.size * k := by
        have h1 : t < ((d'.toList.map lx).flatMap c).length := by
          rcases Nat.lt_or_ge t ((d'.toList.map lx).flatMap c).length with h | h
          · exact h
          · rw [List.getElem?_eq_none h] at hx; cases hx
        rwa [← flat_aggs, flat_length (sz := k) (fun y hy => by obtain ⟨z, _, rfl⟩ := List.mem_map.1 hy; exact hk z), List.length_map, List.length_map, Array.length_toList] at h1
      obtain ⟨z, y, u, e1, e2, e3, e4, e5, e6⟩ := cellv d' t htl
      rw [hx] at e3
      cases e3
      have hlt : off + t < cc.size := by rw [hsz', hds] at htl; omega
      refine ⟨u, ?_, ?_⟩
      · simp only [putCells, Array.getElem?_mapIdx, Array.getElem?_eq_getElem hlt, Option.map_some]
        rw [if_pos ⟨by omega, by rw [size_flatK]; omega⟩, show off + t - off = t by omega, e4]
        rfl
      · rw [hw']
        exact hstw _ _ _ G B (fun _ h => h) (fun _ h => h) x u (stbs_get (hst (lx z)) e2) e6
end
end
section
open Go.Proofs Go.Shelf Go.RowKit Go.Lib Go.Sort
def lay_sortRec_ren : Go.Shelf.Ren := ⟨fun | 6 => 57 | 15 => 107 | 14 => 106 | 28 => 152 | 29 => 153 | 20 => 144 | 21 => 145 | 22 => 146 | 23 => 147 | 24 => 148 | 25 => 149 | 26 => 150 | 27 => 151 | 46 => 163 | 47 => 164 | 48 => 165 | 49 => 166 | 50 => 167 | 57 => 173 | n => n, fun | 22 => 22 | 24 => 39 | 25 => 40 | 3 => 3 | 39 => 131 | 0 => 0 | 53 => 178 | 55 => 180 | 4 => 4 | 46 => 171 | 45 => 170 | 50 => 175 | 5 => 5 | 9 => 9 | 66 => 186 | 70 => 190 | 76 => 193 | 77 => 132 | n => n, fun | n => n⟩
theorem lay_sortRec : Go.Proofs.SlLaysF0.n6 Tryz.prog lay_sortRec_ren where
  mixed := by kernel_rfl
  f6 := ⟨Tryz.f57.name, by decide, Tryz.func57.trans (congrArg some (by kernel_rfl))⟩
  f14 := ⟨Tryz.f106.name, by decide, Tryz.func106.trans (congrArg some (by kernel_rfl))⟩
  f15 := Tryz.func107.trans (congrArg some (by kernel_rfl))
  f20 := ⟨Tryz.f144.name, by decide, Tryz.func144.trans (congrArg some (by kernel_rfl))⟩
  f21 := ⟨Tryz.f145.name, by decide, Tryz.func145.trans (congrArg some (by kernel_rfl))⟩
  f22 := ⟨Tryz.f146.name, by decide, Tryz.func146.trans (congrArg some (by kernel_rfl))⟩
  f23 := ⟨Tryz.f147.name, by decide, Tryz.func147.trans (congrArg some (by kernel_rfl))⟩
  f24 := ⟨Tryz.f148.name, by decide, Tryz.func148.trans (congrArg some (by kernel_rfl))⟩
  f25 := ⟨Tryz.f149.name, by decide, Tryz.func149.trans (congrArg some (by kernel_rfl))⟩
  f26 := ⟨Tryz.f150.name, by decide, Tryz.func150.trans (congrArg some (by kernel_rfl))⟩
  f27 := ⟨Tryz.f151.name, by decide, Tryz.func151.trans (congrArg some (by kernel_rfl))⟩
  f28 := Tryz.func152.trans (congrArg some (by kernel_rfl))
  f29 := Tryz.func153.trans (congrArg some (by kernel_rfl))
  f46 := ⟨Tryz.f163.name, by decide, Tryz.func163.trans (congrArg some (by kernel_rfl))⟩
  f47 := Tryz.func164.trans (congrArg some (by kernel_rfl))
  f48 := Tryz.func165.trans (congrArg some (by kernel_rfl))
  f49 := ⟨Tryz.f166.name, by decide, Tryz.func166.trans (congrArg some (by kernel_rfl))⟩
  f50 := ⟨Tryz.f167.name, by decide, Tryz.func167.trans (congrArg some (by kernel_rfl))⟩
  f57 := ⟨Tryz.f173.name, by decide, Tryz.func173.trans (congrArg some (by kernel_rfl))⟩
  t0 := Tryz.underlying0
  a0 := Tryz.isAgg0
  z0 := Tryz.sizeOf0
  v0 := Tryz.zeroValue0
  t3 := Tryz.underlying3
  a3 := Tryz.isAgg3
  z3 := Tryz.sizeOf3
  v3 := Tryz.zeroValue3
  t4 := Tryz.underlying4
  a4 := Tryz.isAgg4
  z4 := Tryz.sizeOf4
  v4 := Tryz.zeroValue4
  t5 := Tryz.underlying5
  a5 := Tryz.isAgg5
  z5 := Tryz.sizeOf5
  v5 := Tryz.zeroValue5
  t9 := Tryz.underlying9
  a9 := Tryz.isAgg9
  z9 := Tryz.sizeOf9
  v9 := Tryz.zeroValue9
  t22 := Tryz.underlying22
  a22 := Tryz.isAgg22
  z22 := Tryz.sizeOf22
  v22 := Tryz.zeroValue22
  t25 := Tryz.underlying40
  a25 := Tryz.isAgg40
  z25 := Tryz.sizeOf40
  v25 := Tryz.zeroValue40
  t39 := Tryz.underlying131
  a39 := Tryz.isAgg131
  z39 := Tryz.sizeOf131
  v39 := Tryz.zeroValue131
  t45 := Tryz.underlying170
  a45 := Tryz.isAgg170
  z45 := Tryz.sizeOf170
  v45 := Tryz.zeroValue170
  t46 := Tryz.underlying171
  a46 := Tryz.isAgg171
  z46 := Tryz.sizeOf171
  v46 := Tryz.zeroValue171
  t50 := Tryz.underlying175
  a50 := Tryz.isAgg175
  z50 := Tryz.sizeOf175
  v50 := Tryz.zeroValue175
  t53 := Tryz.underlying178
  a53 := Tryz.isAgg178
  z53 := Tryz.sizeOf178
  v53 := Tryz.zeroValue178
  t55 := Tryz.underlying180
  a55 := Tryz.isAgg180
  z55 := Tryz.sizeOf180
  v55 := Tryz.zeroValue180
  t66 := Tryz.underlying186
  a66 := Tryz.isAgg186
  z66 := Tryz.sizeOf186
  v66 := Tryz.zeroValue186
  t70 := Tryz.underlying190
  a70 := Tryz.isAgg190
  z70 := Tryz.sizeOf190
  v70 := Tryz.zeroValue190
  t76 := Tryz.underlying193
  a76 := Tryz.isAgg193
  z76 := Tryz.sizeOf193
  v76 := Tryz.zeroValue193
  t77 := Tryz.underlying132
  a77 := Tryz.isAgg132
  z77 := Tryz.sizeOf132
  v77 := Tryz.zeroValue132
end
def r_k59_1 : List SOp := [⟨some 2,.box 39 (.tmp 0),none⟩,⟨some 3,.box 39 (.tmp 1),none⟩,⟨some 4,.assign (.const (.bool false)),none⟩]
instance : Live r_k59_1 := ⟨[0,1]⟩
def r_k59_2 : List SOp := [⟨some 5,.load 39 (.tmp 2),none⟩,⟨some 6,.load 39 (.tmp 3),none⟩,⟨some 7,.call ⟨.value (.func 19),#[.tmp 5,.tmp 6],#[39,39]⟩,none⟩,⟨some 8,.binOp .eql 3 (.tmp 7) (.const (.int .i64 0)) 3,none⟩,⟨some 4,.assign (.tmp 8),none⟩]
instance : Live r_k59_2 := ⟨[2,3]⟩
def t_k59 : SC :=
  (.seq (.ops false r_k59_1) (.seq (.ops false r_k59_2) .ret))
theorem it_k59 : FnIs Tryz.prog 59 9 [.tmp 4] t_k59 := ⟨Tryz.f59, _, Tryz.func59, rfl, rfl, rfl, rfl, by kernel_rfl⟩

section
open Go.Proofs Go.Shelf Go.RowKit Go.Lib Go.Sort
def WkQ (n : Nat) (Q : Ex → AS → Prop) : Ex → AS → Prop
  | .pan x, s => Q (.pan x) s
  | e, s => ∃ s2, Wk n s s2 ∧ Q e s2
theorem AW.wkEnd {E : Env} {n : Nat} {Q : Ex → AS → Prop} {s : AS} {x : SC} (h : AW E n x (WkQ n Q) s) : AW E n x Q s := fun c hc B G a w hR Q' hP =>
  h c hc B G a w hR Q' fun e s1 a' w' G' hA hR' hq => by
    cases e with
    | pan x => exact hP (.pan x) s1 a' w' G' hA hR' hq
    | normal => obtain ⟨s2, hw, hq2⟩ := hq; obtain ⟨G2, h2, a2⟩ := hw B G' a' w' hR'; exact hP .normal s2 a' w' G2 (hA.trans a2) h2 hq2
    | ret => obtain ⟨s2, hw, hq2⟩ := hq; obtain ⟨G2, h2, a2⟩ := hw B G' a' w' hR'; exact hP .ret s2 a' w' G2 (hA.trans a2) h2 hq2
    | exit id => obtain ⟨s2, hw, hq2⟩ := hq; obtain ⟨G2, h2, a2⟩ := hw B G' a' w' hR'; exact hP (.exit id) s2 a' w' G2 (hA.trans a2) h2 hq2
theorem ev_sortRecs (l : List Rec) (hw : ∀ r ∈ l, wt r.past ≤ 50000000) (h0 : 0 < l.length) (hl : l.length ≤ 1000000000) :
    ∃ s : List Rec, s.Perm l ∧ s.Pairwise (fun a b => cmpR a b ≤ 0) ∧ EvOwn (En Tryz.prog rfl).P 57 [.undef, .fn 19 []] 0 3 (encKs l) false (.tup []) (encKs s) := by
  obtain ⟨s, h1, h2, h3⟩ := sortOwnR (τ := Rec) lay_sortRec (FnIs.callable it_k57) 3 (by decide) Tryz.isAgg39 Tryz.sizeOf39 (fun r => [.str r.sku, .sl 1 (encIs r.past.vec), .sl 3 (encSs r.past.cloud)]) (fun _ => rfl)
    (fun x => by simp [AVal.stb, stbs, encIs_stb, encSs_stb]) (fun x y hy => by simp at hy; rcases hy with rfl | rfl | rfl <;> rfl) cmpR cmpR_SWO 19 l h0 (by omega) (fun x hx y hy => ev_k19 x y (hw x hx) (hw y hy))
  refine ⟨s, h1, h2.imp fun {a b} h => ?_, h3⟩
  unfold ltOf at h
  simp only [decide_eq_false_iff_not] at h
  have := cmpR_neg a b
  omega
theorem ev_keepSort1eq (a b : Rec) (ha : wt a.past ≤ 50000000) (hb : wt b.past ≤ 50000000) : Ev (En Tryz.prog rfl).P 59 [encK a, encK b] (.ret (.bool (decide (cmpR a b = 0)))) := by
  refine Ev.of_body it_k59 (by simp) (Run.start ?_)
  unfold t_k59
  have c1 := ev_k19 a b ha hb
  unfold encK at c1 ⊢
  have hS := stbK
  (focus (have hF := True.intro; (repeat' (first | refine go1 (k:=?_) | with_reducible refine Ny.of ?_ ?_ | (refine Hyp.of ?_; intro hc; (try simp only [hc]); (try simp only [Bh] at hc)))); all_goals clear hF))
  refine stCall [encK a, encK b] (he := c1) (k:=?_)
  (focus (have hF := True.intro; (repeat' (first | refine go1 (k:=?_) | with_reducible refine Ny.of ?_ ?_ | (refine Hyp.of ?_; intro hc; (try simp only [hc]); (try simp only [Bh] at hc)))); all_goals clear hF))
  exact Fin.tmp' rfl rfl
theorem clearA_eq {TE : TyE} {M : Mem} {t el : TypeId} {k e sz i n s1 b1 : Nat} {z1 : Value} {ei : TyI} {xs : List AVal} (ht : TE t = some ⟨.slice el, s1, b1, z1⟩) (he : TE el = some ei) (hM : M k = some (.arr e sz xs)) (hok : ei.okElem = true)
    (hs : sz = ei.size) (h1 : i + n ≤ xs.length) (h0 : 0 < n) : clearA TE M t (.vw k e sz i n) = some (.tup [], [(k, .arr e sz (xs.take i ++ List.replicate n ei.zeroElem ++ xs.drop (i + n)))]) := by
  simp [clearA, ht, he, hM, hok, hs, h1, h0]
theorem awp_clear {E : Env} {Q : Ex → AS → Prop} {r : List SOp} {T : Tmps} {M : Mem} {a : Tmp} {t el : TypeId} {k e sz i n s1 b1 : Nat} {z1 : Value} {ei : TyI} {xs : List AVal} (hx : T a = .vw k e sz i n) (hM : M k = some (.arr e sz xs)) (ht : E.TE t = some ⟨.slice el, s1, b1, z1⟩) (he : E.TE el = some ei)
    (hok : ei.okElem = true) (hs : sz = ei.size) (h1 : i + n ≤ xs.length) (h0 : 0 < n) (kk : awpOps E false none Q r ⟨T, upd M k (some (.arr e sz (xs.take i ++ List.replicate n ei.zeroElem ++ xs.drop (i + n))))⟩) :
    awpOps E false none Q (⟨none, .call ⟨.builtin .clear, #[.tmp a], #[t]⟩, none⟩ :: r) ⟨T, M⟩ := by
  have h := clearA_eq ht he hM hok hs h1 h0
  exact dv (v := .tup []) (ups := [(k, .arr e sz (xs.take i ++ List.replicate n ei.zeroElem ++ xs.drop (i + n)))]) rfl (show clearA E.TE M t (T a) = _ by rw [hx]; exact h) (by simp [dchk, rkOk]) rfl kk
theorem encKs_set (l : List Rec) (k : Nat) (s : ByteArray) (v : List Int) (c : List Sn) : (encKs l).set k (.agg [.str s, .sl 1 (encIs v), .sl 3 (encSs c)]) = encKs (l.set k ⟨s, ⟨v, c⟩⟩) := by
  unfold encKs
  rw [List.map_set]
  rfl
theorem ev_compact (l : List Rec) (hw : ∀ r ∈ l, wt r.past ≤ 50000000) (hl : l.length ≤ 1000000000) :
    EvOwn (En Tryz.prog rfl).P 58 [.undef, .fn 59 []] 0 3 (encKs l) true .undef (encKs (cpt l l.length)) := by
  refine EvOwn.of_body it_k58 (by simp) (AW.wkEnd (Run.start ?_))
  unfold t_k58 initO
  have e1 := encKs_len l
  have hS := stbK
  by_cases h2 : l.length < 2
  · rw [cpt_same (Nat.le_refl _) (fun j x y hj => absurd hj (by omega)), List.take_length]
    (focus (have hF := @e1; (repeat' (first | refine go1 (k:=?_) | with_reducible refine Ny.of ?_ ?_ | (refine Hyp.of ?_; intro hc; (try simp only [hc]); (try simp only [Bh] at hc)))); all_goals clear hF))
    exact Fin.done ⟨_, Wk.refl _ _, _, rfl, rfl, encKs_stb _⟩
  · (focus (have hF := @e1; (repeat' (first | refine go1 (k:=?_) | with_reducible refine Ny.of ?_ ?_ | (refine Hyp.of ?_; intro hc; (try simp only [hc]); (try simp only [Bh] at hc)))); all_goals clear hF))
    refine Run.wk (Wk.view 0 0 0 3 rfl rfl (by rw [e1]; omega)) ?_
    rw [e1]
    have h01 : ((0 + 1 : Nat) : Int) = 1 := rfl
    refine Run.while (σ := Nat) (fun j => ⟨tms [(0, .vw 0 0 3 0 l.length), (1, .fn 59 []), (5, .int .i64 ((j + 1 : Nat) : Int))], mms [(0, .arr 0 3 (encKs l))]⟩)
      (fun j => j + 1 ≤ l.length ∧ ∀ (m : Nat) x y, m + 1 < j + 1 → l[m]? = some y → l[m + 1]? = some x → cmpR x y ≠ 0) (fun j => l.length - j) 0 (have hW := (And.intro @encKs_stb @h01); stWk) ⟨by omega, fun m x y hm => absurd hm (by omega)⟩ ?_
    rintro j ⟨hj, hd⟩
    unfold t_k58_l1
    by_cases hlt : j + 1 < l.length
    · obtain ⟨x, hx⟩ : ∃ x, l[j + 1]? = some x := ⟨l[j + 1], by simp [hlt]⟩
      obtain ⟨y, hy⟩ : ∃ y, l[j]? = some y := ⟨l[j], by simp [show j < l.length by omega]⟩
      have g1 := encKs_get hx
      have g2 := encKs_get hy
      have w1 : IntKind.i64.wrap (((j + 1 : Nat) : Int) - 1) = (j : Int) := by rw [wrap_ok (by omega)]; omega
      have n1 : ((j + 1 : Nat) : Int).toNat = j + 1 := Int.toNat_natCast _
      have n2 : (j : Int).toNat = j := Int.toNat_natCast _
      have c1 := ev_keepSort1eq x y (hw x (List.mem_of_getElem? hx)) (hw y (List.mem_of_getElem? hy))
      (focus (have hF := (And.intro (And.intro @e1 (And.intro @g1 @g2)) (And.intro (And.intro @w1 @n1) (And.intro @n2 @Nat.zero_add))); (repeat' (first | refine go1 (k:=?_) | with_reducible refine Ny.of ?_ ?_ | (refine Hyp.of ?_; intro hc; (try simp only [hc]); (try simp only [Bh] at hc)))); all_goals clear hF))
      refine stCall [encK x, encK y] (he := c1) (k:=?_)
      by_cases hz : cmpR x y = 0
      · rw [decide_eq_true hz]
        (focus (have hF := (And.intro @e1 (And.intro @n1 @Nat.zero_add)); (repeat' (first | refine go1 (k:=?_) | with_reducible refine Ny.of ?_ ?_ | (refine Hyp.of ?_; intro hc; (try simp only [hc]); (try simp only [Bh] at hc)))); all_goals clear hF))
        have h01 : ((0 + 1 : Nat) : Int) = 1 := rfl
        have hcp := cpt_same (l := l) (n := j + 1) (by omega) hd
        have hcp2 := cpt_step (l := l) (n := j + 1) (by omega) hx (by simpa using hy)
        rw [if_pos hz, List.append_nil, hcp] at hcp2
        refine Run.while (σ := Nat × Nat × List Rec) (fun z => ⟨tms [(0, .vw 0 0 3 0 l.length), (1, .fn 59 []), (5, .int .i64 (z.2.1 : Int)), (6, .vw 0 0 3 (j + 1) (l.length - (j + 1))), (7, .int .i64 ((z.1 + 1 : Nat) : Int))], mms [(0, .arr 0 3 (encKs z.2.2))]⟩)
          (fun z => z.1 + 1 ≤ l.length - (j + 1) ∧ z.2.2.length = l.length ∧ 1 ≤ z.2.1 ∧ z.2.1 ≤ j + 1 + z.1 ∧ z.2.2.take z.2.1 = cpt l (j + 1 + (z.1 + 1)) ∧ ∀ m, j + 1 + z.1 ≤ m → z.2.2[m]? = l[m]?) (fun z => l.length - z.1) (0, j + 1, l) (have hW := (And.intro @encKs_stb @h01); stWk)
          ⟨show 0 + 1 ≤ l.length - (j + 1) by omega, rfl, show 1 ≤ j + 1 by omega, show j + 1 ≤ j + 1 + 0 by omega, by simpa using hcp2.symm, fun _ _ => rfl⟩ ?_
        rintro ⟨q, k, cur⟩ ⟨q1, q2, q3, q4, q5, q6⟩
        simp only at q1 q2 q3 q4 q5 q6
        have e2 := encKs_len cur
        rw [q2] at e2
        unfold t_k58_l2
        by_cases hq : q + 1 < l.length - (j + 1)
        · obtain ⟨u, hu⟩ : ∃ u, l[j + 1 + (q + 1)]? = some u := ⟨l[j + 1 + (q + 1)], by simp [show j + 1 + (q + 1) < l.length by omega]⟩
          obtain ⟨v, hv⟩ : ∃ v, l[j + 1 + q]? = some v := ⟨l[j + 1 + q], by simp [show j + 1 + q < l.length by omega]⟩
          obtain ⟨o, ho⟩ : ∃ o, cur[k]? = some o := ⟨cur[k]'(by omega), by simp [show k < cur.length by omega]⟩
          have g3 := encKs_get (show cur[j + 1 + (q + 1)]? = some u by rw [q6 _ (by omega)]; exact hu)
          have g4 := encKs_get (show cur[j + 1 + q]? = some v by rw [q6 _ (by omega)]; exact hv)
          have g5 := encKs_get ho
          have w2 : IntKind.i64.wrap (((q + 1 : Nat) : Int) - 1) = (q : Int) := by rw [wrap_ok (by omega)]; omega
          have n3 : ((q + 1 : Nat) : Int).toNat = q + 1 := Int.toNat_natCast _
          have n4 : (q : Int).toNat = q := Int.toNat_natCast _
          have n5 : (k : Int).toNat = k := Int.toNat_natCast _
          have c2 := ev_keepSort1eq u v (hw u (List.mem_of_getElem? hu)) (hw v (List.mem_of_getElem? hv))
          have hst := cpt_step (l := l) (n := j + 1 + (q + 1)) (by omega) hu (by rw [show j + 1 + (q + 1) - 1 = j + 1 + q by omega]; exact hv)
          (focus (have hF := (And.intro (And.intro @e2 (And.intro @g3 @g4)) (And.intro (And.intro @w2 @n3) (And.intro @n4 @Nat.zero_add))); (repeat' (first | refine go1 (k:=?_) | with_reducible refine Ny.of ?_ ?_ | (refine Hyp.of ?_; intro hc; (try simp only [hc]); (try simp only [Bh] at hc)))); all_goals clear hF))
          refine stCall [encK u, encK v] (he := c2) (k:=?_)
          by_cases hz2 : cmpR u v = 0
          · rw [if_pos hz2, List.append_nil] at hst
            rw [decide_eq_true hz2]
            (focus (have hF := @e2; (repeat' (first | refine go1 (k:=?_) | with_reducible refine Ny.of ?_ ?_ | (refine Hyp.of ?_; intro hc; (try simp only [hc]); (try simp only [Bh] at hc)))); all_goals clear hF))
            have hs2 : ((q + 1 : Nat) : Int) + 1 = ((q + 1 + 1 : Nat) : Int) := rfl
            (refine Fin.nextW ((q + 1, k, cur)) ?_ (have hW := (And.intro @encKs_stb @hs2); stWk); (try dsimp only))
            exact ⟨⟨show q + 1 + 1 ≤ _ by omega, q2, q3, show k ≤ j + 1 + (q + 1) by omega, by rw [q5]; exact hst.symm, fun m hm => q6 m (by omega)⟩, show l.length - (q + 1) < l.length - q by omega⟩
          · rw [if_neg hz2] at hst
            rw [decide_eq_false hz2]
            (focus (have hF := (And.intro (And.intro @e2 (And.intro @g3 @g4)) (And.intro (And.intro @g5 @n3) (And.intro @n5 @Nat.zero_add))); (repeat' (first | refine go1 (k:=?_) | with_reducible refine Ny.of ?_ ?_ | (refine Hyp.of ?_; intro hc; (try simp only [hc]); (try simp only [Bh] at hc)))); all_goals clear hF))
            have hs2 : ((q + 1 : Nat) : Int) + 1 = ((q + 1 + 1 : Nat) : Int) := rfl
            have hs3 : (k : Int) + 1 = ((k + 1 : Nat) : Int) := rfl
            (refine Fin.nextW ((q + 1, k + 1, cur.set k u)) ?_ (have hW := (And.intro (And.intro @encKs_stb @hs2) (And.intro @hs3 @encKs_set)); stWk); (try dsimp only))
            have hk : (cur.set k u).take (k + 1) = cur.take k ++ [u] := by
              rw [List.take_add_one, List.take_set_of_le (Nat.le_refl k)]
              simp [show k < cur.length by omega]
            exact ⟨⟨show q + 1 + 1 ≤ _ by omega, by simpa using q2, show 1 ≤ k + 1 by omega, show k + 1 ≤ j + 1 + (q + 1) by omega, by rw [hk, q5]; exact hst.symm, fun m hm => by
              rw [List.getElem?_set_ne (show k ≠ m by omega)]; exact q6 m (by omega)⟩, show l.length - (q + 1) < l.length - q by omega⟩
        · have hql : j + 1 + (q + 1) = l.length := by omega
          rw [hql] at q5
          have n5 : (k : Int).toNat = k := Int.toNat_natCast _
          (focus (have hF := (And.intro @e2 (And.intro @n5 @Nat.zero_add)); (repeat' (first | refine go1 (k:=?_) | with_reducible refine Ny.of ?_ ?_ | (refine Hyp.of ?_; intro hc; (try simp only [hc]); (try simp only [Bh] at hc)))); all_goals clear hF))
          refine awp_clear rfl rfl (el := 39) (by with_unfolding_all rfl) (by with_unfolding_all rfl) (by with_unfolding_all rfl) (by with_unfolding_all rfl) (by rw [e2]; omega) (by omega) ?_
          (focus (have hF := (And.intro @e2 (And.intro @n5 @Nat.zero_add)); (repeat' (first | refine go1 (k:=?_) | with_reducible refine Ny.of ?_ ?_ | (refine Hyp.of ?_; intro hc; (try simp only [hc]); (try simp only [Bh] at hc)))); all_goals clear hF))
          refine Fin.done ⟨_, Wk.unview 4 0 0 3 k rfl rfl (by simp only [List.length_append, List.length_take, List.length_replicate, List.length_drop, e2]; omega), _, rfl, ?_, encKs_stb _⟩
          rw [← q5]
          have e3 : ((encKs cur).take k).length = k := by rw [List.length_take, e2]; omega
          rw [List.append_assoc, List.take_append_of_le_length (show k ≤ ((encKs cur).take k).length by omega), List.take_of_length_le (show ((encKs cur).take k).length ≤ k by omega)]
          simp only [encKs, List.map_take]
          rfl
      · rw [decide_eq_false hz]
        (focus (have hF := @e1; (repeat' (first | refine go1 (k:=?_) | with_reducible refine Ny.of ?_ ?_ | (refine Hyp.of ?_; intro hc; (try simp only [hc]); (try simp only [Bh] at hc)))); all_goals clear hF))
        have hs2 : ((j + 1 : Nat) : Int) + 1 = ((j + 1 + 1 : Nat) : Int) := rfl
        (refine Fin.nextW (j + 1) ?_ (have hW := (And.intro @encKs_stb @hs2); stWk); (try dsimp only))
        exact ⟨⟨by omega, fun m a b hm hb ha => by
          by_cases e : m = j
          · subst e
            rw [hx] at ha; rw [hy] at hb; cases ha; cases hb
            exact hz
          · exact hd m a b (by omega) hb ha⟩, by omega⟩
    · rw [cpt_same (Nat.le_refl _) (fun m x y hm => hd m x y (by omega)), List.take_length]
      (focus (have hF := @e1; (repeat' (first | refine go1 (k:=?_) | with_reducible refine Ny.of ?_ ?_ | (refine Hyp.of ?_; intro hc; (try simp only [hc]); (try simp only [Bh] at hc)))); all_goals clear hF))
      exact Fin.done ⟨_, Wk.unview 4 0 0 3 l.length rfl rfl (by rw [e1]; omega), _, rfl, by rw [show (encKs l).take l.length = encKs l by rw [← e1, List.take_length]]; rfl, encKs_stb _⟩
end
def skuOk (r : Rec) : Bool := decide (r.sku.size = 0) || goodS r.sku
def srtE (l : List Rec) : List Rec := if l.all skuOk = true then ordR (keptK l) else []
theorem keptK_can (l : List Rec) : ∀ y ∈ keptK l, CanR y := by
  intro y hy
  unfold keptK at hy
  obtain ⟨r, _, rfl⟩ := List.mem_map.1 hy
  exact canP_norm r.past
theorem keptK_wt {l : List Rec} {W : Nat} (hw : ∀ r ∈ l, wt r.past ≤ W) : ∀ y ∈ keptK l, wt y.past ≤ W + 16 := by
  intro y hy
  unfold keptK at hy
  obtain ⟨r, hr, rfl⟩ := List.mem_map.1 hy
  have := hw r (List.mem_filter.1 hr).1
  have := normP_wt r.past
  simp only
  omega
theorem all_take1 {l : List Rec} {i : Nat} {r : Rec} (h : l[i]? = some r) (h1 : (l.take i).all skuOk = true) (h2 : skuOk r = true) : (l.take (i + 1)).all skuOk = true := by
  rw [List.take_add_one, h, List.all_append, h1]
  simp [h2]
theorem ordR_small {l : List Rec} (h : l.length ≤ 1) : ordR l = l := by
  match l, h with
  | [], _ => rfl
  | [x], _ => rfl
theorem ev_k12 (l : List Rec) (hl : l.length ≤ 1000000000) (hw : ∀ r ∈ l, wt r.past ≤ 40000000) : Ev (En Tryz.prog rfl).P 12 [.sl 3 (encKs l)] (.ret (.tup [.sl 3 (encKs (srtE l)), .int .i64 (if l.all skuOk = true then 0 else 5)])) := by
  refine Ev.of_body it_k12 (by simp) (Run.start ?_)
  unfold t_k12
  have e1 := encKs_len l
  have hS := stbK
  (focus (have hF := @e1; (repeat' (first | refine go1 (k:=?_) | with_reducible refine Ny.of ?_ ?_ | (refine Hyp.of ?_; intro hc; (try simp only [hc]); (try simp only [Bh] at hc)))); all_goals clear hF))
  refine Run.wk (Wk.own_nil 4 30 3 rfl rfl) ?_
  refine Run.while (σ := Nat) (fun i => ⟨tms [(4, .os 30 (keptK (l.take i)).length), (7, .sl 3 (encKs l)), (8, .int .i64 l.length), (9, .int .i64 (i : Int))], mms [(30, .arr (keptK (l.take i)).length 3 (encKs (keptK (l.take i))))]⟩)
    (fun i => i ≤ l.length ∧ (l.take i).all skuOk = true) (fun i => l.length - i) 0 (have hW := @encKs_stb; stWk) ⟨Nat.zero_le _, rfl⟩ ?_
  rintro i ⟨hi, hall⟩
  unfold t_k12_l1
  by_cases hlt : i < l.length
  · obtain ⟨r, hr⟩ : ∃ r, l[i]? = some r := ⟨l[i], by simp [hlt]⟩
    have g1 := encKs_get hr
    have hst := keptK_take hr
    have hle := keptK_len (l.take i)
    have hle2 : (l.take i).length ≤ l.length := by rw [List.length_take]; omega
    generalize keptK (l.take i) = out at hst hle ⊢
    have e2 := encKs_len out
    have hwr := hw r (List.mem_of_getElem? hr)
    have c1 := ev_k54 r.sku
    have c2 := ev_k55 r.past (by omega)
    have c3 := ev_k56 r (by omega)
    have es := str_nil r.sku
    by_cases hz : r.sku.size = 0
    case' pos =>
      have hok : skuOk r = true := by simp [skuOk, hz]
      rw [eq_true hz] at es
      (focus (have hF := (And.intro (And.intro @e1 @e2) (And.intro @g1 @es)); (repeat' (first | refine go1 (k:=?_) | with_reducible refine Ny.of ?_ ?_ | (refine Hyp.of ?_; intro hc; (try simp only [hc]); (try simp only [Bh] at hc)))); all_goals clear hF))
    case' neg =>
      rw [eq_false hz] at es
      by_cases hg : goodS r.sku = true
      case' neg =>
        have hbad : l.all skuOk = false := by
          rw [Bool.eq_false_iff]
          intro h
          have := List.all_eq_true.1 h r (List.mem_of_getElem? hr)
          simp [skuOk, hz, hg] at this
        have hg : goodS r.sku = false := by simpa using hg
        rw [hg] at c1
        unfold srtE
        rw [hbad]
        (focus (have hF := (And.intro (And.intro @e1 @e2) (And.intro @g1 @es)); (repeat' (first | refine go1 (k:=?_) | with_reducible refine Ny.of ?_ ?_ | (refine Hyp.of ?_; intro hc; (try simp only [hc]); (try simp only [Bh] at hc)))); all_goals clear hF))
        refine stCall [.str r.sku] (he := c1) (k:=?_)
        (focus (have hF := (And.intro (And.intro @e1 @e2) (And.intro @g1 @es)); (repeat' (first | refine go1 (k:=?_) | with_reducible refine Ny.of ?_ ?_ | (refine Hyp.of ?_; intro hc; (try simp only [hc]); (try simp only [Bh] at hc)))); all_goals clear hF))
        exact Fin.two rfl rfl rfl rfl (.inr ⟨rfl, 3, rfl⟩) (.inl rfl)
      case' pos =>
        have hok : skuOk r = true := by simp [skuOk, hg]
        rw [hg] at c1
        (focus (have hF := (And.intro (And.intro @e1 @e2) (And.intro @g1 @es)); (repeat' (first | refine go1 (k:=?_) | with_reducible refine Ny.of ?_ ?_ | (refine Hyp.of ?_; intro hc; (try simp only [hc]); (try simp only [Bh] at hc)))); all_goals clear hF))
        refine stCall [.str r.sku] (he := c1) (k:=?_)
        (focus (have hF := (And.intro (And.intro @e1 @e2) (And.intro @g1 @es)); (repeat' (first | refine go1 (k:=?_) | with_reducible refine Ny.of ?_ ?_ | (refine Hyp.of ?_; intro hc; (try simp only [hc]); (try simp only [Bh] at hc)))); all_goals clear hF))
    all_goals
      have hall2 := all_take1 hr hall hok
      refine stCall [encP r.past] (he := c2) (k:=?_)
      by_cases hs : sizeP r.past = 0
      · rw [if_pos hs, List.append_nil] at hst
        rw [decide_eq_true hs]
        (focus (have hF := (And.intro @e1 (And.intro @e2 @g1)); (repeat' (first | refine go1 (k:=?_) | with_reducible refine Ny.of ?_ ?_ | (refine Hyp.of ?_; intro hc; (try simp only [hc]); (try simp only [Bh] at hc)))); all_goals clear hF))
        (refine Fin.nextW (i + 1) ?_ (have hW := (And.intro @encKs_stb @hst); stWk); (try dsimp only))
        exact ⟨⟨hlt, hall2⟩, by omega⟩
      · rw [if_neg hs] at hst
        rw [decide_eq_false hs]
        (focus (have hF := (And.intro @e1 (And.intro @e2 @g1)); (repeat' (first | refine go1 (k:=?_) | with_reducible refine Ny.of ?_ ?_ | (refine Hyp.of ?_; intro hc; (try simp only [hc]); (try simp only [Bh] at hc)))); all_goals clear hF))
        refine stCall [encK r] (he := c3) (k:=?_)
        unfold encK
        (focus (have hF := (And.intro @e1 (And.intro @e2 @g1)); (repeat' (first | refine go1 (k:=?_) | with_reducible refine Ny.of ?_ ?_ | (refine Hyp.of ?_; intro hc; (try simp only [hc]); (try simp only [Bh] at hc)))); all_goals clear hF))
        (refine Fin.nextW (i + 1) ?_ (have hW := (And.intro @encKs_stb (And.intro @hst @encKs_snoc)); stWk); (try dsimp only))
        exact ⟨⟨hlt, hall2⟩, by omega⟩
  · rw [List.take_of_length_le (show l.length ≤ i by omega)] at hall ⊢
    unfold srtE
    rw [hall, if_pos rfl, if_pos rfl]
    have hk := encKs_len (keptK l)
    have hkl := keptK_len l
    have hcan := keptK_can l
    have hkw := keptK_wt hw
    by_cases h1 : (keptK l).length ≤ 1
    · rw [ordR_small h1]
      refine Run.wk (Wk.give ⟨no_of_stb (encKs_stb l), rfl, rfl, trivial⟩ trivial rfl (encKs_stb _)) ?_
      have c1 := ev_sort1 (encKs (keptK l)) (by omega) 19 (encKs_stb _)
      have c2 := ev_compact1 (encKs (keptK l)) (by omega) 59 (encKs_stb _)
      generalize keptK l = out at *
      (focus (have hF := (And.intro @e1 @hk); (repeat' (first | refine go1 (k:=?_) | with_reducible refine Ny.of ?_ ?_ | (refine Hyp.of ?_; intro hc; (try simp only [hc]); (try simp only [Bh] at hc)))); all_goals clear hF))
      refine stCall [.sl 3 (encKs out), .fn 19 []] (he := c1) (k:=?_)
      (focus (have hF := (And.intro @e1 @hk); (repeat' (first | refine go1 (k:=?_) | with_reducible refine Ny.of ?_ ?_ | (refine Hyp.of ?_; intro hc; (try simp only [hc]); (try simp only [Bh] at hc)))); all_goals clear hF))
      refine stCall [.sl 3 (encKs out), .fn 59 []] (he := c2) (k:=?_)
      (focus (have hF := (And.intro @e1 @hk); (repeat' (first | refine go1 (k:=?_) | with_reducible refine Ny.of ?_ ?_ | (refine Hyp.of ?_; intro hc; (try simp only [hc]); (try simp only [Bh] at hc)))); all_goals clear hF))
      exact Fin.two rfl (encKs_stb _) rfl rfl (.inl rfl) (.inl rfl)
    · obtain ⟨s, hp, hs, hsort⟩ := ev_sortRecs (keptK l) (fun r hr => by have := hkw r hr; omega) (by omega) (by omega)
      have hsl := hp.length_eq
      have hord := cpt_ord hp hs hcan
      have hcomp := ev_compact s (fun r hr => by have := hkw r (hp.mem_iff.1 hr); omega) (by omega)
      rw [hord] at hcomp
      generalize keptK l = out at *
      (focus (have hF := (And.intro @e1 @hk); (repeat' (first | refine go1 (k:=?_) | with_reducible refine Ny.of ?_ ?_ | (refine Hyp.of ?_; intro hc; (try simp only [hc]); (try simp only [Bh] at hc)))); all_goals clear hF))
      refine awp_turn (args' := [.undef, .fn 19 []]) 0 30 rfl rfl rfl rfl rfl (encKs_stb _) (encKs_stb s) rfl hsort ?_
      (focus (have hF := @e1; (repeat' (first | refine go1 (k:=?_) | with_reducible refine Ny.of ?_ ?_ | (refine Hyp.of ?_; intro hc; (try simp only [hc]); (try simp only [Bh] at hc)))); all_goals clear hF))
      refine awp_back (args' := [.undef, .fn 59 []]) 0 30 rfl rfl rfl rfl rfl (encKs_stb _) (encKs_stb _) hcomp ?_
      (focus (have hF := @e1; (repeat' (first | refine go1 (k:=?_) | with_reducible refine Ny.of ?_ ?_ | (refine Hyp.of ?_; intro hc; (try simp only [hc]); (try simp only [Bh] at hc)))); all_goals clear hF))
      exact Fin.two (x := .sl 3 (encKs (ordR out))) (by simp [fz, fzc, allK, upd, tms, mms]) (encKs_stb _) rfl rfl (.inl rfl) (.inl rfl)




structure MrS where
  i : Nat
  j : Nat
  out : List Rec

def r_k127_1 : List SOp := [⟨some 4,.assign (.const (.slice none 0 0)),none⟩]
instance : Live r_k127_1 := ⟨[0,1]⟩
def r_k127_2 : List SOp := [⟨some 5,.move (.tmp 1),none⟩,⟨some 6,.binOp .lss 3 (.tmp 5) (.const (.int .i64 0)) 3,none⟩]
instance : Live r_k127_2 := ⟨[0,1]⟩
def r_k127_3 : List SOp := [⟨some 7,.makeInterface 9 (.const (.string ⟨#[99,97,110,110,111,116,32,98,101,32,110,101,103,97,116,105,118,101]⟩)),none⟩,⟨none,.panic (.tmp 7),none⟩]
instance : Live r_k127_3 := ⟨[0,1]⟩
def r_k127_4 : List SOp := [⟨some 8,.move (.tmp 1),none⟩,⟨some 9,.move (.tmp 0),none⟩,⟨some 10,.call ⟨.builtin .cap,#[.tmp 9],#[22]⟩,none⟩,⟨some 11,.move (.tmp 0),none⟩,⟨some 12,.call ⟨.builtin .len,#[.tmp 11],#[22]⟩,none⟩,⟨some 13,.binOp .sub 3 (.tmp 10) (.tmp 12) 3,none⟩,⟨some 14,.binOp .sub 3 (.tmp 8) (.tmp 13) 3,none⟩,⟨some 1,.assign (.tmp 14),none⟩]
instance : Live r_k127_4 := ⟨[0,1]⟩
def r_k127_5 : List SOp := [⟨some 15,.move (.tmp 1),none⟩,⟨some 16,.binOp .gtr 3 (.tmp 15) (.const (.int .i64 0)) 3,none⟩]
instance : Live r_k127_5 := ⟨[0,1]⟩
def r_k127_6 : List SOp := [⟨some 17,.move (.tmp 0),none⟩,⟨some 18,.move (.tmp 0),none⟩,⟨some 19,.call ⟨.builtin .cap,#[.tmp 18],#[22]⟩,none⟩,⟨some 20,.slice 22 (.tmp 17) none (some (.tmp 19)) none,none⟩,⟨some 21,.move (.tmp 1),none⟩,⟨some 22,.call ⟨.builtin .append,#[.tmp 20,.tmp 21],#[22,3]⟩,none⟩,⟨some 23,.move (.tmp 0),none⟩,⟨some 24,.call ⟨.builtin .len,#[.tmp 23],#[22]⟩,none⟩,⟨some 25,.slice 22 (.tmp 22) none (some (.tmp 24)) none,none⟩,⟨some 0,.assign (.tmp 25),none⟩]
instance : Live r_k127_6 := ⟨[0,1]⟩
def r_k127_7 : List SOp := [⟨some 26,.move (.tmp 0),none⟩,⟨some 4,.assign (.tmp 26),none⟩]
instance : Live r_k127_7 := ⟨[0]⟩
def t_k127 : SC :=
  (.seq (.ops false r_k127_1) (.seq (.seq (.ops false r_k127_2) (.cond (.tmp 6) (.ops false r_k127_3) .skip)) (.seq (.seq (.ops false r_k127_4) (.seq (.ops false r_k127_5) (.cond (.tmp 16) (.ops false r_k127_6) .skip))) (.seq (.ops false r_k127_7) .ret))))
theorem it_k127 : FnIs Tryz.prog 127 27 [.tmp 4] t_k127 := ⟨Tryz.f127, _, Tryz.func127, rfl, rfl, rfl, rfl, by kernel_rfl⟩

def r_k82_1 : List SOp := [⟨some 2,.assign (.const (.slice none 0 0)),none⟩]
instance : Live r_k82_1 := ⟨[0]⟩
def r_k82_2 : List SOp := [⟨some 3,.assign (.const (.int .i64 0)),none⟩]
instance : Live r_k82_2 := ⟨[0]⟩
def r_k82_3 : List SOp := [⟨some 9,.move (.tmp 0),none⟩,⟨some 10,.call ⟨.builtin .len,#[.tmp 9],#[31]⟩,none⟩,⟨some 11,.move (.const (.int .i64 0)),none⟩]
instance : Live r_k82_3 := ⟨[0,3]⟩
def r_k82_4 : List SOp := [⟨some 12,.binOp .lss 3 (.tmp 11) (.tmp 10) 3,none⟩]
instance : Live r_k82_4 := ⟨[0,3,9,10,11]⟩
def r_k82_5 : List SOp := [⟨some 13,.indexAddr 31 (.tmp 9) (.tmp 11),none⟩,⟨some 14,.load 22 (.tmp 13),none⟩,⟨some 5,.assign (.tmp 14),none⟩]
instance : Live r_k82_5 := ⟨[0,3,9,10,11]⟩
def r_k82_6 : List SOp := [⟨some 15,.move (.tmp 3),none⟩,⟨some 16,.move (.tmp 5),none⟩,⟨some 17,.call ⟨.builtin .len,#[.tmp 16],#[22]⟩,none⟩,⟨some 18,.binOp .add 3 (.tmp 15) (.tmp 17) 3,none⟩,⟨some 3,.assign (.tmp 18),none⟩]
instance : Live r_k82_6 := ⟨[0,3,5,9,10,11]⟩
def r_k82_7 : List SOp := [⟨some 19,.move (.tmp 3),none⟩,⟨some 20,.binOp .lss 3 (.tmp 19) (.const (.int .i64 0)) 3,none⟩]
instance : Live r_k82_7 := ⟨[0,3,9,10,11]⟩
def r_k82_8 : List SOp := [⟨some 21,.makeInterface 9 (.const (.string ⟨#[108,101,110,32,111,117,116,32,111,102,32,114,97,110,103,101]⟩)),none⟩,⟨none,.panic (.tmp 21),none⟩]
instance : Live r_k82_8 := ⟨[0,3,9,10,11]⟩
def r_k82_9 : List SOp := [⟨some 22,.binOp .add 3 (.tmp 11) (.const (.int .i64 1)) 3,none⟩,⟨some 11,.move (.tmp 22),none⟩]
instance : Live r_k82_9 := ⟨[0,3,9,10,11]⟩
def r_k82_10 : List SOp := [⟨some 23,.move (.tmp 3),none⟩,⟨some 24,.call ⟨.value (.func 127),#[.const (.slice none 0 0),.tmp 23],#[22,3]⟩,none⟩,⟨some 6,.assign (.tmp 24),none⟩]
instance : Live r_k82_10 := ⟨[0,3]⟩
def r_k82_11 : List SOp := [⟨some 25,.move (.tmp 0),none⟩,⟨some 26,.call ⟨.builtin .len,#[.tmp 25],#[31]⟩,none⟩,⟨some 27,.move (.const (.int .i64 0)),none⟩]
instance : Live r_k82_11 := ⟨[0,6]⟩
def r_k82_12 : List SOp := [⟨some 28,.binOp .lss 3 (.tmp 27) (.tmp 26) 3,none⟩]
instance : Live r_k82_12 := ⟨[6,25,26,27]⟩
def r_k82_13 : List SOp := [⟨some 29,.indexAddr 31 (.tmp 25) (.tmp 27),none⟩,⟨some 30,.load 22 (.tmp 29),none⟩,⟨some 8,.assign (.tmp 30),none⟩]
instance : Live r_k82_13 := ⟨[6,25,26,27]⟩
def r_k82_14 : List SOp := [⟨some 31,.move (.tmp 6),none⟩,⟨some 32,.move (.tmp 8),none⟩,⟨some 33,.call ⟨.builtin .append,#[.tmp 31,.tmp 32],#[22,22]⟩,none⟩,⟨some 6,.assign (.tmp 33),none⟩]
instance : Live r_k82_14 := ⟨[6,8,25,26,27]⟩
def r_k82_15 : List SOp := [⟨some 34,.binOp .add 3 (.tmp 27) (.const (.int .i64 1)) 3,none⟩,⟨some 27,.move (.tmp 34),none⟩]
instance : Live r_k82_15 := ⟨[6,25,26,27]⟩
def r_k82_16 : List SOp := [⟨some 35,.move (.tmp 6),none⟩,⟨some 2,.assign (.tmp 35),none⟩]
instance : Live r_k82_16 := ⟨[6]⟩
def t_k82_l1 : SC :=
  (.seq (.ops false r_k82_4) (.seq (.cond (.tmp 12) .skip (.exit 0)) (.seq (.block 1 (.seq (.ops false r_k82_5) (.seq (.ops false r_k82_6) (.seq (.ops false r_k82_7) (.cond (.tmp 20) (.ops false r_k82_8) .skip))))) (.ops false r_k82_9))))
def t_k82_l2 : SC :=
  (.seq (.ops false r_k82_12) (.seq (.cond (.tmp 28) .skip (.exit 2)) (.seq (.block 3 (.seq (.ops false r_k82_13) (.ops false r_k82_14))) (.ops false r_k82_15))))
def t_k82 : SC :=
  (.seq (.ops false r_k82_1) (.seq (.ops false r_k82_2) (.seq (.seq (.ops false r_k82_3) (.block 0 (.loop t_k82_l1))) (.seq (.ops false r_k82_10) (.seq (.seq (.ops false r_k82_11) (.block 2 (.loop t_k82_l2))) (.seq (.ops false r_k82_16) .ret))))))
theorem it_k82 : FnIs Tryz.prog 82 36 [.tmp 2] t_k82 := ⟨Tryz.f82, _, Tryz.func82, rfl, rfl, rfl, rfl, by kernel_rfl⟩

def r_k36_1 : List SOp := [⟨some 4,.assign (.const (.slice none 0 0)),none⟩,⟨some 5,.assign (.const (.int .i64 0)),none⟩]
instance : Live r_k36_1 := ⟨[0,1]⟩
def r_k36_2 : List SOp := [⟨some 6,.move (.tmp 0),none⟩,⟨some 7,.call ⟨.value (.func 14),#[.tmp 6],#[22]⟩,none⟩,⟨some 8,.binOp .neq 32 (.tmp 7) (.const (.int .i64 0)) 32,none⟩,⟨some 9,.move (.tmp 8),none⟩,⟨some 10,.move (.tmp 1),some ((some 9),false)⟩,⟨some 11,.call ⟨.value (.func 14),#[.tmp 10],#[22]⟩,some ((some 9),false)⟩,⟨some 12,.binOp .neq 32 (.tmp 11) (.const (.int .i64 0)) 32,some ((some 9),false)⟩,⟨some 13,.pick (.tmp 9) (.const (.bool true)) (.tmp 12),none⟩]
instance : Live r_k36_2 := ⟨[0,1]⟩
def r_k36_3 : List SOp := [⟨some 4,.assign (.const (.slice none 0 0)),none⟩,⟨some 5,.assign (.const (.int .i64 1)),none⟩]
instance : Live r_k36_3 := ⟨[]⟩
def r_k36_4 : List SOp := [⟨some 14,.move (.tmp 0),none⟩,⟨some 15,.move (.tmp 1),none⟩,⟨some 16,.buildSlice 31 2 #[(0,.tmp 14),(1,.tmp 15)],none⟩,⟨some 17,.call ⟨.value (.func 82),#[.tmp 16],#[31]⟩,none⟩,⟨some 18,.call ⟨.value (.func 12),#[.tmp 17],#[22]⟩,none⟩,⟨some 19,.extract (.tmp 18) 0,none⟩,⟨some 20,.extract (.tmp 18) 1,none⟩,⟨some 4,.assign (.tmp 19),none⟩,⟨some 5,.assign (.tmp 20),none⟩]
instance : Live r_k36_4 := ⟨[0,1]⟩
def t_k36 : SC :=
  (.seq (.ops false r_k36_1) (.seq (.seq (.ops false r_k36_2) (.cond (.tmp 13) (.seq (.ops false r_k36_3) .ret) .skip)) (.seq (.ops false r_k36_4) .ret)))
theorem it_k36 : FnIs Tryz.prog 36 21 [.tmp 4, .tmp 5] t_k36 := ⟨Tryz.f36, _, Tryz.func36, rfl, rfl, rfl, rfl, by kernel_rfl⟩


theorem ev_growRec (m : Nat) (hm : m ≤ 100000000) : EvFresh (En Tryz.prog rfl).P 127 [.nil, .int .i64 (m : Int)] 3 [] := by
  refine EvFresh.of_body it_k127 (by simp) (AW.wkEnd (Run.start ?_))
  unfold t_k127
  (focus (have hF := True.intro; (repeat' (first | refine go1 (k:=?_) | with_reducible refine Ny.of ?_ ?_ | (refine Hyp.of ?_; intro hc; (try simp only [hc]); (try simp only [Bh] at hc)))); all_goals clear hF))
  refine awp_hook (hook_capnil (En Tryz.prog rfl).hT rfl (by with_unfolding_all rfl) (el := 39) (by with_unfolding_all rfl)) ?_
  rintro v M' ⟨rfl, rfl⟩
  dsimp only [AS.put]
  (focus (have hF := True.intro; (repeat' (first | refine go1 (k:=?_) | with_reducible refine Ny.of ?_ ?_ | (refine Hyp.of ?_; intro hc; (try simp only [hc]); (try simp only [Bh] at hc)))); all_goals clear hF))
  · refine awp_hook (hook_capnil (En Tryz.prog rfl).hT rfl (by with_unfolding_all rfl) (el := 39) (by with_unfolding_all rfl)) ?_
    rintro v M' ⟨rfl, rfl⟩
    dsimp only [AS.put]
    (focus (have hF := True.intro; (repeat' (first | refine go1 (k:=?_) | with_reducible refine Ny.of ?_ ?_ | (refine Hyp.of ?_; intro hc; (try simp only [hc]); (try simp only [Bh] at hc)))); all_goals clear hF))
    refine awp_hook (hook_zeros (En Tryz.prog rfl).hT (m := m) 22 rfl rfl (by omega) (by omega) (by with_unfolding_all rfl) (el := 39) (by with_unfolding_all rfl) (by with_unfolding_all rfl) (ik := .i64) (by with_unfolding_all rfl) (by with_unfolding_all rfl) (by with_unfolding_all rfl) (show m * 64 ≤ 281474976710656 by omega) rfl) ?_
    rintro v M' ⟨rfl, rfl⟩
    dsimp only [AS.put]
    refine dv (v := .nil) (ups := []) rfl (by with_unfolding_all rfl) (by with_unfolding_all rfl) rfl ?_
    refine dv (v := .int .i64 0) (ups := []) rfl (by with_unfolding_all rfl) (by with_unfolding_all rfl) rfl ?_
    dsimp only [AS.put, ap]
    refine awp_hook (hook_take (En Tryz.prog rfl).hT (m := 0) (k := 22) (e := 0) (sz := 3) rfl rfl rfl (Nat.zero_le _) (by with_unfolding_all rfl) (el := 39) (by with_unfolding_all rfl) (by with_unfolding_all rfl) rfl) ?_
    rintro v M' ⟨rfl, rfl⟩
    dsimp only [AS.put]
    (focus (have hF := True.intro; (repeat' (first | refine go1 (k:=?_) | with_reducible refine Ny.of ?_ ?_ | (refine Hyp.of ?_; intro hc; (try simp only [hc]); (try simp only [Bh] at hc)))); all_goals clear hF))
    exact Fin.done ⟨_, Wk.refl _ _, 22, 1, rfl, rfl, rfl⟩
  · exact Fin.done ⟨_, Wk.own_nil 4 22 3 rfl rfl, 22, 0, rfl, rfl, rfl⟩
theorem encKs_app (a b : List Rec) : encKs a ++ encKs b = encKs (a ++ b) := by simp [encKs]
theorem ev_concatRec (a b : List Rec) (ha : a.length ≤ 10000000) (hb : b.length ≤ 10000000) : Ev (En Tryz.prog rfl).P 82 [.sl 1 [.sl 3 (encKs a), .sl 3 (encKs b)]] (.ret (.sl 3 (encKs (a ++ b)))) := by
  refine Ev.of_body it_k82 (by simp) (Run.start ?_)
  unfold t_k82
  obtain ⟨Ls, hLs⟩ : ∃ Ls, [AVal.sl 3 (encKs a), AVal.sl 3 (encKs b)] = Ls := ⟨_, rfl⟩
  rw [hLs]
  have hLl : Ls.length = 2 := by rw [← hLs]; rfl
  have hLst : stbs Ls = true := by rw [← hLs]; simp [stbs, AVal.stb, encKs_stb]
  have hL0 : Ls[0]? = some (.sl 3 (encKs a)) := by rw [← hLs]; rfl
  have hL1 : Ls[1]? = some (.sl 3 (encKs b)) := by rw [← hLs]; rfl
  clear hLs
  have e1 := encKs_len a
  have e2 := encKs_len b
  have hLg : ∀ i, i < 2 → ∃ l, Ls[i]? = some (.sl 3 (encKs l)) ∧ l.length ≤ 10000000 ∧ (if i = 0 then [] else a) ++ l = if i + 1 = 1 then a else a ++ b := by
    intro i hi
    match i, hi with
    | 0, _ => exact ⟨a, hL0, ha, by simp⟩
    | 1, _ => exact ⟨b, hL1, hb, by simp⟩
  have hA : ∃ A : Nat → List Rec, A 0 = [] ∧ A 2 = a ++ b ∧ ∀ i, i < 2 → ∃ l, Ls[i]? = some (.sl 3 (encKs l)) ∧ l.length ≤ 10000000 ∧ A i ++ l = A (i + 1) :=
    ⟨fun i => if i = 0 then [] else if i = 1 then a else a ++ b, rfl, rfl, fun i hi => by
      match i, hi with
      | 0, _ => exact ⟨a, hL0, ha, by simp⟩
      | 1, _ => exact ⟨b, hL1, hb, by simp⟩⟩
  obtain ⟨A, hA0, hA2, hA⟩ := hA
  have hAl : ∀ i, i ≤ 2 → (A i).length ≤ 10000000 * i := by
    intro i
    induction i with
    | zero => intro _; rw [hA0]; simp
    | succ i ih =>
      intro hi
      obtain ⟨l, _, h2, h3⟩ := hA i (by omega)
      have := ih (by omega)
      rw [← h3, List.length_append]
      omega
  clear hLg hL0 hL1
  have hA0l : (A 0).length = 0 := by rw [hA0]; rfl
  have hA2l : (A 2).length ≤ 20000000 := hAl 2 (by omega)
  (focus (have hF := @hLl; (repeat' (first | refine go1 (k:=?_) | with_reducible refine Ny.of ?_ ?_ | (refine Hyp.of ?_; intro hc; (try simp only [hc]); (try simp only [Bh] at hc)))); all_goals clear hF))
  refine Run.while (σ := Nat) (fun i => ⟨tms [(0, .sl 1 Ls), (3, .int .i64 ((A i).length : Int)), (9, .sl 1 Ls), (10, .int .i64 2), (11, .int .i64 (i : Int))], mms []⟩)
    (fun i => i ≤ 2) (fun i => 2 - i) 0 (have hW := (And.intro @hLst @hA0l); stWk) (Nat.zero_le _) ?_
  intro i hi
  unfold t_k82_l1
  by_cases hlt : i < 2
  · obtain ⟨l, gl, hll, hal⟩ := hA i hlt
    have hb1 := hAl i (by omega)
    have hs : ((A i).length : Int) + (l.length : Int) = ((A (i + 1)).length : Int) := by rw [← hal, List.length_append]; omega
    have el := encKs_len l
    have hn : ¬ ((A (i + 1)).length : Int) < 0 := by omega
    have hb2 := hAl (i + 1) (by omega)
    have hwr : IntKind.i64.wrap ((A (i + 1)).length : Int) = ((A (i + 1)).length : Int) := wrap_ok (by omega)
    (focus (have hF := (And.intro (And.intro @hLl (And.intro @gl @el)) (And.intro @hs (And.intro @hn @hwr))); (repeat' (first | refine go1 (k:=?_) | with_reducible refine Ny.of ?_ ?_ | (refine Hyp.of ?_; intro hc; (try simp only [hc]); (try simp only [Bh] at hc)))); all_goals clear hF))
    (refine Fin.nextW (i + 1) ?_ (have hW := @hLst; stWk); (try dsimp only))
    omega
  · have hi2 : i = 2 := by omega
    subst hi2
    (focus (have hF := @hLl; (repeat' (first | refine go1 (k:=?_) | with_reducible refine Ny.of ?_ ?_ | (refine Hyp.of ?_; intro hc; (try simp only [hc]); (try simp only [Bh] at hc)))); all_goals clear hF))
    refine awp_hook (hook_fresh (f := 127) (caps := []) 24 rfl rfl rfl (ev_growRec (A 2).length (by omega)) rfl) ?_
    rintro v M' ⟨rfl, rfl⟩
    dsimp only [AS.put]
    (focus (have hF := @hLl; (repeat' (first | refine go1 (k:=?_) | with_reducible refine Ny.of ?_ ?_ | (refine Hyp.of ?_; intro hc; (try simp only [hc]); (try simp only [Bh] at hc)))); all_goals clear hF))
    have hA0e : encKs (A 0) = [] := by rw [hA0]; rfl
    refine Run.while (σ := Nat) (fun i => ⟨tms [(6, .os 24 i), (25, .sl 1 Ls), (26, .int .i64 2), (27, .int .i64 (i : Int))], mms [(24, .arr i 3 (encKs (A i)))]⟩)
      (fun i => i ≤ 2) (fun i => 2 - i) 0 (have hW := (And.intro @hLst (And.intro @hA0e @encKs_stb)); stWk) (Nat.zero_le _) ?_
    intro i hi
    unfold t_k82_l2
    by_cases hlt : i < 2
    · obtain ⟨l, gl, hll, hal⟩ := hA i hlt
      have hb1 := hAl i (by omega)
      have el := encKs_len l
      have e3 := encKs_len (A i)
      have hap : encKs (A i) ++ encKs l = encKs (A (i + 1)) := by rw [encKs_app, hal]
      (focus (have hF := (And.intro (And.intro @hLl @gl) (And.intro @el @e3)); (repeat' (first | refine go1 (k:=?_) | with_reducible refine Ny.of ?_ ?_ | (refine Hyp.of ?_; intro hc; (try simp only [hc]); (try simp only [Bh] at hc)))); all_goals clear hF))
      (refine Fin.nextW (i + 1) ?_ (have hW := (And.intro @hLst (And.intro @encKs_stb @hap)); stWk); (try dsimp only))
      omega
    · have hi2 : i = 2 := by omega
      subst hi2
      rw [← hA2]
      (focus (have hF := @hLl; (repeat' (first | refine go1 (k:=?_) | with_reducible refine Ny.of ?_ ?_ | (refine Hyp.of ?_; intro hc; (try simp only [hc]); (try simp only [Bh] at hc)))); all_goals clear hF))
      exact Fin.tmp' (by simp [fz, fzc, allK, upd, tms, mms]) (encKs_stb _)
theorem skuOk_of {r : Rec} (h : recErr r = 0) : skuOk r = true := by
  unfold recErr at h
  unfold skuOk
  split at h
  · omega
  · rename_i h1
    by_cases h2 : r.sku.size = 0
    · simp [h2]
    · by_cases h3 : goodS r.sku = true
      · simp [h3]
      · exact absurd ⟨h2, by simpa using h3⟩ h1
theorem canR_of {r : Rec} (h : recErr r = 0) : CanR r ∧ sizeP r.past ≠ 0 := by
  unfold recErr at h
  split at h
  · omega
  · split at h
    · omega
    · rename_i h1
      simp only [not_or] at h1
      exact ⟨isNormP_iff.1 (by simpa using h1.1), h1.2⟩
theorem formK_can {l : List Rec} (h : FormK l) : ∀ r ∈ l, CanR r ∧ sizeP r.past ≠ 0 ∧ skuOk r = true := by
  intro r hr
  obtain ⟨i, hi⟩ := List.mem_iff_getElem?.1 hr
  have := h.1 i r hi
  exact ⟨(canR_of this).1, (canR_of this).2, skuOk_of this⟩
theorem keptK_form {l : List Rec} (h : ∀ r ∈ l, CanR r ∧ sizeP r.past ≠ 0) : keptK l = l := by
  unfold keptK
  rw [List.filter_eq_self.2 fun r hr => by simp [(h r hr).2]]
  have : l.map (fun r => (⟨r.sku, normP r.past⟩ : Rec)) = l.map id := List.map_congr_left fun r hr => by
    have := (h r hr).1
    unfold CanR at this
    rw [this]
    rfl
  rw [this, List.map_id]
noncomputable def unionK (a b : List Rec) : List Rec := if formK a = true ∧ formK b = true then ordR (a ++ b) else []
theorem srtE_form {a b : List Rec} (ha : FormK a) (hb : FormK b) : (a ++ b).all skuOk = true ∧ srtE (a ++ b) = ordR (a ++ b) := by
  have hab : ∀ r ∈ a ++ b, CanR r ∧ sizeP r.past ≠ 0 ∧ skuOk r = true := fun r hr => (List.mem_append.1 hr).elim (formK_can ha r) (formK_can hb r)
  have h1 : (a ++ b).all skuOk = true := List.all_eq_true.2 fun r hr => (hab r hr).2.2
  refine ⟨h1, ?_⟩
  unfold srtE
  rw [if_pos h1, keptK_form fun r hr => ⟨(hab r hr).1, (hab r hr).2.1⟩]
theorem ev_k36 (a b : List Rec) (ha : a.length ≤ 10000000) (hb : b.length ≤ 10000000) (hwa : ∀ r ∈ a, wt r.past ≤ 40000000) (hwb : ∀ r ∈ b, wt r.past ≤ 40000000) :
    Ev (En Tryz.prog rfl).P 36 [.sl 3 (encKs a), .sl 3 (encKs b)] (.ret (.tup [.sl 3 (encKs (unionK a b)), .int .i64 (if formK a = true ∧ formK b = true then 0 else 1)])) := by
  refine Ev.of_body it_k36 (by simp) (Run.start ?_)
  unfold t_k36 unionK
  have hS := stbK
  have c1 := ev_keepCheckW a (by omega) hwa
  have c2 := ev_keepCheckW b (by omega) hwb
  by_cases hfa : formK a = true
  case' neg =>
    rw [if_neg hfa] at c1
    rw [if_neg (fun h => hfa h.1), if_neg (fun h => hfa h.1)]
    (focus (have hF := True.intro; (repeat' (first | refine go1 (k:=?_) | with_reducible refine Ny.of ?_ ?_ | (refine Hyp.of ?_; intro hc; (try simp only [hc]); (try simp only [Bh] at hc)))); all_goals clear hF))
    refine stCall [.sl 3 (encKs a)] (he := c1) (k:=?_)
    (focus (have hF := True.intro; (repeat' (first | refine go1 (k:=?_) | with_reducible refine Ny.of ?_ ?_ | (refine Hyp.of ?_; intro hc; (try simp only [hc]); (try simp only [Bh] at hc)))); all_goals clear hF))
    exact Fin.two rfl rfl rfl rfl (.inr ⟨rfl, 3, rfl⟩) (.inl rfl)
  case' pos =>
    rw [if_pos hfa] at c1
    by_cases hfb : formK b = true
    case' neg =>
      rw [if_neg hfb] at c2
      rw [if_neg (fun h => hfb h.2), if_neg (fun h => hfb h.2)]
      (focus (have hF := True.intro; (repeat' (first | refine go1 (k:=?_) | with_reducible refine Ny.of ?_ ?_ | (refine Hyp.of ?_; intro hc; (try simp only [hc]); (try simp only [Bh] at hc)))); all_goals clear hF))
      refine stCall [.sl 3 (encKs a)] (he := c1) (k:=?_)
      (focus (have hF := True.intro; (repeat' (first | refine go1 (k:=?_) | with_reducible refine Ny.of ?_ ?_ | (refine Hyp.of ?_; intro hc; (try simp only [hc]); (try simp only [Bh] at hc)))); all_goals clear hF))
      refine stCall [.sl 3 (encKs b)] (he := c2) (k:=?_)
      (focus (have hF := True.intro; (repeat' (first | refine go1 (k:=?_) | with_reducible refine Ny.of ?_ ?_ | (refine Hyp.of ?_; intro hc; (try simp only [hc]); (try simp only [Bh] at hc)))); all_goals clear hF))
      exact Fin.two rfl rfl rfl rfl (.inr ⟨rfl, 3, rfl⟩) (.inl rfl)
    case' pos =>
      rw [if_pos hfb] at c2
      rw [if_pos ⟨hfa, hfb⟩, if_pos ⟨hfa, hfb⟩]
      obtain ⟨s1, s2⟩ := srtE_form (formK_iff.1 hfa) (formK_iff.1 hfb)
      have c3 := ev_concatRec a b ha hb
      have c4 := ev_k12 (a ++ b) (by simp; omega) (fun r hr => (List.mem_append.1 hr).elim (hwa r) (hwb r))
      rw [s2, s1, if_pos rfl] at c4
      generalize a ++ b = l at *
      generalize ordR l = o at *
      (focus (have hF := True.intro; (repeat' (first | refine go1 (k:=?_) | with_reducible refine Ny.of ?_ ?_ | (refine Hyp.of ?_; intro hc; (try simp only [hc]); (try simp only [Bh] at hc)))); all_goals clear hF))
      refine stCall [.sl 3 (encKs a)] (he := c1) (k:=?_)
      (focus (have hF := True.intro; (repeat' (first | refine go1 (k:=?_) | with_reducible refine Ny.of ?_ ?_ | (refine Hyp.of ?_; intro hc; (try simp only [hc]); (try simp only [Bh] at hc)))); all_goals clear hF))
      refine stCall [.sl 3 (encKs b)] (he := c2) (k:=?_)
      (focus (have hF := True.intro; (repeat' (first | refine go1 (k:=?_) | with_reducible refine Ny.of ?_ ?_ | (refine Hyp.of ?_; intro hc; (try simp only [hc]); (try simp only [Bh] at hc)))); all_goals clear hF))
      refine stCall [.sl 1 [.sl 3 (encKs a), .sl 3 (encKs b)]] (he := c3) (k:=?_)
      (focus (have hF := True.intro; (repeat' (first | refine go1 (k:=?_) | with_reducible refine Ny.of ?_ ?_ | (refine Hyp.of ?_; intro hc; (try simp only [hc]); (try simp only [Bh] at hc)))); all_goals clear hF))
      refine stCall [.sl 3 (encKs l)] (he := c4) (k:=?_)
      (focus (have hF := True.intro; (repeat' (first | refine go1 (k:=?_) | with_reducible refine Ny.of ?_ ?_ | (refine Hyp.of ?_; intro hc; (try simp only [hc]); (try simp only [Bh] at hc)))); all_goals clear hF))
      exact Fin.two rfl (encKs_stb _) rfl rfl (.inl rfl) (.inl rfl)

def r_k38_1 : List SOp := [⟨some 3,.box 27 (.tmp 1),none⟩,⟨some 4,.assign (.const (.slice none 0 0)),none⟩,⟨some 5,.assign (.const (.int .i64 0)),none⟩]
instance : Live r_k38_1 := ⟨[0,1]⟩
def r_k38_2 : List SOp := [⟨some 9,.move (.tmp 0),none⟩,⟨some 10,.call ⟨.value (.func 14),#[.tmp 9],#[22]⟩,none⟩,⟨some 11,.binOp .neq 32 (.tmp 10) (.const (.int .i64 0)) 32,none⟩,⟨some 12,.move (.tmp 11),none⟩,⟨some 13,.load 27 (.tmp 3),some ((some 12),false)⟩,⟨some 14,.call ⟨.value (.func 65),#[.tmp 13],#[27]⟩,some ((some 12),false)⟩,⟨some 15,.unOp .not 4 (.tmp 14),some ((some 12),false)⟩,⟨some 16,.pick (.tmp 12) (.const (.bool true)) (.tmp 15),none⟩]
instance : Live r_k38_2 := ⟨[0,3]⟩
def r_k38_3 : List SOp := [⟨some 4,.assign (.const (.slice none 0 0)),none⟩,⟨some 5,.assign (.const (.int .i64 1)),none⟩]
instance : Live r_k38_3 := ⟨[]⟩
def r_k38_4 : List SOp := [⟨some 6,.assign (.const (.slice none 0 0)),none⟩]
instance : Live r_k38_4 := ⟨[0,3]⟩
def r_k38_5 : List SOp := [⟨some 17,.move (.tmp 0),none⟩,⟨some 18,.call ⟨.builtin .len,#[.tmp 17],#[22]⟩,none⟩,⟨some 19,.move (.const (.int .i64 0)),none⟩]
instance : Live r_k38_5 := ⟨[0,3,6]⟩
def r_k38_6 : List SOp := [⟨some 20,.binOp .lss 3 (.tmp 19) (.tmp 18) 3,none⟩]
instance : Live r_k38_6 := ⟨[3,6,17,18,19]⟩
def r_k38_7 : List SOp := [⟨some 21,.indexAddr 22 (.tmp 17) (.tmp 19),none⟩,⟨some 22,.load 39 (.tmp 21),none⟩,⟨some 8,.alloc 39,none⟩,⟨none,.store 39 (.tmp 8) (.tmp 22),none⟩]
instance : Live r_k38_7 := ⟨[3,6,17,18,19]⟩
def r_k38_8 : List SOp := [⟨some 23,.fieldAddr 39 (.tmp 8) 1,none⟩,⟨some 24,.load 27 (.tmp 23),none⟩,⟨some 25,.load 27 (.tmp 3),none⟩,⟨some 26,.call ⟨.value (.func 43),#[.tmp 24,.tmp 25],#[27,27]⟩,none⟩,⟨some 27,.unOp .not 4 (.tmp 26),none⟩]
instance : Live r_k38_8 := ⟨[3,6,8,17,18,19]⟩
def r_k38_9 : List SOp := [⟨some 28,.move (.tmp 6),none⟩,⟨some 29,.load 39 (.tmp 8),none⟩,⟨some 30,.call ⟨.value (.func 56),#[.tmp 29],#[39]⟩,none⟩,⟨some 31,.buildSlice 22 1 #[(0,.tmp 30)],none⟩,⟨some 32,.call ⟨.builtin .append,#[.tmp 28,.tmp 31],#[22,22]⟩,none⟩,⟨some 6,.assign (.tmp 32),none⟩]
instance : Live r_k38_9 := ⟨[3,6,8,17,18,19]⟩
def r_k38_10 : List SOp := [⟨some 33,.binOp .add 3 (.tmp 19) (.const (.int .i64 1)) 3,none⟩,⟨some 19,.move (.tmp 33),none⟩]
instance : Live r_k38_10 := ⟨[3,6,17,18,19]⟩
def r_k38_11 : List SOp := [⟨some 34,.move (.tmp 6),none⟩,⟨some 4,.assign (.tmp 34),none⟩,⟨some 5,.assign (.const (.int .i64 0)),none⟩]
instance : Live r_k38_11 := ⟨[6]⟩
def t_k38_l1 : SC :=
  (.seq (.ops false r_k38_6) (.seq (.cond (.tmp 20) .skip (.exit 0)) (.seq (.block 1 (.seq (.ops false r_k38_7) (.seq (.ops false r_k38_8) (.cond (.tmp 27) (.ops false r_k38_9) .skip)))) (.ops false r_k38_10))))
def t_k38 : SC :=
  (.seq (.ops false r_k38_1) (.seq (.seq (.ops false r_k38_2) (.cond (.tmp 16) (.seq (.ops false r_k38_3) .ret) .skip)) (.seq (.ops false r_k38_4) (.seq (.seq (.ops false r_k38_5) (.block 0 (.loop t_k38_l1))) (.seq (.ops false r_k38_11) .ret)))))
theorem it_k38 : FnIs Tryz.prog 38 35 [.tmp 4, .tmp 5] t_k38 := ⟨Tryz.f38, _, Tryz.func38, rfl, rfl, rfl, rfl, by kernel_rfl⟩


noncomputable def waitsL (l : List Rec) (p : Pst) : List Rec := l.filter fun r => !withinP r.past p
theorem waitsL_take {l : List Rec} {p : Pst} {i : Nat} {r : Rec} (h : l[i]? = some r) : waitsL (l.take (i + 1)) p = waitsL (l.take i) p ++ if withinP r.past p = true then [] else [r] := by
  unfold waitsL
  rw [List.take_add_one, h, List.filter_append]
  by_cases hw : withinP r.past p = true
  · simp [hw]
  · simp [hw]
theorem waitsL_len (l : List Rec) (p : Pst) : (waitsL l p).length ≤ l.length := List.length_filter_le _ _
noncomputable def waitsK (l : List Rec) (p : Pst) : List Rec := if formK l = true ∧ isNormP p = true then waitsL l p else []
theorem ev_k38 (l : List Rec) (p : Pst) (hl : l.length ≤ 1000000000) (hw : ∀ r ∈ l, wt r.past ≤ 40000000) (hp : wt p ≤ 40000000) :
    Ev (En Tryz.prog rfl).P 38 [.sl 3 (encKs l), encP p] (.ret (.tup [.sl 3 (encKs (waitsK l p)), .int .i64 (if formK l = true ∧ isNormP p = true then 0 else 1)])) := by
  refine Ev.of_body it_k38 (by simp) (Run.start ?_)
  unfold t_k38 encP waitsK
  have hS := stbK
  have e1 := encKs_len l
  have c1 := ev_keepCheckW l (by omega) hw
  have c2 := ev_k65 p (by omega)
  by_cases hf : formK l = true
  case' neg =>
    rw [if_neg hf] at c1
    rw [if_neg (fun h => hf h.1), if_neg (fun h => hf h.1)]
    (focus (have hF := @e1; (repeat' (first | refine go1 (k:=?_) | with_reducible refine Ny.of ?_ ?_ | (refine Hyp.of ?_; intro hc; (try simp only [hc]); (try simp only [Bh] at hc)))); all_goals clear hF))
    refine stCall [.sl 3 (encKs l)] (he := c1) (k:=?_)
    (focus (have hF := @e1; (repeat' (first | refine go1 (k:=?_) | with_reducible refine Ny.of ?_ ?_ | (refine Hyp.of ?_; intro hc; (try simp only [hc]); (try simp only [Bh] at hc)))); all_goals clear hF))
    exact Fin.two rfl rfl rfl rfl (.inr ⟨rfl, 3, rfl⟩) (.inl rfl)
  case' pos =>
    rw [if_pos hf] at c1
    by_cases hn : isNormP p = true
    case' neg =>
      rw [if_neg (fun h => hn h.2), if_neg (fun h => hn h.2)]
      rw [show isNormP p = false by simpa using hn] at c2
      (focus (have hF := @e1; (repeat' (first | refine go1 (k:=?_) | with_reducible refine Ny.of ?_ ?_ | (refine Hyp.of ?_; intro hc; (try simp only [hc]); (try simp only [Bh] at hc)))); all_goals clear hF))
      refine stCall [.sl 3 (encKs l)] (he := c1) (k:=?_)
      (focus (have hF := @e1; (repeat' (first | refine go1 (k:=?_) | with_reducible refine Ny.of ?_ ?_ | (refine Hyp.of ?_; intro hc; (try simp only [hc]); (try simp only [Bh] at hc)))); all_goals clear hF))
      refine stCall [encP p] (he := c2) (k:=?_)
      (focus (have hF := @e1; (repeat' (first | refine go1 (k:=?_) | with_reducible refine Ny.of ?_ ?_ | (refine Hyp.of ?_; intro hc; (try simp only [hc]); (try simp only [Bh] at hc)))); all_goals clear hF))
      exact Fin.two rfl rfl rfl rfl (.inr ⟨rfl, 3, rfl⟩) (.inl rfl)
    case' pos =>
      rw [if_pos ⟨hf, hn⟩, if_pos ⟨hf, hn⟩]
      rw [hn] at c2
      have hfm := formK_can (formK_iff.1 hf)
      (focus (have hF := @e1; (repeat' (first | refine go1 (k:=?_) | with_reducible refine Ny.of ?_ ?_ | (refine Hyp.of ?_; intro hc; (try simp only [hc]); (try simp only [Bh] at hc)))); all_goals clear hF))
      refine stCall [.sl 3 (encKs l)] (he := c1) (k:=?_)
      (focus (have hF := @e1; (repeat' (first | refine go1 (k:=?_) | with_reducible refine Ny.of ?_ ?_ | (refine Hyp.of ?_; intro hc; (try simp only [hc]); (try simp only [Bh] at hc)))); all_goals clear hF))
      refine stCall [encP p] (he := c2) (k:=?_)
      (focus (have hF := @e1; (repeat' (first | refine go1 (k:=?_) | with_reducible refine Ny.of ?_ ?_ | (refine Hyp.of ?_; intro hc; (try simp only [hc]); (try simp only [Bh] at hc)))); all_goals clear hF))
      refine Run.wk (Wk.own_nil 6 32 3 rfl rfl) ?_
      refine Run.while (σ := Nat) (fun i => ⟨tms [(3, .ptr 3 0), (6, .os 32 (waitsL (l.take i) p).length), (17, .sl 3 (encKs l)), (18, .int .i64 l.length), (19, .int .i64 (i : Int))], mms [(3, .cells [.sl 1 (encIs p.vec), .sl 3 (encSs p.cloud)]), (32, .arr (waitsL (l.take i) p).length 3 (encKs (waitsL (l.take i) p)))]⟩)
        (fun i => i ≤ l.length) (fun i => l.length - i) 0 (have hW := @encKs_stb; stWk) (Nat.zero_le _) ?_
      intro i hi
      unfold t_k38_l1
      by_cases hlt : i < l.length
      · obtain ⟨r, hr⟩ : ∃ r, l[i]? = some r := ⟨l[i], by simp [hlt]⟩
        have g1 := encKs_get hr
        have hst := waitsL_take (p := p) hr
        have hle := waitsL_len (l.take i) p
        have hle2 : (l.take i).length ≤ l.length := by rw [List.length_take]; omega
        generalize waitsL (l.take i) p = out at hst hle ⊢
        have e2 := encKs_len out
        have hrl := List.mem_of_getElem? hr
        have hwr := hw r hrl
        have c3 := ev_k43 r.past p (by omega) (by omega)
        have c4 := ev_k56 r (by omega)
        have hcan : normP r.past = r.past := (hfm r hrl).1
        rw [hcan] at c4
        (focus (have hF := (And.intro @e1 (And.intro @e2 @g1)); (repeat' (first | refine go1 (k:=?_) | with_reducible refine Ny.of ?_ ?_ | (refine Hyp.of ?_; intro hc; (try simp only [hc]); (try simp only [Bh] at hc)))); all_goals clear hF))
        refine stCall [encP r.past, encP p] (he := c3) (k:=?_)
        by_cases hwi : withinP r.past p = true
        · rw [if_pos hwi, List.append_nil] at hst
          rw [hwi]
          (focus (have hF := (And.intro @e1 (And.intro @e2 @g1)); (repeat' (first | refine go1 (k:=?_) | with_reducible refine Ny.of ?_ ?_ | (refine Hyp.of ?_; intro hc; (try simp only [hc]); (try simp only [Bh] at hc)))); all_goals clear hF))
          (refine Fin.nextW (i + 1) ?_ (have hW := (And.intro @encKs_stb @hst); stWk); (try dsimp only))
          omega
        · rw [if_neg hwi] at hst
          rw [show withinP r.past p = false by simpa using hwi]
          (focus (have hF := (And.intro @e1 (And.intro @e2 @g1)); (repeat' (first | refine go1 (k:=?_) | with_reducible refine Ny.of ?_ ?_ | (refine Hyp.of ?_; intro hc; (try simp only [hc]); (try simp only [Bh] at hc)))); all_goals clear hF))
          refine stCall [encK r] (he := c4) (k:=?_)
          unfold encK
          (focus (have hF := (And.intro @e1 (And.intro @e2 @g1)); (repeat' (first | refine go1 (k:=?_) | with_reducible refine Ny.of ?_ ?_ | (refine Hyp.of ?_; intro hc; (try simp only [hc]); (try simp only [Bh] at hc)))); all_goals clear hF))
          (refine Fin.nextW (i + 1) ?_ (have hW := (And.intro @encKs_stb (And.intro @hst @encKs_snoc)); stWk); (try dsimp only))
          omega
      · rw [List.take_of_length_le (show l.length ≤ i by omega)]
        (focus (have hF := @e1; (repeat' (first | refine go1 (k:=?_) | with_reducible refine Ny.of ?_ ?_ | (refine Hyp.of ?_; intro hc; (try simp only [hc]); (try simp only [Bh] at hc)))); all_goals clear hF))
        exact Fin.two (x := .sl 3 (encKs (waitsL l p))) (by simp [fz, fzc, allK, upd, tms, mms]) (encKs_stb _) rfl rfl (.inl rfl) (.inl rfl)

def ltS (a b : Rec) : Prop := cmpB a.sku b.sku < 0
theorem headN_can {m : List Rec} (h : ∀ r ∈ m, CanP r.past) : headN m = m := by
  cases m with
  | nil => rfl
  | cons r m =>
    show (if r.sku.size = 0 then (⟨r.sku, normP r.past⟩ : Rec) :: m else r :: m) = r :: m
    split
    · have : normP r.past = r.past := h r (by simp)
      rw [this]
    · rfl
structure Folded (L K : List Rec) : Prop where
  from_ : ∀ r ∈ K, ∃ q ∈ L, q.sku = r.sku
  can : ∀ r ∈ K, CanP r.past
  size : ∀ r ∈ K, sizeP r.past ≠ 0
  lt : K.Pairwise ltS
  apart : ∀ a ∈ K, ∀ b ∈ K, a.sku.size = 0 → b.sku.size ≠ 0 → ∀ d, hasP b.past d = true → hasP a.past d = false
theorem Folded.one {L K : List Rec} (h : Folded L K) (e : Ent) : barsK K e ≤ 1 := by
  unfold barsK
  have hp : (K.filter fun r => covK r e).Pairwise ltS := h.lt.filter _
  have hm : ∀ r ∈ K.filter (fun r => covK r e), r ∈ K ∧ covK r e = true := fun r hr => List.mem_filter.1 hr
  generalize K.filter (fun r => covK r e) = F at hp hm
  match F, hp, hm with
  | [], _, _ => exact Nat.zero_le _
  | [a], _, _ => exact Nat.le_refl _
  | a :: b :: F, hp, hm =>
    exfalso
    obtain ⟨ha, hac⟩ := hm a (by simp)
    obtain ⟨hb, hbc⟩ := hm b (by simp)
    have hab : ltS a b := (List.pairwise_cons.1 hp).1 b (by simp)
    have hne : a.sku ≠ b.sku := fun he => by
      unfold ltS at hab
      rw [he, cmpB_zero.2 rfl] at hab
      omega
    obtain ⟨h1, h2⟩ := (covK_iff a e).1 hac
    obtain ⟨h3, h4⟩ := (covK_iff b e).1 hbc
    by_cases ha0 : a.sku.size = 0
    · by_cases hb0 : b.sku.size = 0
      · exact hne (by rw [size_zero.2 ha0, size_zero.2 hb0])
      · have := h.apart a ha b hb ha0 hb0 e.dot h4
        rw [h2] at this; cases this
    · by_cases hb0 : b.sku.size = 0
      · have := h.apart b hb a ha hb0 ha0 e.dot h2
        rw [h4] at this; cases this
      · exact hne ((h1.resolve_left ha0).trans (h3.resolve_left hb0).symm)

theorem lt_ne {a b : ByteArray} (h : cmpB a b < 0) : b.size ≠ 0 := by
  intro hb
  have h1 : bs b = [] := by
    have := bs_len b
    rw [hb] at this
    exact List.length_eq_zero_iff.1 this
  unfold cmpB at h
  rw [h1] at h
  cases h3 : bs a with
  | nil => rw [h3] at h; simp [lexI] at h
  | cons x l => rw [h3] at h; simp [lexI] at h
theorem group_one {r : Rec} {K : List Rec} (hp : (r :: K).Pairwise ltS) (hc : CanP r.past) : joinG (r :: K) = r.past ∧ (r :: K).dropWhile (sameSku r.sku) = K := by
  have h := takeWhile_take (p := sameSku r.sku) (l := r :: K) (m := 1) (fun x hx => by simp at hx; subst hx; simp [sameSku]) (fun x hx => by
    have hm : x ∈ K := List.mem_of_getElem? (by simpa using hx)
    have := (List.pairwise_cons.1 hp).1 x hm
    refine decide_eq_false fun he => ?_
    unfold ltS at this
    rw [he, cmpB_zero.2 rfl] at this
    omega)
  refine ⟨?_, by rw [h.2]; rfl⟩
  unfold joinG headG
  simp only
  rw [h.1]
  exact hc
theorem minus_apart {p all : Pst} (hc : CanP p) (h : ∀ d, hasP p d = true → hasP all d = false) : minusP p all = p := by
  refine (canP_minus _ _).ext hc fun r hr n => ?_
  rw [minusP_in _ _ hr]
  constructor
  · exact fun h => h.1
  · intro hi
    refine ⟨hi, fun ha => ?_⟩
    have h1 : hasP p ((r : Int), n) = true := (hasP_iff p _).2 ⟨by show (0 : Int) ≤ (r : Int); omega, by simpa using hi⟩
    have h2 : hasP all ((r : Int), n) = true := (hasP_iff all _).2 ⟨by show (0 : Int) ≤ (r : Int); omega, by simpa using ha⟩
    rw [h _ h1] at h2
    cases h2
theorem foldF_rest : ∀ (n : Nat) (K : List Rec) (all : Pst), K.length ≤ n → K.Pairwise ltS → (∀ r ∈ K, r.sku.size ≠ 0 ∧ CanP r.past ∧ sizeP r.past ≠ 0 ∧ ∀ d, hasP r.past d = true → hasP all d = false) → foldF n K all = K
  | 0, K, all, h, _, _ => by
    have : K = [] := List.length_eq_zero_iff.1 (by omega)
    subst this
    rfl
  | n + 1, [], all, _, _, _ => rfl
  | n + 1, r :: K, all, h, hp, hk => by
    obtain ⟨h1, h2, h3, h4⟩ := hk r (by simp)
    obtain ⟨g1, g2⟩ := group_one hp h2
    have ih := foldF_rest n K all (by simp at h; omega) (List.pairwise_cons.1 hp).2 (fun x hx => hk x (by simp [hx]))
    show outG r.sku (newG all r.sku (joinG (r :: K))) ++ foldF n ((r :: K).dropWhile (sameSku r.sku)) (allG all r.sku (joinG (r :: K))) = _
    rw [show newG all r.sku (joinG (r :: K)) = minusP (joinG (r :: K)) all from if_neg h1, show allG all r.sku (joinG (r :: K)) = all from if_neg h1, g1, g2, ih, minus_apart h2 h4]
    rw [show outG r.sku r.past = [⟨r.sku, r.past⟩] from if_neg h3]
    rfl
theorem Folded.rest {L K : List Rec} (h : Folded L K) : foldK K = K := by
  have hhd : foldF K.length K ⟨[], []⟩ = K := by
    cases K with
    | nil => rfl
    | cons r K =>
      have hlt := (List.pairwise_cons.1 h.lt).1
      have hne : ∀ x ∈ K, x.sku.size ≠ 0 := fun x hx => lt_ne (hlt x hx)
      by_cases hz : r.sku.size = 0
      · obtain ⟨g1, g2⟩ := group_one h.lt (h.can r (by simp))
        show outG r.sku (newG ⟨[], []⟩ r.sku (joinG (r :: K))) ++ foldF K.length ((r :: K).dropWhile (sameSku r.sku)) (allG ⟨[], []⟩ r.sku (joinG (r :: K))) = _
        rw [show newG ⟨[], []⟩ r.sku (joinG (r :: K)) = joinG (r :: K) from if_pos hz, show allG ⟨[], []⟩ r.sku (joinG (r :: K)) = joinG (r :: K) from if_pos hz, g1, g2]
        rw [foldF_rest K.length K r.past (Nat.le_refl _) (List.pairwise_cons.1 h.lt).2 (fun x hx => ⟨hne x hx, h.can x (by simp [hx]), h.size x (by simp [hx]), fun d hd => h.apart r (by simp) x (by simp [hx]) hz (hne x hx) d hd⟩)]
        rw [show outG r.sku r.past = [⟨r.sku, r.past⟩] from if_neg (h.size r (by simp))]
        rfl
      · refine foldF_rest (r :: K).length (r :: K) ⟨[], []⟩ (Nat.le_refl _) h.lt fun x hx => ⟨?_, h.can x hx, h.size x hx, fun d _ => has_nil d⟩
        rcases List.mem_cons.1 hx with rfl | hx
        · exact hz
        · exact hne x hx
  unfold foldK
  rw [hhd]
  exact headN_can h.can




theorem unionK_len (a b : List Rec) : (unionK a b).length ≤ a.length + b.length := by
  unfold unionK
  split
  · have := ordR_len (a ++ b); rw [List.length_append] at this; exact this
  · simp

theorem formK_srt {l : List Rec} (h : FormK l) : SrtR l := by
  have adj := h.2
  clear h
  unfold SrtR
  induction l with
  | nil => exact List.Pairwise.nil
  | cons a l ih =>
    have ih' := ih fun i x y hx hy => adj (i + 1) x y (by simpa using hx) (by simpa using hy)
    rw [List.pairwise_cons]
    refine ⟨fun z hz => ?_, ih'⟩
    cases l with
    | nil => cases hz
    | cons b l =>
      have h0 := adj 0 a b rfl rfl
      rcases List.mem_cons.1 hz with e | e
      · rw [e]; exact h0
      · exact cmpR_lt h0 ((List.pairwise_cons.1 ih').1 z e)
theorem formK_of {l : List Rec} (hs : SrtR l) (h : ∀ r ∈ l, recErr r = 0) : FormK l := by
  refine ⟨fun i r hr => h r (List.mem_of_getElem? hr), fun i a b ha hb => ?_⟩
  unfold SrtR at hs
  rw [List.getElem?_eq_some_iff] at ha hb
  obtain ⟨h1, rfl⟩ := ha
  obtain ⟨h2, rfl⟩ := hb
  exact List.pairwise_iff_getElem.1 hs i (i + 1) h1 h2 (by omega)
theorem formK_err {l : List Rec} (h : FormK l) : ∀ r ∈ l, recErr r = 0 := fun r hr => by
  obtain ⟨i, hi⟩ := List.mem_iff_getElem?.1 hr
  exact h.1 i r hi
theorem formK_filter {l : List Rec} (p : Rec → Bool) (h : FormK l) : FormK (l.filter p) :=
  formK_of ((formK_srt h).filter _) fun r hr => formK_err h r (List.mem_filter.1 hr).1
theorem formK_union {a b : List Rec} (ha : FormK a) (hb : FormK b) : FormK (ordR (a ++ b)) :=
  formK_of (ordR_srt _) fun r hr => (List.mem_append.1 (ordR_sub hr)).elim (formK_err ha r) (formK_err hb r)
theorem can_app {a b : List Rec} (ha : FormK a) (hb : FormK b) : ∀ y ∈ a ++ b, CanR y := fun r hr => (List.mem_append.1 hr).elim (fun h => (formK_can ha r h).1) (fun h => (formK_can hb r h).1)
theorem waits_union {a b : List Rec} (ha : FormK a) (hb : FormK b) (p : Pst) : ordR (waitsL a p ++ waitsL b p) = waitsL (ordR (a ++ b)) p := by
  have hca := can_app ha hb
  have hcw : ∀ y ∈ waitsL a p ++ waitsL b p, CanR y := fun y hy => hca y (List.mem_append.2 ((List.mem_append.1 hy).imp (fun h => (List.mem_filter.1 h).1) (fun h => (List.mem_filter.1 h).1)))
  symm
  refine ordR_uniq hcw ((ordR_srt _).filter _) fun x => ?_
  unfold waitsL
  rw [List.mem_filter, ordR_mem hca, List.mem_append, List.mem_append, List.mem_filter, List.mem_filter]
  constructor
  · rintro ⟨h | h, h2⟩
    · exact .inl ⟨h, h2⟩
    · exact .inr ⟨h, h2⟩
  · rintro (⟨h, h2⟩ | ⟨h, h2⟩)
    · exact ⟨.inl h, h2⟩
    · exact ⟨.inr h, h2⟩
theorem union_self {a : List Rec} (ha : FormK a) {r : Rec} (hr : r ∈ a) : ordR (a ++ [r]) = a := by
  have hc : ∀ y ∈ a ++ [r], CanR y := fun y hy => (List.mem_append.1 hy).elim (fun h => (formK_can ha y h).1) (fun h => by rw [List.mem_singleton.1 h]; exact (formK_can ha r hr).1)
  symm
  refine ordR_uniq hc (formK_srt ha) fun x => ?_
  rw [List.mem_append, List.mem_singleton]
  exact ⟨fun h => .inl h, fun h => h.elim id fun e => by rw [e]; exact hr⟩
theorem within_trans {p q s : Pst} (h1 : withinP p q = true) (h2 : withinP q s = true) : withinP p s = true :=
  withinP_iff.2 fun r hr n h => withinP_iff.1 h2 r hr n (withinP_iff.1 h1 r hr n h)
theorem within_self (p : Pst) : withinP p p = true := withinP_iff.2 fun r hr n h => h
theorem waits_more {l : List Rec} {p q : Pst} (h : withinP p q = true) : ∀ r ∈ waitsL l q, r ∈ waitsL l p ∧ withinP r.past q = false := by
  intro r hr
  unfold waitsL at hr ⊢
  rw [List.mem_filter] at hr ⊢
  have h2 : withinP r.past q = false := by simpa using hr.2
  refine ⟨⟨hr.1, ?_⟩, h2⟩
  cases hw : withinP r.past p with
  | false => rfl
  | true => rw [within_trans hw h] at h2; cases h2
theorem waits_none {l : List Rec} {p : Pst} (h : ∀ r ∈ l, withinP r.past p = true) : waitsL l p = [] := by
  unfold waitsL
  rw [List.filter_eq_nil_iff]
  intro r hr
  simp [h r hr]
theorem wtKs_ins (x : Rec) : ∀ l : List Rec, wtKs (insR x l) ≤ wtK x + wtKs l
  | [] => by simp [insR, wtKs]
  | y :: l => by
    have ih := wtKs_ins x l
    unfold insR
    split
    · simp [wtKs]
    · split
      · simp [wtKs]
      · unfold wtKs at *
        simp only [List.map_cons, List.sum_cons] at *
        omega
theorem wtKs_ord : ∀ l : List Rec, wtKs (ordR l) ≤ wtKs l
  | [] => Nat.le_refl _
  | x :: l => by
    have ih := wtKs_ord l
    have := wtKs_ins x (ordR l)
    unfold ordR
    unfold wtKs at *
    simp only [List.map_cons, List.sum_cons] at *
    omega
theorem wtKs_app (a b : List Rec) : wtKs (a ++ b) = wtKs a + wtKs b := by simp [wtKs]
def joins (p : Pst) (l : List Rec) : Pst := l.foldl (fun q r => joinP [q, r.past]) p
theorem joins_snoc (p : Pst) (l : List Rec) (r : Rec) : joins p (l ++ [r]) = joinP [joins p l, r.past] := by simp [joins]
theorem joins_take {p : Pst} {l : List Rec} {i : Nat} {r : Rec} (h : l[i]? = some r) : joins p (l.take (i + 1)) = joinP [joins p (l.take i), r.past] := by
  rw [List.take_add_one, h]
  exact joins_snoc p (l.take i) r
theorem joins_in (l : List Rec) : ∀ p : Pst, withinP p (joins p l) = true ∧ ∀ r ∈ l, withinP r.past (joins p l) = true := by
  induction l with
  | nil => exact fun p => ⟨within_self p, fun r hr => by cases hr⟩
  | cons x l ih =>
    intro p
    have := ih (joinP [p, x.past])
    refine ⟨within_trans (within_join1 p x.past) this.1, fun r hr => ?_⟩
    rcases List.mem_cons.1 hr with e | e
    · rw [e]; exact within_trans (within_join2 p x.past) this.1
    · exact this.2 r e
theorem joins_can (l : List Rec) : ∀ p : Pst, CanP p → CanP (joins p l) := by
  induction l with
  | nil => exact fun p h => h
  | cons x l ih => exact fun p _ => ih _ (canP_join _)
theorem joins_wt (l : List Rec) : ∀ p : Pst, wt (joins p l) ≤ wt p + 17 * wtKs l := by
  induction l with
  | nil => exact fun p => Nat.le_add_right _ _
  | cons x l ih =>
    intro p
    have h1 := ih (joinP [p, x.past])
    have h2 := joinP_wt [p, x.past]
    unfold joins at h1 ⊢
    simp only [List.foldl_cons]
    unfold wtKs at *
    simp only [List.map_cons, List.map_nil, List.sum_cons, List.sum_nil, wtK] at *
    omega

end Go.Proofs.YtpomanleabaafaaGreat.Avm
