/-
  The law KeepLists holds: for every case of bulk at most 1048576 the call returns true and the case reads behind it as it read before.
-/
import Derived.Test.YtpomanleabaafaaGreatM5
import Derived.Test.YtpomanleabaafaaGreatProg
import Derived.KernelRfl
set_option maxRecDepth 100000
set_option maxHeartbeats 4000000
set_option linter.unusedVariables false
set_option linter.unusedSimpArgs false
set_option linter.unusedSectionVars false
set_option linter.defProp false
namespace Go.Proofs.YtpomanleabaafaaGreat.Avm
open Go.Proofs
theorem drop_getR {l : List Rec} {i : Nat} {a : Rec} (h : l[i]? = some a) : l.drop i = a :: l.drop (i + 1) := by
  rw [List.getElem?_eq_some_iff] at h
  obtain ⟨h, rfl⟩ := h
  exact List.drop_eq_getElem_cons h
structure MrS where
  i : Nat
  j : Nat
  out : List Rec
theorem ev_k63 : ∀ (N : Nat) (l : List Rec), l.length ≤ N → l.length ≤ 900000000 → (∀ r ∈ l, wt r.past ≤ 30000000) → (∀ r ∈ l, CanR r) → Ev (En Tryz.prog rfl).P 63 [.sl 3 (encKs l)] (.ret (.sl 3 (encKs (ordR l)))) := by
  intro N
  induction N with
  | zero =>
    intro l hN hl hw hc
    rw [ordR_small (by omega)]
    refine Ev.of_body it_k63 (by simp) (Run.start ?_)
    unfold t_k63
    have e1 := encKs_len l
    have hS := stbK
    (focus (have hF := (And.intro @e1 @List.nil_append.{0}); (repeat' (first | refine go1 (k:=?_) | with_reducible refine Ny.of ?_ ?_ | (refine Hyp.of ?_; intro hc; (try simp only [hc]); (try simp only [Bh] at hc)))); all_goals clear hF))
    exact Fin.tmp' (by simp [fz, fzc, allK, upd, tms, mms]) (encKs_stb _)
  | succ N ih =>
    intro l hN hl hw hc
    by_cases h2 : l.length < 2
    · rw [ordR_small (by omega)]
      refine Ev.of_body it_k63 (by simp) (Run.start ?_)
      unfold t_k63
      have e1 := encKs_len l
      have hS := stbK
      (focus (have hF := (And.intro @e1 @List.nil_append.{0}); (repeat' (first | refine go1 (k:=?_) | with_reducible refine Ny.of ?_ ?_ | (refine Hyp.of ?_; intro hc; (try simp only [hc]); (try simp only [Bh] at hc)))); all_goals clear hF))
      exact Fin.tmp' (by simp [fz, fzc, allK, upd, tms, mms]) (encKs_stb _)
    · have hmem : ∀ x, x ∈ l ↔ x ∈ l.take (l.length / 2) ∨ x ∈ l.drop (l.length / 2) := fun x => by rw [← List.mem_append, List.take_append_drop]
      have c1 := ih (l.take (l.length / 2)) (by rw [List.length_take]; omega) (by rw [List.length_take]; omega) (fun r hr => hw r (List.mem_of_mem_take hr)) (fun r hr => hc r (List.mem_of_mem_take hr))
      have c2 := ih (l.drop (l.length / 2)) (by rw [List.length_drop]; omega) (by rw [List.length_drop]; omega) (fun r hr => hw r (List.mem_of_mem_drop hr)) (fun r hr => hc r (List.mem_of_mem_drop hr))
      have hord := mrgR_ord hc hmem
      have hwa : ∀ r ∈ ordR (l.take (l.length / 2)), wt r.past ≤ 30000000 := fun r hr => hw r (List.mem_of_mem_take (ordR_sub hr))
      have hwb : ∀ r ∈ ordR (l.drop (l.length / 2)), wt r.past ≤ 30000000 := fun r hr => hw r (List.mem_of_mem_drop (ordR_sub hr))
      have hla := ordR_len (l.take (l.length / 2))
      have hlb := ordR_len (l.drop (l.length / 2))
      rw [List.length_take] at hla
      rw [List.length_drop] at hlb
      have s1 : (encKs l).take (l.length / 2) = encKs (l.take (l.length / 2)) := by unfold encKs; rw [List.map_take]
      have s2 : (encKs l).drop (l.length / 2) = encKs (l.drop (l.length / 2)) := by unfold encKs; rw [List.map_drop]
      have e1 := encKs_len l
      have s3 : (encKs l).take l.length = encKs l := by rw [← e1, List.take_length]
      rw [← hord]
      refine Ev.of_body it_k63 (by simp) (Run.start ?_)
      unfold t_k63
      have hS := stbK
      have q1 : (l.length : Int).tdiv 2 = ((l.length / 2 : Nat) : Int) := by
        rw [Int.tdiv_eq_ediv_of_nonneg (by omega)]; omega
      have q2 : IntKind.i64.wrap (((l.length / 2 : Nat) : Int)) = ((l.length / 2 : Nat) : Int) := wrap_ok (by omega)
      have q3 : l.length / 2 ≤ l.length := by omega
      have q4 : (((l.length / 2 : Nat) : Int)).toNat = l.length / 2 := Int.toNat_natCast _
      generalize l.length / 2 = m at *
      generalize ordR (l.take m) = A at *
      generalize ordR (l.drop m) = B at *
      (focus (have hF := (And.intro (And.intro (And.intro @e1 @q1) (And.intro @q2 @q3)) (And.intro (And.intro @q4 @s1) (And.intro @s2 (And.intro @s3 @List.drop_zero.{0})))); (repeat' (first | refine go1 (k:=?_) | with_reducible refine Ny.of ?_ ?_ | (refine Hyp.of ?_; intro hc; (try simp only [hc]); (try simp only [Bh] at hc)))); all_goals clear hF))
      refine stCall [.sl 3 (encKs (l.take m))] (he := c1) (k:=?_)
      (focus (have hF := (And.intro (And.intro (And.intro @e1 @q1) (And.intro @q2 @q3)) (And.intro (And.intro @q4 @s1) (And.intro @s2 (And.intro @s3 @List.drop_zero.{0})))); (repeat' (first | refine go1 (k:=?_) | with_reducible refine Ny.of ?_ ?_ | (refine Hyp.of ?_; intro hc; (try simp only [hc]); (try simp only [Bh] at hc)))); all_goals clear hF))
      refine stCall [.sl 3 (encKs (l.drop m))] (he := c2) (k:=?_)
      (focus (have hF := (And.intro (And.intro @e1 (And.intro @q1 @q2)) (And.intro (And.intro @q3 @q4) (And.intro @s1 @s2))); (repeat' (first | refine go1 (k:=?_) | with_reducible refine Ny.of ?_ ?_ | (refine Hyp.of ?_; intro hc; (try simp only [hc]); (try simp only [Bh] at hc)))); all_goals clear hF))
      have a1 := encKs_len A
      have b1 := encKs_len B
      have hR0 : [] ++ mrgR (A.drop 0) (B.drop 0) = mrgR A B := rfl
      generalize mrgR A B = R at hR0 ⊢
      refine Run.wk (Wk.own_nil 5 62 3 rfl rfl) ?_
      refine Run.while (σ := MrS) (fun z => ⟨tms [(3, .sl 3 (encKs A)), (4, .sl 3 (encKs B)), (5, .os 62 z.out.length), (6, .int .i64 (z.i : Int)), (7, .int .i64 (z.j : Int))], mms [(62, .arr z.out.length 3 (encKs z.out))]⟩)
        (fun z => z.i ≤ A.length ∧ z.j ≤ B.length ∧ z.out.length ≤ z.i + z.j ∧ z.out ++ mrgR (A.drop z.i) (B.drop z.j) = R) (fun z => (A.length - z.i) + (B.length - z.j)) ⟨0, 0, []⟩ (have hW := @encKs_stb; stWk) ⟨Nat.zero_le _, Nat.zero_le _, Nat.le_refl _, hR0⟩ ?_
      rintro ⟨i, j, out⟩ ⟨hi, hj, ho, hf⟩
      dsimp only at *
      unfold t_k63_l1
      have e3 := encKs_len out
      by_cases hia : i < A.length
      · obtain ⟨a, haa⟩ : ∃ a, A[i]? = some a := ⟨A[i], by simp [hia]⟩
        have g1 := encKs_get haa
        by_cases hjb : j < B.length
        · obtain ⟨b, hbb⟩ : ∃ b, B[j]? = some b := ⟨B[j], by simp [hjb]⟩
          have g2 := encKs_get hbb
          have c5 := ev_k20 a b (hwa a (List.mem_of_getElem? haa)) (hwb b (List.mem_of_getElem? hbb))
          have n1 : ¬ (i : Int) = (A.length : Int) := by omega
          have n2 : ¬ (j : Int) = (B.length : Int) := by omega
          rw [mrgR_drop haa hbb] at hf
          generalize cmpR a b = v at c5 hf
          (focus (have hF := (And.intro (And.intro @a1 (And.intro @b1 @g1)) (And.intro @g2 (And.intro @n1 @n2))); (repeat' (first | refine go1 (k:=?_) | with_reducible refine Ny.of ?_ ?_ | (refine Hyp.of ?_; intro hc; (try simp only [hc]); (try simp only [Bh] at hc)))); all_goals clear hF))
          refine stCall [encK a, encK b] (he := c5) (k:=?_)
          by_cases hv : v < 0
          · rw [if_pos hv] at hf
            (focus (have hF := (And.intro (And.intro @a1 @b1) (And.intro @e3 (And.intro @g1 @g2))); (repeat' (first | refine go1 (k:=?_) | with_reducible refine Ny.of ?_ ?_ | (refine Hyp.of ?_; intro hc; (try simp only [hc]); (try simp only [Bh] at hc)))); all_goals clear hF))
            (refine Fin.nextW (⟨i + 1, j, out ++ [a]⟩) ?_ (have hW := (And.intro @encKs_stb @encKs_snoc); stWk); (try dsimp only))
            exact ⟨⟨hia, hj, by simp; omega, by rw [List.append_assoc]; exact hf⟩, by omega⟩
          · rw [if_neg hv] at hf
            by_cases hz : v = 0
            · rw [if_pos hz] at hf
              (focus (have hF := (And.intro (And.intro @a1 (And.intro @b1 @e3)) (And.intro @g1 (And.intro @g2 @hz))); (repeat' (first | refine go1 (k:=?_) | with_reducible refine Ny.of ?_ ?_ | (refine Hyp.of ?_; intro hc; (try simp only [hc]); (try simp only [Bh] at hc)))); all_goals clear hF))
              (refine Fin.nextW (⟨i + 1, j + 1, out ++ [a]⟩) ?_ (have hW := (And.intro @encKs_stb @encKs_snoc); stWk); (try dsimp only))
              exact ⟨⟨hia, hjb, by simp; omega, by rw [List.append_assoc]; exact hf⟩, by omega⟩
            · rw [if_neg hz] at hf
              (focus (have hF := (And.intro (And.intro @a1 @b1) (And.intro @e3 (And.intro @g1 @g2))); (repeat' (first | refine go1 (k:=?_) | with_reducible refine Ny.of ?_ ?_ | (refine Hyp.of ?_; intro hc; (try simp only [hc]); (try simp only [Bh] at hc)))); all_goals clear hF))
              (refine Fin.nextW (⟨i, j + 1, out ++ [b]⟩) ?_ (have hW := (And.intro @encKs_stb @encKs_snoc); stWk); (try dsimp only))
              exact ⟨⟨hi, hjb, by simp; omega, by rw [List.append_assoc]; exact hf⟩, by omega⟩
        · have hj' : j = B.length := by omega
          subst hj'
          have n1 : ¬ (i : Int) = (A.length : Int) := by omega
          rw [List.drop_length, mrgR_nil2, drop_getR haa] at hf
          (focus (have hF := (And.intro (And.intro @a1 @b1) (And.intro @e3 (And.intro @g1 @n1))); (repeat' (first | refine go1 (k:=?_) | with_reducible refine Ny.of ?_ ?_ | (refine Hyp.of ?_; intro hc; (try simp only [hc]); (try simp only [Bh] at hc)))); all_goals clear hF))
          (refine Fin.nextW (⟨i + 1, B.length, out ++ [a]⟩) ?_ (have hW := (And.intro @encKs_stb @encKs_snoc); stWk); (try dsimp only))
          exact ⟨⟨hia, Nat.le_refl _, by simp; omega, by rw [List.drop_length, mrgR_nil2, List.append_assoc]; exact hf⟩, by omega⟩
      · have hi' : i = A.length := by omega
        subst hi'
        by_cases hjb : j < B.length
        · obtain ⟨b, hbb⟩ : ∃ b, B[j]? = some b := ⟨B[j], by simp [hjb]⟩
          have g2 := encKs_get hbb
          have n2 : ¬ (j : Int) = (B.length : Int) := by omega
          rw [List.drop_length, mrgR_nil, drop_getR hbb] at hf
          (focus (have hF := (And.intro (And.intro @a1 @b1) (And.intro @e3 @g2)); (repeat' (first | refine go1 (k:=?_) | with_reducible refine Ny.of ?_ ?_ | (refine Hyp.of ?_; intro hc; (try simp only [hc]); (try simp only [Bh] at hc)))); all_goals clear hF))
          (refine Fin.nextW (⟨A.length, j + 1, out ++ [b]⟩) ?_ (have hW := (And.intro @encKs_stb @encKs_snoc); stWk); (try dsimp only))
          exact ⟨⟨Nat.le_refl _, hjb, by simp; omega, by rw [List.drop_length, mrgR_nil, List.append_assoc]; exact hf⟩, by omega⟩
        · rw [show j = B.length by omega, List.drop_length, List.drop_length, mrgR_nil, List.append_nil] at hf
          subst hf
          (focus (have hF := (And.intro @a1 (And.intro @b1 @e3)); (repeat' (first | refine go1 (k:=?_) | with_reducible refine Ny.of ?_ ?_ | (refine Hyp.of ?_; intro hc; (try simp only [hc]); (try simp only [Bh] at hc)))); all_goals clear hF))
          exact Fin.tmp' (by simp [fz, fzc, allK, upd, tms, mms]) (encKs_stb _)

def r_k127_1 : List SOp := [⟨some 4,.assign (.const (.slice none 0 0)),none⟩]
instance : Live r_k127_1 := ⟨[0,1]⟩
def r_k127_2 : List SOp := [⟨some 5,.move (.tmp 1),none⟩,⟨some 6,.binOp .lss 3 (.tmp 5) (.const (.int .i64 0)) 3,none⟩]
instance : Live r_k127_2 := ⟨[0,1]⟩
def r_k127_3 : List SOp := [⟨some 7,.makeInterface 9 (.const (.string ⟨#[99,97,110,110,111,116,32,98,101,32,110,101,103,97,116,105,118,101]⟩)),none⟩,⟨none,.panic (.tmp 7),none⟩]
instance : Live r_k127_3 := ⟨[0,1]⟩
def r_k127_4 : List SOp := [⟨some 8,.move (.tmp 1),none⟩,⟨some 9,.move (.tmp 0),none⟩,⟨some 10,.call ⟨.builtin .cap,#[.tmp 9],#[22]⟩,none⟩,⟨some 11,.move (.tmp 0),none⟩,⟨some 12,.call ⟨.builtin .len,#[.tmp 11],#[22]⟩,none⟩,⟨some 13,.binOp .sub 3 (.tmp 10) (.tmp 12) 3,none⟩,⟨some 14,.binOp .sub 3 (.tmp 8) (.tmp 13) 3,none⟩,⟨some 1,.assign (.tmp 14),none⟩]
instance : Live r_k127_4 := ⟨[0,1]⟩
def r_k127_5 : List SOp := [⟨some 15,.move (.tmp 1),none⟩,⟨some 16,.binOp .gtr 3 (.tmp 15) (.const (.int .i64 0)) 3,none⟩]
instance : Live r_k127_5 := ⟨[0,1]⟩
def r_k127_6 : List SOp := [⟨some 17,.move (.tmp 0),none⟩,⟨some 18,.move (.tmp 0),none⟩,⟨some 19,.call ⟨.builtin .cap,#[.tmp 18],#[22]⟩,none⟩,⟨some 20,.slice 22 (.tmp 17) none (some (.tmp 19)) none,none⟩,⟨some 21,.move (.tmp 1),none⟩,⟨some 22,.call ⟨.builtin .append,#[.tmp 20,.tmp 21],#[22,3]⟩,none⟩,⟨some 23,.move (.tmp 0),none⟩,⟨some 24,.call ⟨.builtin .len,#[.tmp 23],#[22]⟩,none⟩,⟨some 25,.slice 22 (.tmp 22) none (some (.tmp 24)) none,none⟩,⟨some 0,.assign (.tmp 25),none⟩]
instance : Live r_k127_6 := ⟨[0,1]⟩
def r_k127_7 : List SOp := [⟨some 26,.move (.tmp 0),none⟩,⟨some 4,.assign (.tmp 26),none⟩]
instance : Live r_k127_7 := ⟨[0]⟩
def t_k127 : SC :=
  (.seq (.ops false r_k127_1) (.seq (.seq (.ops false r_k127_2) (.cond (.tmp 6) (.ops false r_k127_3) .skip)) (.seq (.seq (.ops false r_k127_4) (.seq (.ops false r_k127_5) (.cond (.tmp 16) (.ops false r_k127_6) .skip))) (.seq (.ops false r_k127_7) .ret))))
theorem it_k127 : FnIs Tryz.prog 127 27 [.tmp 4] t_k127 := ⟨Tryz.f127, _, Tryz.func127, rfl, rfl, rfl, rfl, by kernel_rfl⟩

def r_k82_1 : List SOp := [⟨some 2,.assign (.const (.slice none 0 0)),none⟩]
instance : Live r_k82_1 := ⟨[0]⟩
def r_k82_2 : List SOp := [⟨some 3,.assign (.const (.int .i64 0)),none⟩]
instance : Live r_k82_2 := ⟨[0]⟩
def r_k82_3 : List SOp := [⟨some 9,.move (.tmp 0),none⟩,⟨some 10,.call ⟨.builtin .len,#[.tmp 9],#[31]⟩,none⟩,⟨some 11,.move (.const (.int .i64 0)),none⟩]
instance : Live r_k82_3 := ⟨[0,3]⟩
def r_k82_4 : List SOp := [⟨some 12,.binOp .lss 3 (.tmp 11) (.tmp 10) 3,none⟩]
instance : Live r_k82_4 := ⟨[0,3,9,10,11]⟩
def r_k82_5 : List SOp := [⟨some 13,.indexAddr 31 (.tmp 9) (.tmp 11),none⟩,⟨some 14,.load 22 (.tmp 13),none⟩,⟨some 5,.assign (.tmp 14),none⟩]
instance : Live r_k82_5 := ⟨[0,3,9,10,11]⟩
def r_k82_6 : List SOp := [⟨some 15,.move (.tmp 3),none⟩,⟨some 16,.move (.tmp 5),none⟩,⟨some 17,.call ⟨.builtin .len,#[.tmp 16],#[22]⟩,none⟩,⟨some 18,.binOp .add 3 (.tmp 15) (.tmp 17) 3,none⟩,⟨some 3,.assign (.tmp 18),none⟩]
instance : Live r_k82_6 := ⟨[0,3,5,9,10,11]⟩
def r_k82_7 : List SOp := [⟨some 19,.move (.tmp 3),none⟩,⟨some 20,.binOp .lss 3 (.tmp 19) (.const (.int .i64 0)) 3,none⟩]
instance : Live r_k82_7 := ⟨[0,3,9,10,11]⟩
def r_k82_8 : List SOp := [⟨some 21,.makeInterface 9 (.const (.string ⟨#[108,101,110,32,111,117,116,32,111,102,32,114,97,110,103,101]⟩)),none⟩,⟨none,.panic (.tmp 21),none⟩]
instance : Live r_k82_8 := ⟨[0,3,9,10,11]⟩
def r_k82_9 : List SOp := [⟨some 22,.binOp .add 3 (.tmp 11) (.const (.int .i64 1)) 3,none⟩,⟨some 11,.move (.tmp 22),none⟩]
instance : Live r_k82_9 := ⟨[0,3,9,10,11]⟩
def r_k82_10 : List SOp := [⟨some 23,.move (.tmp 3),none⟩,⟨some 24,.call ⟨.value (.func 127),#[.const (.slice none 0 0),.tmp 23],#[22,3]⟩,none⟩,⟨some 6,.assign (.tmp 24),none⟩]
instance : Live r_k82_10 := ⟨[0,3]⟩
def r_k82_11 : List SOp := [⟨some 25,.move (.tmp 0),none⟩,⟨some 26,.call ⟨.builtin .len,#[.tmp 25],#[31]⟩,none⟩,⟨some 27,.move (.const (.int .i64 0)),none⟩]
instance : Live r_k82_11 := ⟨[0,6]⟩
def r_k82_12 : List SOp := [⟨some 28,.binOp .lss 3 (.tmp 27) (.tmp 26) 3,none⟩]
instance : Live r_k82_12 := ⟨[6,25,26,27]⟩
def r_k82_13 : List SOp := [⟨some 29,.indexAddr 31 (.tmp 25) (.tmp 27),none⟩,⟨some 30,.load 22 (.tmp 29),none⟩,⟨some 8,.assign (.tmp 30),none⟩]
instance : Live r_k82_13 := ⟨[6,25,26,27]⟩
def r_k82_14 : List SOp := [⟨some 31,.move (.tmp 6),none⟩,⟨some 32,.move (.tmp 8),none⟩,⟨some 33,.call ⟨.builtin .append,#[.tmp 31,.tmp 32],#[22,22]⟩,none⟩,⟨some 6,.assign (.tmp 33),none⟩]
instance : Live r_k82_14 := ⟨[6,8,25,26,27]⟩
def r_k82_15 : List SOp := [⟨some 34,.binOp .add 3 (.tmp 27) (.const (.int .i64 1)) 3,none⟩,⟨some 27,.move (.tmp 34),none⟩]
instance : Live r_k82_15 := ⟨[6,25,26,27]⟩
def r_k82_16 : List SOp := [⟨some 35,.move (.tmp 6),none⟩,⟨some 2,.assign (.tmp 35),none⟩]
instance : Live r_k82_16 := ⟨[6]⟩
def t_k82_l1 : SC :=
  (.seq (.ops false r_k82_4) (.seq (.cond (.tmp 12) .skip (.exit 0)) (.seq (.block 1 (.seq (.ops false r_k82_5) (.seq (.ops false r_k82_6) (.seq (.ops false r_k82_7) (.cond (.tmp 20) (.ops false r_k82_8) .skip))))) (.ops false r_k82_9))))
def t_k82_l2 : SC :=
  (.seq (.ops false r_k82_12) (.seq (.cond (.tmp 28) .skip (.exit 2)) (.seq (.block 3 (.seq (.ops false r_k82_13) (.ops false r_k82_14))) (.ops false r_k82_15))))
def t_k82 : SC :=
  (.seq (.ops false r_k82_1) (.seq (.ops false r_k82_2) (.seq (.seq (.ops false r_k82_3) (.block 0 (.loop t_k82_l1))) (.seq (.ops false r_k82_10) (.seq (.seq (.ops false r_k82_11) (.block 2 (.loop t_k82_l2))) (.seq (.ops false r_k82_16) .ret))))))
theorem it_k82 : FnIs Tryz.prog 82 36 [.tmp 2] t_k82 := ⟨Tryz.f82, _, Tryz.func82, rfl, rfl, rfl, rfl, by kernel_rfl⟩

def r_k36_1 : List SOp := [⟨some 4,.assign (.const (.slice none 0 0)),none⟩,⟨some 5,.assign (.const (.int .i64 0)),none⟩]
instance : Live r_k36_1 := ⟨[0,1]⟩
def r_k36_2 : List SOp := [⟨some 6,.move (.tmp 0),none⟩,⟨some 7,.call ⟨.value (.func 14),#[.tmp 6],#[22]⟩,none⟩,⟨some 8,.binOp .neq 32 (.tmp 7) (.const (.int .i64 0)) 32,none⟩,⟨some 9,.move (.tmp 8),none⟩,⟨some 10,.move (.tmp 1),some ((some 9),false)⟩,⟨some 11,.call ⟨.value (.func 14),#[.tmp 10],#[22]⟩,some ((some 9),false)⟩,⟨some 12,.binOp .neq 32 (.tmp 11) (.const (.int .i64 0)) 32,some ((some 9),false)⟩,⟨some 13,.pick (.tmp 9) (.const (.bool true)) (.tmp 12),none⟩]
instance : Live r_k36_2 := ⟨[0,1]⟩
def r_k36_3 : List SOp := [⟨some 4,.assign (.const (.slice none 0 0)),none⟩,⟨some 5,.assign (.const (.int .i64 1)),none⟩]
instance : Live r_k36_3 := ⟨[]⟩
def r_k36_4 : List SOp := [⟨some 14,.move (.tmp 0),none⟩,⟨some 15,.move (.tmp 1),none⟩,⟨some 16,.buildSlice 31 2 #[(0,.tmp 14),(1,.tmp 15)],none⟩,⟨some 17,.call ⟨.value (.func 82),#[.tmp 16],#[31]⟩,none⟩,⟨some 18,.call ⟨.value (.func 12),#[.tmp 17],#[22]⟩,none⟩,⟨some 19,.extract (.tmp 18) 0,none⟩,⟨some 20,.extract (.tmp 18) 1,none⟩,⟨some 4,.assign (.tmp 19),none⟩,⟨some 5,.assign (.tmp 20),none⟩]
instance : Live r_k36_4 := ⟨[0,1]⟩
def t_k36 : SC :=
  (.seq (.ops false r_k36_1) (.seq (.seq (.ops false r_k36_2) (.cond (.tmp 13) (.seq (.ops false r_k36_3) .ret) .skip)) (.seq (.ops false r_k36_4) .ret)))
theorem it_k36 : FnIs Tryz.prog 36 21 [.tmp 4, .tmp 5] t_k36 := ⟨Tryz.f36, _, Tryz.func36, rfl, rfl, rfl, rfl, by kernel_rfl⟩

def r_k37_1 : List SOp := [⟨some 4,.assign (.const (.slice none 0 0)),none⟩,⟨some 5,.assign (.const (.int .i64 0)),none⟩]
instance : Live r_k37_1 := ⟨[0,1]⟩
def r_k37_2 : List SOp := [⟨some 6,.move (.tmp 0),none⟩,⟨some 7,.call ⟨.value (.func 15),#[.tmp 6],#[22]⟩,none⟩,⟨some 8,.binOp .neq 32 (.tmp 7) (.const (.int .i64 0)) 32,none⟩,⟨some 9,.move (.tmp 8),none⟩,⟨some 10,.move (.tmp 1),some ((some 9),false)⟩,⟨some 11,.call ⟨.value (.func 15),#[.tmp 10],#[22]⟩,some ((some 9),false)⟩,⟨some 12,.binOp .neq 32 (.tmp 11) (.const (.int .i64 0)) 32,some ((some 9),false)⟩,⟨some 13,.pick (.tmp 9) (.const (.bool true)) (.tmp 12),none⟩]
instance : Live r_k37_2 := ⟨[0,1]⟩
def r_k37_3 : List SOp := [⟨some 4,.assign (.const (.slice none 0 0)),none⟩,⟨some 5,.assign (.const (.int .i64 1)),none⟩]
instance : Live r_k37_3 := ⟨[]⟩
def r_k37_4 : List SOp := [⟨some 14,.buildSlice 22 0 #[],none⟩,⟨some 15,.move (.tmp 0),none⟩,⟨some 16,.call ⟨.builtin .append,#[.tmp 14,.tmp 15],#[22,22]⟩,none⟩,⟨some 17,.move (.tmp 1),none⟩,⟨some 18,.call ⟨.builtin .append,#[.tmp 16,.tmp 17],#[22,22]⟩,none⟩,⟨some 19,.call ⟨.value (.func 63),#[.tmp 18],#[22]⟩,none⟩,⟨some 4,.assign (.tmp 19),none⟩,⟨some 5,.assign (.const (.int .i64 0)),none⟩]
instance : Live r_k37_4 := ⟨[0,1]⟩
def t_k37 : SC :=
  (.seq (.ops false r_k37_1) (.seq (.seq (.ops false r_k37_2) (.cond (.tmp 13) (.seq (.ops false r_k37_3) .ret) .skip)) (.seq (.ops false r_k37_4) .ret)))
theorem it_k37 : FnIs Tryz.prog 37 20 [.tmp 4, .tmp 5] t_k37 := ⟨Tryz.f37, _, Tryz.func37, rfl, rfl, rfl, rfl, by kernel_rfl⟩

theorem ev_growRec (m : Nat) (hm : m ≤ 100000000) : EvFresh (En Tryz.prog rfl).P 127 [.nil, .int .i64 (m : Int)] 3 [] := by
  refine EvFresh.of_body it_k127 (by simp) (AW.wkEnd (Run.start ?_))
  unfold t_k127
  (focus (have hF := True.intro; (repeat' (first | refine go1 (k:=?_) | with_reducible refine Ny.of ?_ ?_ | (refine Hyp.of ?_; intro hc; (try simp only [hc]); (try simp only [Bh] at hc)))); all_goals clear hF))
  refine awp_hook (hook_capnil (En Tryz.prog rfl).hT rfl (by with_unfolding_all rfl) (el := 39) (by with_unfolding_all rfl)) ?_
  rintro v M' ⟨rfl, rfl⟩
  dsimp only [AS.put]
  (focus (have hF := True.intro; (repeat' (first | refine go1 (k:=?_) | with_reducible refine Ny.of ?_ ?_ | (refine Hyp.of ?_; intro hc; (try simp only [hc]); (try simp only [Bh] at hc)))); all_goals clear hF))
  · refine awp_hook (hook_capnil (En Tryz.prog rfl).hT rfl (by with_unfolding_all rfl) (el := 39) (by with_unfolding_all rfl)) ?_
    rintro v M' ⟨rfl, rfl⟩
    dsimp only [AS.put]
    (focus (have hF := True.intro; (repeat' (first | refine go1 (k:=?_) | with_reducible refine Ny.of ?_ ?_ | (refine Hyp.of ?_; intro hc; (try simp only [hc]); (try simp only [Bh] at hc)))); all_goals clear hF))
    refine awp_hook (hook_zeros (En Tryz.prog rfl).hT (m := m) 22 rfl rfl (by omega) (by omega) (by with_unfolding_all rfl) (el := 39) (by with_unfolding_all rfl) (by with_unfolding_all rfl) (ik := .i64) (by with_unfolding_all rfl) (by with_unfolding_all rfl) (by with_unfolding_all rfl) (show m * 64 ≤ 281474976710656 by omega) rfl) ?_
    rintro v M' ⟨rfl, rfl⟩
    dsimp only [AS.put]
    refine dv (v := .nil) (ups := []) rfl (by with_unfolding_all rfl) (by with_unfolding_all rfl) rfl ?_
    refine dv (v := .int .i64 0) (ups := []) rfl (by with_unfolding_all rfl) (by with_unfolding_all rfl) rfl ?_
    dsimp only [AS.put, ap]
    refine awp_hook (hook_take (En Tryz.prog rfl).hT (m := 0) (k := 22) (e := 0) (sz := 3) rfl rfl rfl (Nat.zero_le _) (by with_unfolding_all rfl) (el := 39) (by with_unfolding_all rfl) (by with_unfolding_all rfl) rfl) ?_
    rintro v M' ⟨rfl, rfl⟩
    dsimp only [AS.put]
    (focus (have hF := True.intro; (repeat' (first | refine go1 (k:=?_) | with_reducible refine Ny.of ?_ ?_ | (refine Hyp.of ?_; intro hc; (try simp only [hc]); (try simp only [Bh] at hc)))); all_goals clear hF))
    exact Fin.done ⟨_, Wk.refl _ _, 22, 1, rfl, rfl, rfl⟩
  · exact Fin.done ⟨_, Wk.own_nil 4 22 3 rfl rfl, 22, 0, rfl, rfl, rfl⟩
theorem encKs_app (a b : List Rec) : encKs a ++ encKs b = encKs (a ++ b) := by simp [encKs]
theorem ev_concatRec (a b : List Rec) (ha : a.length ≤ 10000000) (hb : b.length ≤ 10000000) : Ev (En Tryz.prog rfl).P 82 [.sl 1 [.sl 3 (encKs a), .sl 3 (encKs b)]] (.ret (.sl 3 (encKs (a ++ b)))) := by
  refine Ev.of_body it_k82 (by simp) (Run.start ?_)
  unfold t_k82
  obtain ⟨Ls, hLs⟩ : ∃ Ls, [AVal.sl 3 (encKs a), AVal.sl 3 (encKs b)] = Ls := ⟨_, rfl⟩
  rw [hLs]
  have hLl : Ls.length = 2 := by rw [← hLs]; rfl
  have hLst : stbs Ls = true := by rw [← hLs]; simp [stbs, AVal.stb, encKs_stb]
  have hL0 : Ls[0]? = some (.sl 3 (encKs a)) := by rw [← hLs]; rfl
  have hL1 : Ls[1]? = some (.sl 3 (encKs b)) := by rw [← hLs]; rfl
  clear hLs
  have e1 := encKs_len a
  have e2 := encKs_len b
  have hLg : ∀ i, i < 2 → ∃ l, Ls[i]? = some (.sl 3 (encKs l)) ∧ l.length ≤ 10000000 ∧ (if i = 0 then [] else a) ++ l = if i + 1 = 1 then a else a ++ b := by
    intro i hi
    match i, hi with
    | 0, _ => exact ⟨a, hL0, ha, by simp⟩
    | 1, _ => exact ⟨b, hL1, hb, by simp⟩
  have hA : ∃ A : Nat → List Rec, A 0 = [] ∧ A 2 = a ++ b ∧ ∀ i, i < 2 → ∃ l, Ls[i]? = some (.sl 3 (encKs l)) ∧ l.length ≤ 10000000 ∧ A i ++ l = A (i + 1) :=
    ⟨fun i => if i = 0 then [] else if i = 1 then a else a ++ b, rfl, rfl, fun i hi => by
      match i, hi with
      | 0, _ => exact ⟨a, hL0, ha, by simp⟩
      | 1, _ => exact ⟨b, hL1, hb, by simp⟩⟩
  obtain ⟨A, hA0, hA2, hA⟩ := hA
  have hAl : ∀ i, i ≤ 2 → (A i).length ≤ 10000000 * i := by
    intro i
    induction i with
    | zero => intro _; rw [hA0]; simp
    | succ i ih =>
      intro hi
      obtain ⟨l, _, h2, h3⟩ := hA i (by omega)
      have := ih (by omega)
      rw [← h3, List.length_append]
      omega
  clear hLg hL0 hL1
  have hA0l : (A 0).length = 0 := by rw [hA0]; rfl
  have hA2l : (A 2).length ≤ 20000000 := hAl 2 (by omega)
  (focus (have hF := @hLl; (repeat' (first | refine go1 (k:=?_) | with_reducible refine Ny.of ?_ ?_ | (refine Hyp.of ?_; intro hc; (try simp only [hc]); (try simp only [Bh] at hc)))); all_goals clear hF))
  refine Run.while (σ := Nat) (fun i => ⟨tms [(0, .sl 1 Ls), (3, .int .i64 ((A i).length : Int)), (9, .sl 1 Ls), (10, .int .i64 2), (11, .int .i64 (i : Int))], mms []⟩)
    (fun i => i ≤ 2) (fun i => 2 - i) 0 (have hW := (And.intro @hLst @hA0l); stWk) (Nat.zero_le _) ?_
  intro i hi
  unfold t_k82_l1
  by_cases hlt : i < 2
  · obtain ⟨l, gl, hll, hal⟩ := hA i hlt
    have hb1 := hAl i (by omega)
    have hs : ((A i).length : Int) + (l.length : Int) = ((A (i + 1)).length : Int) := by rw [← hal, List.length_append]; omega
    have el := encKs_len l
    have hn : ¬ ((A (i + 1)).length : Int) < 0 := by omega
    have hb2 := hAl (i + 1) (by omega)
    have hwr : IntKind.i64.wrap ((A (i + 1)).length : Int) = ((A (i + 1)).length : Int) := wrap_ok (by omega)
    (focus (have hF := (And.intro (And.intro @hLl (And.intro @gl @el)) (And.intro @hs (And.intro @hn @hwr))); (repeat' (first | refine go1 (k:=?_) | with_reducible refine Ny.of ?_ ?_ | (refine Hyp.of ?_; intro hc; (try simp only [hc]); (try simp only [Bh] at hc)))); all_goals clear hF))
    (refine Fin.nextW (i + 1) ?_ (have hW := @hLst; stWk); (try dsimp only))
    omega
  · have hi2 : i = 2 := by omega
    subst hi2
    (focus (have hF := @hLl; (repeat' (first | refine go1 (k:=?_) | with_reducible refine Ny.of ?_ ?_ | (refine Hyp.of ?_; intro hc; (try simp only [hc]); (try simp only [Bh] at hc)))); all_goals clear hF))
    refine awp_hook (hook_fresh (f := 127) (caps := []) 24 rfl rfl rfl (ev_growRec (A 2).length (by omega)) rfl) ?_
    rintro v M' ⟨rfl, rfl⟩
    dsimp only [AS.put]
    (focus (have hF := @hLl; (repeat' (first | refine go1 (k:=?_) | with_reducible refine Ny.of ?_ ?_ | (refine Hyp.of ?_; intro hc; (try simp only [hc]); (try simp only [Bh] at hc)))); all_goals clear hF))
    have hA0e : encKs (A 0) = [] := by rw [hA0]; rfl
    refine Run.while (σ := Nat) (fun i => ⟨tms [(6, .os 24 i), (25, .sl 1 Ls), (26, .int .i64 2), (27, .int .i64 (i : Int))], mms [(24, .arr i 3 (encKs (A i)))]⟩)
      (fun i => i ≤ 2) (fun i => 2 - i) 0 (have hW := (And.intro @hLst (And.intro @hA0e @encKs_stb)); stWk) (Nat.zero_le _) ?_
    intro i hi
    unfold t_k82_l2
    by_cases hlt : i < 2
    · obtain ⟨l, gl, hll, hal⟩ := hA i hlt
      have hb1 := hAl i (by omega)
      have el := encKs_len l
      have e3 := encKs_len (A i)
      have hap : encKs (A i) ++ encKs l = encKs (A (i + 1)) := by rw [encKs_app, hal]
      (focus (have hF := (And.intro (And.intro @hLl @gl) (And.intro @el @e3)); (repeat' (first | refine go1 (k:=?_) | with_reducible refine Ny.of ?_ ?_ | (refine Hyp.of ?_; intro hc; (try simp only [hc]); (try simp only [Bh] at hc)))); all_goals clear hF))
      (refine Fin.nextW (i + 1) ?_ (have hW := (And.intro @hLst (And.intro @encKs_stb @hap)); stWk); (try dsimp only))
      omega
    · have hi2 : i = 2 := by omega
      subst hi2
      rw [← hA2]
      (focus (have hF := @hLl; (repeat' (first | refine go1 (k:=?_) | with_reducible refine Ny.of ?_ ?_ | (refine Hyp.of ?_; intro hc; (try simp only [hc]); (try simp only [Bh] at hc)))); all_goals clear hF))
      exact Fin.tmp' (by simp [fz, fzc, allK, upd, tms, mms]) (encKs_stb _)
theorem skuOk_of {r : Rec} (h : recErr r = 0) : skuOk r = true := by
  unfold recErr at h
  unfold skuOk
  split at h
  · omega
  · rename_i h1
    by_cases h2 : r.sku.size = 0
    · simp [h2]
    · by_cases h3 : goodS r.sku = true
      · simp [h3]
      · exact absurd ⟨h2, by simpa using h3⟩ h1
theorem canR_of {r : Rec} (h : recErr r = 0) : CanR r ∧ sizeP r.past ≠ 0 := by
  unfold recErr at h
  split at h
  · omega
  · split at h
    · omega
    · rename_i h1
      simp only [not_or] at h1
      exact ⟨isNormP_iff.1 (by simpa using h1.1), h1.2⟩
theorem formK_can {l : List Rec} (h : FormK l) : ∀ r ∈ l, CanR r ∧ sizeP r.past ≠ 0 ∧ skuOk r = true := by
  intro r hr
  obtain ⟨i, hi⟩ := List.mem_iff_getElem?.1 hr
  have := h.1 i r hi
  exact ⟨(canR_of this).1, (canR_of this).2, skuOk_of this⟩
theorem keptK_form {l : List Rec} (h : ∀ r ∈ l, CanR r ∧ sizeP r.past ≠ 0) : keptK l = l := by
  unfold keptK
  rw [List.filter_eq_self.2 fun r hr => by simp [(h r hr).2]]
  have : l.map (fun r => (⟨r.sku, normP r.past⟩ : Rec)) = l.map id := List.map_congr_left fun r hr => by
    have := (h r hr).1
    unfold CanR at this
    rw [this]
    rfl
  rw [this, List.map_id]
noncomputable def unionK (a b : List Rec) : List Rec := if formK a = true ∧ formK b = true then ordR (a ++ b) else []
theorem srtE_form {a b : List Rec} (ha : FormK a) (hb : FormK b) : (a ++ b).all skuOk = true ∧ srtE (a ++ b) = ordR (a ++ b) := by
  have hab : ∀ r ∈ a ++ b, CanR r ∧ sizeP r.past ≠ 0 ∧ skuOk r = true := fun r hr => (List.mem_append.1 hr).elim (formK_can ha r) (formK_can hb r)
  have h1 : (a ++ b).all skuOk = true := List.all_eq_true.2 fun r hr => (hab r hr).2.2
  refine ⟨h1, ?_⟩
  unfold srtE
  rw [if_pos h1, keptK_form fun r hr => ⟨(hab r hr).1, (hab r hr).2.1⟩]
theorem ev_k36 (a b : List Rec) (ha : a.length ≤ 10000000) (hb : b.length ≤ 10000000) (hwa : ∀ r ∈ a, wt r.past ≤ 40000000) (hwb : ∀ r ∈ b, wt r.past ≤ 40000000) :
    Ev (En Tryz.prog rfl).P 36 [.sl 3 (encKs a), .sl 3 (encKs b)] (.ret (.tup [.sl 3 (encKs (unionK a b)), .int .i64 (if formK a = true ∧ formK b = true then 0 else 1)])) := by
  refine Ev.of_body it_k36 (by simp) (Run.start ?_)
  unfold t_k36 unionK
  have hS := stbK
  have c1 := ev_keepCheckW a (by omega) hwa
  have c2 := ev_keepCheckW b (by omega) hwb
  by_cases hfa : formK a = true
  case' neg =>
    rw [if_neg hfa] at c1
    rw [if_neg (fun h => hfa h.1), if_neg (fun h => hfa h.1)]
    (focus (have hF := True.intro; (repeat' (first | refine go1 (k:=?_) | with_reducible refine Ny.of ?_ ?_ | (refine Hyp.of ?_; intro hc; (try simp only [hc]); (try simp only [Bh] at hc)))); all_goals clear hF))
    refine stCall [.sl 3 (encKs a)] (he := c1) (k:=?_)
    (focus (have hF := True.intro; (repeat' (first | refine go1 (k:=?_) | with_reducible refine Ny.of ?_ ?_ | (refine Hyp.of ?_; intro hc; (try simp only [hc]); (try simp only [Bh] at hc)))); all_goals clear hF))
    exact Fin.two rfl rfl rfl rfl (.inr ⟨rfl, 3, rfl⟩) (.inl rfl)
  case' pos =>
    rw [if_pos hfa] at c1
    by_cases hfb : formK b = true
    case' neg =>
      rw [if_neg hfb] at c2
      rw [if_neg (fun h => hfb h.2), if_neg (fun h => hfb h.2)]
      (focus (have hF := True.intro; (repeat' (first | refine go1 (k:=?_) | with_reducible refine Ny.of ?_ ?_ | (refine Hyp.of ?_; intro hc; (try simp only [hc]); (try simp only [Bh] at hc)))); all_goals clear hF))
      refine stCall [.sl 3 (encKs a)] (he := c1) (k:=?_)
      (focus (have hF := True.intro; (repeat' (first | refine go1 (k:=?_) | with_reducible refine Ny.of ?_ ?_ | (refine Hyp.of ?_; intro hc; (try simp only [hc]); (try simp only [Bh] at hc)))); all_goals clear hF))
      refine stCall [.sl 3 (encKs b)] (he := c2) (k:=?_)
      (focus (have hF := True.intro; (repeat' (first | refine go1 (k:=?_) | with_reducible refine Ny.of ?_ ?_ | (refine Hyp.of ?_; intro hc; (try simp only [hc]); (try simp only [Bh] at hc)))); all_goals clear hF))
      exact Fin.two rfl rfl rfl rfl (.inr ⟨rfl, 3, rfl⟩) (.inl rfl)
    case' pos =>
      rw [if_pos hfb] at c2
      rw [if_pos ⟨hfa, hfb⟩, if_pos ⟨hfa, hfb⟩]
      obtain ⟨s1, s2⟩ := srtE_form (formK_iff.1 hfa) (formK_iff.1 hfb)
      have c3 := ev_concatRec a b ha hb
      have c4 := ev_k12 (a ++ b) (by simp; omega) (fun r hr => (List.mem_append.1 hr).elim (hwa r) (hwb r))
      rw [s2, s1, if_pos rfl] at c4
      generalize a ++ b = l at *
      generalize ordR l = o at *
      (focus (have hF := True.intro; (repeat' (first | refine go1 (k:=?_) | with_reducible refine Ny.of ?_ ?_ | (refine Hyp.of ?_; intro hc; (try simp only [hc]); (try simp only [Bh] at hc)))); all_goals clear hF))
      refine stCall [.sl 3 (encKs a)] (he := c1) (k:=?_)
      (focus (have hF := True.intro; (repeat' (first | refine go1 (k:=?_) | with_reducible refine Ny.of ?_ ?_ | (refine Hyp.of ?_; intro hc; (try simp only [hc]); (try simp only [Bh] at hc)))); all_goals clear hF))
      refine stCall [.sl 3 (encKs b)] (he := c2) (k:=?_)
      (focus (have hF := True.intro; (repeat' (first | refine go1 (k:=?_) | with_reducible refine Ny.of ?_ ?_ | (refine Hyp.of ?_; intro hc; (try simp only [hc]); (try simp only [Bh] at hc)))); all_goals clear hF))
      refine stCall [.sl 1 [.sl 3 (encKs a), .sl 3 (encKs b)]] (he := c3) (k:=?_)
      (focus (have hF := True.intro; (repeat' (first | refine go1 (k:=?_) | with_reducible refine Ny.of ?_ ?_ | (refine Hyp.of ?_; intro hc; (try simp only [hc]); (try simp only [Bh] at hc)))); all_goals clear hF))
      refine stCall [.sl 3 (encKs l)] (he := c4) (k:=?_)
      (focus (have hF := True.intro; (repeat' (first | refine go1 (k:=?_) | with_reducible refine Ny.of ?_ ?_ | (refine Hyp.of ?_; intro hc; (try simp only [hc]); (try simp only [Bh] at hc)))); all_goals clear hF))
      exact Fin.two rfl (encKs_stb _) rfl rfl (.inl rfl) (.inl rfl)
theorem ev_k37 (a b : List Rec) (ha : a.length ≤ 10000000) (hb : b.length ≤ 10000000) (hwa : ∀ r ∈ a, wt r.past ≤ 30000000) (hwb : ∀ r ∈ b, wt r.past ≤ 30000000) :
    Ev (En Tryz.prog rfl).P 37 [.sl 3 (encKs a), .sl 3 (encKs b)] (.ret (.tup [.sl 3 (encKs (unionK a b)), .int .i64 (if formK a = true ∧ formK b = true then 0 else 1)])) := by
  refine Ev.of_body it_k37 (by simp) (Run.start ?_)
  unfold t_k37 unionK
  have hS := stbK
  have e1 := encKs_len a
  have e2 := encKs_len b
  have c1 := ev_ref07CheckW a (by omega) hwa
  have c2 := ev_ref07CheckW b (by omega) hwb
  by_cases hfa : formK a = true
  case' neg =>
    rw [if_neg hfa] at c1
    rw [if_neg (fun h => hfa h.1), if_neg (fun h => hfa h.1)]
    (focus (have hF := True.intro; (repeat' (first | refine go1 (k:=?_) | with_reducible refine Ny.of ?_ ?_ | (refine Hyp.of ?_; intro hc; (try simp only [hc]); (try simp only [Bh] at hc)))); all_goals clear hF))
    refine stCall [.sl 3 (encKs a)] (he := c1) (k:=?_)
    (focus (have hF := True.intro; (repeat' (first | refine go1 (k:=?_) | with_reducible refine Ny.of ?_ ?_ | (refine Hyp.of ?_; intro hc; (try simp only [hc]); (try simp only [Bh] at hc)))); all_goals clear hF))
    exact Fin.two rfl rfl rfl rfl (.inr ⟨rfl, 3, rfl⟩) (.inl rfl)
  case' pos =>
    rw [if_pos hfa] at c1
    by_cases hfb : formK b = true
    case' neg =>
      rw [if_neg hfb] at c2
      rw [if_neg (fun h => hfb h.2), if_neg (fun h => hfb h.2)]
      (focus (have hF := True.intro; (repeat' (first | refine go1 (k:=?_) | with_reducible refine Ny.of ?_ ?_ | (refine Hyp.of ?_; intro hc; (try simp only [hc]); (try simp only [Bh] at hc)))); all_goals clear hF))
      refine stCall [.sl 3 (encKs a)] (he := c1) (k:=?_)
      (focus (have hF := True.intro; (repeat' (first | refine go1 (k:=?_) | with_reducible refine Ny.of ?_ ?_ | (refine Hyp.of ?_; intro hc; (try simp only [hc]); (try simp only [Bh] at hc)))); all_goals clear hF))
      refine stCall [.sl 3 (encKs b)] (he := c2) (k:=?_)
      (focus (have hF := True.intro; (repeat' (first | refine go1 (k:=?_) | with_reducible refine Ny.of ?_ ?_ | (refine Hyp.of ?_; intro hc; (try simp only [hc]); (try simp only [Bh] at hc)))); all_goals clear hF))
      exact Fin.two rfl rfl rfl rfl (.inr ⟨rfl, 3, rfl⟩) (.inl rfl)
    case' pos =>
      rw [if_pos hfb] at c2
      rw [if_pos ⟨hfa, hfb⟩, if_pos ⟨hfa, hfb⟩]
      have hca : ∀ r ∈ a ++ b, CanR r := fun r hr => (List.mem_append.1 hr).elim (fun h => (formK_can (formK_iff.1 hfa) r h).1) (fun h => (formK_can (formK_iff.1 hfb) r h).1)
      have c4 := ev_k63 _ (a ++ b) (Nat.le_refl _) (by simp; omega) (fun r hr => (List.mem_append.1 hr).elim (hwa r) (hwb r)) hca
      have hap := encKs_app a b
      generalize a ++ b = l at *
      generalize ordR l = o at *
      (focus (have hF := (And.intro @List.nil_append.{0} (And.intro @e1 @e2)); (repeat' (first | refine go1 (k:=?_) | with_reducible refine Ny.of ?_ ?_ | (refine Hyp.of ?_; intro hc; (try simp only [hc]); (try simp only [Bh] at hc)))); all_goals clear hF))
      refine stCall [.sl 3 (encKs a)] (he := c1) (k:=?_)
      (focus (have hF := (And.intro @List.nil_append.{0} (And.intro @e1 @e2)); (repeat' (first | refine go1 (k:=?_) | with_reducible refine Ny.of ?_ ?_ | (refine Hyp.of ?_; intro hc; (try simp only [hc]); (try simp only [Bh] at hc)))); all_goals clear hF))
      refine stCall [.sl 3 (encKs b)] (he := c2) (k:=?_)
      (focus (have hF := (And.intro (And.intro @List.nil_append.{0} @e1) (And.intro @e2 @hap)); (repeat' (first | refine go1 (k:=?_) | with_reducible refine Ny.of ?_ ?_ | (refine Hyp.of ?_; intro hc; (try simp only [hc]); (try simp only [Bh] at hc)))); all_goals clear hF))
      refine stGive (fun j => 14 == 14) [.sl 3 (encKs l)] (he := c4) (k:=?_)
      (focus (have hF := True.intro; (repeat' (first | refine go1 (k:=?_) | with_reducible refine Ny.of ?_ ?_ | (refine Hyp.of ?_; intro hc; (try simp only [hc]); (try simp only [Bh] at hc)))); all_goals clear hF))
      exact Fin.two rfl (encKs_stb _) rfl rfl (.inl rfl) (.inl rfl)

def r_k38_1 : List SOp := [⟨some 3,.box 27 (.tmp 1),none⟩,⟨some 4,.assign (.const (.slice none 0 0)),none⟩,⟨some 5,.assign (.const (.int .i64 0)),none⟩]
instance : Live r_k38_1 := ⟨[0,1]⟩
def r_k38_2 : List SOp := [⟨some 9,.move (.tmp 0),none⟩,⟨some 10,.call ⟨.value (.func 14),#[.tmp 9],#[22]⟩,none⟩,⟨some 11,.binOp .neq 32 (.tmp 10) (.const (.int .i64 0)) 32,none⟩,⟨some 12,.move (.tmp 11),none⟩,⟨some 13,.load 27 (.tmp 3),some ((some 12),false)⟩,⟨some 14,.call ⟨.value (.func 65),#[.tmp 13],#[27]⟩,some ((some 12),false)⟩,⟨some 15,.unOp .not 4 (.tmp 14),some ((some 12),false)⟩,⟨some 16,.pick (.tmp 12) (.const (.bool true)) (.tmp 15),none⟩]
instance : Live r_k38_2 := ⟨[0,3]⟩
def r_k38_3 : List SOp := [⟨some 4,.assign (.const (.slice none 0 0)),none⟩,⟨some 5,.assign (.const (.int .i64 1)),none⟩]
instance : Live r_k38_3 := ⟨[]⟩
def r_k38_4 : List SOp := [⟨some 6,.assign (.const (.slice none 0 0)),none⟩]
instance : Live r_k38_4 := ⟨[0,3]⟩
def r_k38_5 : List SOp := [⟨some 17,.move (.tmp 0),none⟩,⟨some 18,.call ⟨.builtin .len,#[.tmp 17],#[22]⟩,none⟩,⟨some 19,.move (.const (.int .i64 0)),none⟩]
instance : Live r_k38_5 := ⟨[0,3,6]⟩
def r_k38_6 : List SOp := [⟨some 20,.binOp .lss 3 (.tmp 19) (.tmp 18) 3,none⟩]
instance : Live r_k38_6 := ⟨[3,6,17,18,19]⟩
def r_k38_7 : List SOp := [⟨some 21,.indexAddr 22 (.tmp 17) (.tmp 19),none⟩,⟨some 22,.load 39 (.tmp 21),none⟩,⟨some 8,.alloc 39,none⟩,⟨none,.store 39 (.tmp 8) (.tmp 22),none⟩]
instance : Live r_k38_7 := ⟨[3,6,17,18,19]⟩
def r_k38_8 : List SOp := [⟨some 23,.fieldAddr 39 (.tmp 8) 1,none⟩,⟨some 24,.load 27 (.tmp 23),none⟩,⟨some 25,.load 27 (.tmp 3),none⟩,⟨some 26,.call ⟨.value (.func 43),#[.tmp 24,.tmp 25],#[27,27]⟩,none⟩,⟨some 27,.unOp .not 4 (.tmp 26),none⟩]
instance : Live r_k38_8 := ⟨[3,6,8,17,18,19]⟩
def r_k38_9 : List SOp := [⟨some 28,.move (.tmp 6),none⟩,⟨some 29,.load 39 (.tmp 8),none⟩,⟨some 30,.call ⟨.value (.func 56),#[.tmp 29],#[39]⟩,none⟩,⟨some 31,.buildSlice 22 1 #[(0,.tmp 30)],none⟩,⟨some 32,.call ⟨.builtin .append,#[.tmp 28,.tmp 31],#[22,22]⟩,none⟩,⟨some 6,.assign (.tmp 32),none⟩]
instance : Live r_k38_9 := ⟨[3,6,8,17,18,19]⟩
def r_k38_10 : List SOp := [⟨some 33,.binOp .add 3 (.tmp 19) (.const (.int .i64 1)) 3,none⟩,⟨some 19,.move (.tmp 33),none⟩]
instance : Live r_k38_10 := ⟨[3,6,17,18,19]⟩
def r_k38_11 : List SOp := [⟨some 34,.move (.tmp 6),none⟩,⟨some 4,.assign (.tmp 34),none⟩,⟨some 5,.assign (.const (.int .i64 0)),none⟩]
instance : Live r_k38_11 := ⟨[6]⟩
def t_k38_l1 : SC :=
  (.seq (.ops false r_k38_6) (.seq (.cond (.tmp 20) .skip (.exit 0)) (.seq (.block 1 (.seq (.ops false r_k38_7) (.seq (.ops false r_k38_8) (.cond (.tmp 27) (.ops false r_k38_9) .skip)))) (.ops false r_k38_10))))
def t_k38 : SC :=
  (.seq (.ops false r_k38_1) (.seq (.seq (.ops false r_k38_2) (.cond (.tmp 16) (.seq (.ops false r_k38_3) .ret) .skip)) (.seq (.ops false r_k38_4) (.seq (.seq (.ops false r_k38_5) (.block 0 (.loop t_k38_l1))) (.seq (.ops false r_k38_11) .ret)))))
theorem it_k38 : FnIs Tryz.prog 38 35 [.tmp 4, .tmp 5] t_k38 := ⟨Tryz.f38, _, Tryz.func38, rfl, rfl, rfl, rfl, by kernel_rfl⟩

def r_k39_1 : List SOp := [⟨some 3,.box 27 (.tmp 1),none⟩,⟨some 4,.assign (.const (.slice none 0 0)),none⟩,⟨some 5,.assign (.const (.int .i64 0)),none⟩]
instance : Live r_k39_1 := ⟨[0,1]⟩
def r_k39_2 : List SOp := [⟨some 8,.move (.tmp 0),none⟩,⟨some 9,.call ⟨.value (.func 15),#[.tmp 8],#[22]⟩,none⟩,⟨some 10,.binOp .neq 32 (.tmp 9) (.const (.int .i64 0)) 32,none⟩,⟨some 11,.move (.tmp 10),none⟩,⟨some 12,.load 27 (.tmp 3),some ((some 11),false)⟩,⟨some 13,.call ⟨.value (.func 66),#[.tmp 12],#[27]⟩,some ((some 11),false)⟩,⟨some 14,.unOp .not 4 (.tmp 13),some ((some 11),false)⟩,⟨some 15,.pick (.tmp 11) (.const (.bool true)) (.tmp 14),none⟩]
instance : Live r_k39_2 := ⟨[0,3]⟩
def r_k39_3 : List SOp := [⟨some 4,.assign (.const (.slice none 0 0)),none⟩,⟨some 5,.assign (.const (.int .i64 1)),none⟩]
instance : Live r_k39_3 := ⟨[]⟩
def r_k39_4 : List SOp := [⟨some 6,.assign (.const (.slice none 0 0)),none⟩]
instance : Live r_k39_4 := ⟨[0,3]⟩
def r_k39_5 : List SOp := [⟨some 7,.assign (.const (.int .i64 0)),none⟩]
instance : Live r_k39_5 := ⟨[0,3,6]⟩
def r_k39_6 : List SOp := [⟨some 16,.move (.tmp 7),none⟩,⟨some 17,.move (.tmp 0),none⟩,⟨some 18,.call ⟨.builtin .len,#[.tmp 17],#[22]⟩,none⟩,⟨some 19,.binOp .lss 3 (.tmp 16) (.tmp 18) 3,none⟩]
instance : Live r_k39_6 := ⟨[0,3,6,7]⟩
def r_k39_7 : List SOp := [⟨some 22,.move (.tmp 0),none⟩,⟨some 23,.move (.tmp 7),none⟩,⟨some 24,.indexAddr 22 (.tmp 22) (.tmp 23),none⟩,⟨some 25,.fieldAddr 39 (.tmp 24) 1,none⟩,⟨some 26,.load 27 (.tmp 25),none⟩,⟨some 27,.load 27 (.tmp 3),none⟩,⟨some 28,.call ⟨.value (.func 83),#[.tmp 26,.tmp 27],#[27,27]⟩,none⟩,⟨some 29,.unOp .not 4 (.tmp 28),none⟩]
instance : Live r_k39_7 := ⟨[0,3,6,7]⟩
def r_k39_8 : List SOp := [⟨some 30,.move (.tmp 6),none⟩,⟨some 31,.move (.tmp 0),none⟩,⟨some 32,.move (.tmp 7),none⟩,⟨some 33,.indexAddr 22 (.tmp 31) (.tmp 32),none⟩,⟨some 34,.load 39 (.tmp 33),none⟩,⟨some 35,.buildSlice 22 1 #[(0,.tmp 34)],none⟩,⟨some 36,.call ⟨.builtin .append,#[.tmp 30,.tmp 35],#[22,22]⟩,none⟩,⟨some 6,.assign (.tmp 36),none⟩]
instance : Live r_k39_8 := ⟨[0,3,6,7]⟩
def r_k39_9 : List SOp := [⟨some 20,.move (.tmp 7),none⟩,⟨some 21,.binOp .add 3 (.tmp 20) (.const (.int .i64 1)) 3,none⟩,⟨some 7,.assign (.tmp 21),none⟩]
instance : Live r_k39_9 := ⟨[0,3,6,7]⟩
def r_k39_10 : List SOp := [⟨some 37,.move (.tmp 6),none⟩,⟨some 4,.assign (.tmp 37),none⟩,⟨some 5,.assign (.const (.int .i64 0)),none⟩]
instance : Live r_k39_10 := ⟨[6]⟩
def t_k39_l1 : SC :=
  (.seq (.seq (.ops false r_k39_6) (.cond (.tmp 19) .skip (.exit 0))) (.seq (.block 1 (.seq (.ops true r_k39_7) (.cond (.tmp 29) (.ops false r_k39_8) .skip))) (.ops false r_k39_9)))
def t_k39 : SC :=
  (.seq (.ops false r_k39_1) (.seq (.seq (.ops false r_k39_2) (.cond (.tmp 15) (.seq (.ops false r_k39_3) .ret) .skip)) (.seq (.ops false r_k39_4) (.seq (.seq (.ops false r_k39_5) (.block 0 (.loop t_k39_l1))) (.seq (.ops false r_k39_10) .ret)))))
theorem it_k39 : FnIs Tryz.prog 39 38 [.tmp 4, .tmp 5] t_k39 := ⟨Tryz.f39, _, Tryz.func39, rfl, rfl, rfl, rfl, by kernel_rfl⟩

noncomputable def waitsL (l : List Rec) (p : Pst) : List Rec := l.filter fun r => !withinP r.past p
theorem waitsL_take {l : List Rec} {p : Pst} {i : Nat} {r : Rec} (h : l[i]? = some r) : waitsL (l.take (i + 1)) p = waitsL (l.take i) p ++ if withinP r.past p = true then [] else [r] := by
  unfold waitsL
  rw [List.take_add_one, h, List.filter_append]
  by_cases hw : withinP r.past p = true
  · simp [hw]
  · simp [hw]
theorem waitsL_len (l : List Rec) (p : Pst) : (waitsL l p).length ≤ l.length := List.length_filter_le _ _
noncomputable def waitsK (l : List Rec) (p : Pst) : List Rec := if formK l = true ∧ isNormP p = true then waitsL l p else []
theorem ev_k38 (l : List Rec) (p : Pst) (hl : l.length ≤ 1000000000) (hw : ∀ r ∈ l, wt r.past ≤ 40000000) (hp : wt p ≤ 40000000) :
    Ev (En Tryz.prog rfl).P 38 [.sl 3 (encKs l), encP p] (.ret (.tup [.sl 3 (encKs (waitsK l p)), .int .i64 (if formK l = true ∧ isNormP p = true then 0 else 1)])) := by
  refine Ev.of_body it_k38 (by simp) (Run.start ?_)
  unfold t_k38 encP waitsK
  have hS := stbK
  have e1 := encKs_len l
  have c1 := ev_keepCheckW l (by omega) hw
  have c2 := ev_k65 p (by omega)
  by_cases hf : formK l = true
  case' neg =>
    rw [if_neg hf] at c1
    rw [if_neg (fun h => hf h.1), if_neg (fun h => hf h.1)]
    (focus (have hF := @e1; (repeat' (first | refine go1 (k:=?_) | with_reducible refine Ny.of ?_ ?_ | (refine Hyp.of ?_; intro hc; (try simp only [hc]); (try simp only [Bh] at hc)))); all_goals clear hF))
    refine stCall [.sl 3 (encKs l)] (he := c1) (k:=?_)
    (focus (have hF := @e1; (repeat' (first | refine go1 (k:=?_) | with_reducible refine Ny.of ?_ ?_ | (refine Hyp.of ?_; intro hc; (try simp only [hc]); (try simp only [Bh] at hc)))); all_goals clear hF))
    exact Fin.two rfl rfl rfl rfl (.inr ⟨rfl, 3, rfl⟩) (.inl rfl)
  case' pos =>
    rw [if_pos hf] at c1
    by_cases hn : isNormP p = true
    case' neg =>
      rw [if_neg (fun h => hn h.2), if_neg (fun h => hn h.2)]
      rw [show isNormP p = false by simpa using hn] at c2
      (focus (have hF := @e1; (repeat' (first | refine go1 (k:=?_) | with_reducible refine Ny.of ?_ ?_ | (refine Hyp.of ?_; intro hc; (try simp only [hc]); (try simp only [Bh] at hc)))); all_goals clear hF))
      refine stCall [.sl 3 (encKs l)] (he := c1) (k:=?_)
      (focus (have hF := @e1; (repeat' (first | refine go1 (k:=?_) | with_reducible refine Ny.of ?_ ?_ | (refine Hyp.of ?_; intro hc; (try simp only [hc]); (try simp only [Bh] at hc)))); all_goals clear hF))
      refine stCall [encP p] (he := c2) (k:=?_)
      (focus (have hF := @e1; (repeat' (first | refine go1 (k:=?_) | with_reducible refine Ny.of ?_ ?_ | (refine Hyp.of ?_; intro hc; (try simp only [hc]); (try simp only [Bh] at hc)))); all_goals clear hF))
      exact Fin.two rfl rfl rfl rfl (.inr ⟨rfl, 3, rfl⟩) (.inl rfl)
    case' pos =>
      rw [if_pos ⟨hf, hn⟩, if_pos ⟨hf, hn⟩]
      rw [hn] at c2
      have hfm := formK_can (formK_iff.1 hf)
      (focus (have hF := @e1; (repeat' (first | refine go1 (k:=?_) | with_reducible refine Ny.of ?_ ?_ | (refine Hyp.of ?_; intro hc; (try simp only [hc]); (try simp only [Bh] at hc)))); all_goals clear hF))
      refine stCall [.sl 3 (encKs l)] (he := c1) (k:=?_)
      (focus (have hF := @e1; (repeat' (first | refine go1 (k:=?_) | with_reducible refine Ny.of ?_ ?_ | (refine Hyp.of ?_; intro hc; (try simp only [hc]); (try simp only [Bh] at hc)))); all_goals clear hF))
      refine stCall [encP p] (he := c2) (k:=?_)
      (focus (have hF := @e1; (repeat' (first | refine go1 (k:=?_) | with_reducible refine Ny.of ?_ ?_ | (refine Hyp.of ?_; intro hc; (try simp only [hc]); (try simp only [Bh] at hc)))); all_goals clear hF))
      refine Run.wk (Wk.own_nil 6 32 3 rfl rfl) ?_
      refine Run.while (σ := Nat) (fun i => ⟨tms [(3, .ptr 3 0), (6, .os 32 (waitsL (l.take i) p).length), (17, .sl 3 (encKs l)), (18, .int .i64 l.length), (19, .int .i64 (i : Int))], mms [(3, .cells [.sl 1 (encIs p.vec), .sl 3 (encSs p.cloud)]), (32, .arr (waitsL (l.take i) p).length 3 (encKs (waitsL (l.take i) p)))]⟩)
        (fun i => i ≤ l.length) (fun i => l.length - i) 0 (have hW := @encKs_stb; stWk) (Nat.zero_le _) ?_
      intro i hi
      unfold t_k38_l1
      by_cases hlt : i < l.length
      · obtain ⟨r, hr⟩ : ∃ r, l[i]? = some r := ⟨l[i], by simp [hlt]⟩
        have g1 := encKs_get hr
        have hst := waitsL_take (p := p) hr
        have hle := waitsL_len (l.take i) p
        have hle2 : (l.take i).length ≤ l.length := by rw [List.length_take]; omega
        generalize waitsL (l.take i) p = out at hst hle ⊢
        have e2 := encKs_len out
        have hrl := List.mem_of_getElem? hr
        have hwr := hw r hrl
        have c3 := ev_k43 r.past p (by omega) (by omega)
        have c4 := ev_k56 r (by omega)
        have hcan : normP r.past = r.past := (hfm r hrl).1
        rw [hcan] at c4
        (focus (have hF := (And.intro @e1 (And.intro @e2 @g1)); (repeat' (first | refine go1 (k:=?_) | with_reducible refine Ny.of ?_ ?_ | (refine Hyp.of ?_; intro hc; (try simp only [hc]); (try simp only [Bh] at hc)))); all_goals clear hF))
        refine stCall [encP r.past, encP p] (he := c3) (k:=?_)
        by_cases hwi : withinP r.past p = true
        · rw [if_pos hwi, List.append_nil] at hst
          rw [hwi]
          (focus (have hF := (And.intro @e1 (And.intro @e2 @g1)); (repeat' (first | refine go1 (k:=?_) | with_reducible refine Ny.of ?_ ?_ | (refine Hyp.of ?_; intro hc; (try simp only [hc]); (try simp only [Bh] at hc)))); all_goals clear hF))
          (refine Fin.nextW (i + 1) ?_ (have hW := (And.intro @encKs_stb @hst); stWk); (try dsimp only))
          omega
        · rw [if_neg hwi] at hst
          rw [show withinP r.past p = false by simpa using hwi]
          (focus (have hF := (And.intro @e1 (And.intro @e2 @g1)); (repeat' (first | refine go1 (k:=?_) | with_reducible refine Ny.of ?_ ?_ | (refine Hyp.of ?_; intro hc; (try simp only [hc]); (try simp only [Bh] at hc)))); all_goals clear hF))
          refine stCall [encK r] (he := c4) (k:=?_)
          unfold encK
          (focus (have hF := (And.intro @e1 (And.intro @e2 @g1)); (repeat' (first | refine go1 (k:=?_) | with_reducible refine Ny.of ?_ ?_ | (refine Hyp.of ?_; intro hc; (try simp only [hc]); (try simp only [Bh] at hc)))); all_goals clear hF))
          (refine Fin.nextW (i + 1) ?_ (have hW := (And.intro @encKs_stb (And.intro @hst @encKs_snoc)); stWk); (try dsimp only))
          omega
      · rw [List.take_of_length_le (show l.length ≤ i by omega)]
        (focus (have hF := @e1; (repeat' (first | refine go1 (k:=?_) | with_reducible refine Ny.of ?_ ?_ | (refine Hyp.of ?_; intro hc; (try simp only [hc]); (try simp only [Bh] at hc)))); all_goals clear hF))
        exact Fin.two (x := .sl 3 (encKs (waitsL l p))) (by simp [fz, fzc, allK, upd, tms, mms]) (encKs_stb _) rfl rfl (.inl rfl) (.inl rfl)
theorem ev_k39 (l : List Rec) (p : Pst) (hl : l.length ≤ 1000000000) (hw : ∀ r ∈ l, wt r.past ≤ 10000000) (hp : wt p ≤ 10000000) :
    Ev (En Tryz.prog rfl).P 39 [.sl 3 (encKs l), encP p] (.ret (.tup [.sl 3 (encKs (waitsK l p)), .int .i64 (if formK l = true ∧ isNormP p = true then 0 else 1)])) := by
  refine Ev.of_body it_k39 (by simp) (Run.start ?_)
  unfold t_k39 encP waitsK
  have hS := stbK
  have e1 := encKs_len l
  have c1 := ev_ref07CheckW l (by omega) (fun r hr => by have := hw r hr; omega)
  have c2 := ev_k66 p (by omega)
  by_cases hf : formK l = true
  case' neg =>
    rw [if_neg hf] at c1
    rw [if_neg (fun h => hf h.1), if_neg (fun h => hf h.1)]
    (focus (have hF := @e1; (repeat' (first | refine go1 (k:=?_) | with_reducible refine Ny.of ?_ ?_ | (refine Hyp.of ?_; intro hc; (try simp only [hc]); (try simp only [Bh] at hc)))); all_goals clear hF))
    refine stCall [.sl 3 (encKs l)] (he := c1) (k:=?_)
    (focus (have hF := @e1; (repeat' (first | refine go1 (k:=?_) | with_reducible refine Ny.of ?_ ?_ | (refine Hyp.of ?_; intro hc; (try simp only [hc]); (try simp only [Bh] at hc)))); all_goals clear hF))
    exact Fin.two rfl rfl rfl rfl (.inr ⟨rfl, 3, rfl⟩) (.inl rfl)
  case' pos =>
    rw [if_pos hf] at c1
    by_cases hn : isNormP p = true
    case' neg =>
      rw [if_neg (fun h => hn h.2), if_neg (fun h => hn h.2)]
      rw [show isNormP p = false by simpa using hn] at c2
      (focus (have hF := @e1; (repeat' (first | refine go1 (k:=?_) | with_reducible refine Ny.of ?_ ?_ | (refine Hyp.of ?_; intro hc; (try simp only [hc]); (try simp only [Bh] at hc)))); all_goals clear hF))
      refine stCall [.sl 3 (encKs l)] (he := c1) (k:=?_)
      (focus (have hF := @e1; (repeat' (first | refine go1 (k:=?_) | with_reducible refine Ny.of ?_ ?_ | (refine Hyp.of ?_; intro hc; (try simp only [hc]); (try simp only [Bh] at hc)))); all_goals clear hF))
      refine stCall [encP p] (he := c2) (k:=?_)
      (focus (have hF := @e1; (repeat' (first | refine go1 (k:=?_) | with_reducible refine Ny.of ?_ ?_ | (refine Hyp.of ?_; intro hc; (try simp only [hc]); (try simp only [Bh] at hc)))); all_goals clear hF))
      exact Fin.two rfl rfl rfl rfl (.inr ⟨rfl, 3, rfl⟩) (.inl rfl)
    case' pos =>
      rw [if_pos ⟨hf, hn⟩, if_pos ⟨hf, hn⟩]
      rw [hn] at c2
      (focus (have hF := @e1; (repeat' (first | refine go1 (k:=?_) | with_reducible refine Ny.of ?_ ?_ | (refine Hyp.of ?_; intro hc; (try simp only [hc]); (try simp only [Bh] at hc)))); all_goals clear hF))
      refine stCall [.sl 3 (encKs l)] (he := c1) (k:=?_)
      (focus (have hF := @e1; (repeat' (first | refine go1 (k:=?_) | with_reducible refine Ny.of ?_ ?_ | (refine Hyp.of ?_; intro hc; (try simp only [hc]); (try simp only [Bh] at hc)))); all_goals clear hF))
      refine stCall [encP p] (he := c2) (k:=?_)
      (focus (have hF := @e1; (repeat' (first | refine go1 (k:=?_) | with_reducible refine Ny.of ?_ ?_ | (refine Hyp.of ?_; intro hc; (try simp only [hc]); (try simp only [Bh] at hc)))); all_goals clear hF))
      refine Run.wk (Wk.own_nil 6 36 3 rfl rfl) ?_
      refine Run.while (σ := Nat) (fun i => ⟨tms [(0, .sl 3 (encKs l)), (3, .ptr 3 0), (6, .os 36 (waitsL (l.take i) p).length), (7, .int .i64 (i : Int))], mms [(3, .cells [.sl 1 (encIs p.vec), .sl 3 (encSs p.cloud)]), (36, .arr (waitsL (l.take i) p).length 3 (encKs (waitsL (l.take i) p)))]⟩)
        (fun i => i ≤ l.length) (fun i => l.length - i) 0 (have hW := @encKs_stb; stWk) (Nat.zero_le _) ?_
      intro i hi
      unfold t_k39_l1
      by_cases hlt : i < l.length
      · obtain ⟨r, hr⟩ : ∃ r, l[i]? = some r := ⟨l[i], by simp [hlt]⟩
        have g1 := encKs_get hr
        have hst := waitsL_take (p := p) hr
        have hle := waitsL_len (l.take i) p
        have hle2 : (l.take i).length ≤ l.length := by rw [List.length_take]; omega
        generalize waitsL (l.take i) p = out at hst hle ⊢
        have e2 := encKs_len out
        have hwr := hw r (List.mem_of_getElem? hr)
        have c3 := ev_k83 r.past p (by omega) (by omega)
        (focus (have hF := (And.intro @e1 (And.intro @e2 @g1)); (repeat' (first | refine go1 (k:=?_) | with_reducible refine Ny.of ?_ ?_ | (refine Hyp.of ?_; intro hc; (try simp only [hc]); (try simp only [Bh] at hc)))); all_goals clear hF))
        refine stCall [encP r.past, encP p] (he := c3) (k:=?_)
        by_cases hwi : withinP r.past p = true
        · rw [if_pos hwi, List.append_nil] at hst
          rw [hwi]
          (focus (have hF := (And.intro @e1 (And.intro @e2 @g1)); (repeat' (first | refine go1 (k:=?_) | with_reducible refine Ny.of ?_ ?_ | (refine Hyp.of ?_; intro hc; (try simp only [hc]); (try simp only [Bh] at hc)))); all_goals clear hF))
          (refine Fin.nextW (i + 1) ?_ (have hW := (And.intro @encKs_stb @hst); stWk); (try dsimp only))
          omega
        · rw [if_neg hwi] at hst
          rw [show withinP r.past p = false by simpa using hwi]
          (focus (have hF := (And.intro @e1 (And.intro @e2 @g1)); (repeat' (first | refine go1 (k:=?_) | with_reducible refine Ny.of ?_ ?_ | (refine Hyp.of ?_; intro hc; (try simp only [hc]); (try simp only [Bh] at hc)))); all_goals clear hF))
          (refine Fin.nextW (i + 1) ?_ (have hW := (And.intro @encKs_stb (And.intro @hst @encKs_snoc)); stWk); (try dsimp only))
          omega
      · rw [List.take_of_length_le (show l.length ≤ i by omega)]
        (focus (have hF := @e1; (repeat' (first | refine go1 (k:=?_) | with_reducible refine Ny.of ?_ ?_ | (refine Hyp.of ?_; intro hc; (try simp only [hc]); (try simp only [Bh] at hc)))); all_goals clear hF))
        exact Fin.two (x := .sl 3 (encKs (waitsL l p))) (by simp [fz, fzc, allK, upd, tms, mms]) (encKs_stb _) rfl rfl (.inl rfl) (.inl rfl)

def ltS (a b : Rec) : Prop := cmpB a.sku b.sku < 0
theorem headN_can {m : List Rec} (h : ∀ r ∈ m, CanP r.past) : headN m = m := by
  cases m with
  | nil => rfl
  | cons r m =>
    show (if r.sku.size = 0 then (⟨r.sku, normP r.past⟩ : Rec) :: m else r :: m) = r :: m
    split
    · have : normP r.past = r.past := h r (by simp)
      rw [this]
    · rfl
structure Folded (L K : List Rec) : Prop where
  from_ : ∀ r ∈ K, ∃ q ∈ L, q.sku = r.sku
  can : ∀ r ∈ K, CanP r.past
  size : ∀ r ∈ K, sizeP r.past ≠ 0
  lt : K.Pairwise ltS
  apart : ∀ a ∈ K, ∀ b ∈ K, a.sku.size = 0 → b.sku.size ≠ 0 → ∀ d, hasP b.past d = true → hasP a.past d = false
theorem Folded.one {L K : List Rec} (h : Folded L K) (e : Ent) : barsK K e ≤ 1 := by
  unfold barsK
  have hp : (K.filter fun r => covK r e).Pairwise ltS := h.lt.filter _
  have hm : ∀ r ∈ K.filter (fun r => covK r e), r ∈ K ∧ covK r e = true := fun r hr => List.mem_filter.1 hr
  generalize K.filter (fun r => covK r e) = F at hp hm
  match F, hp, hm with
  | [], _, _ => exact Nat.zero_le _
  | [a], _, _ => exact Nat.le_refl _
  | a :: b :: F, hp, hm =>
    exfalso
    obtain ⟨ha, hac⟩ := hm a (by simp)
    obtain ⟨hb, hbc⟩ := hm b (by simp)
    have hab : ltS a b := (List.pairwise_cons.1 hp).1 b (by simp)
    have hne : a.sku ≠ b.sku := fun he => by
      unfold ltS at hab
      rw [he, cmpB_zero.2 rfl] at hab
      omega
    obtain ⟨h1, h2⟩ := (covK_iff a e).1 hac
    obtain ⟨h3, h4⟩ := (covK_iff b e).1 hbc
    by_cases ha0 : a.sku.size = 0
    · by_cases hb0 : b.sku.size = 0
      · exact hne (by rw [size_zero.2 ha0, size_zero.2 hb0])
      · have := h.apart a ha b hb ha0 hb0 e.dot h4
        rw [h2] at this; cases this
    · by_cases hb0 : b.sku.size = 0
      · have := h.apart b hb a ha hb0 ha0 e.dot h2
        rw [h4] at this; cases this
      · exact hne ((h1.resolve_left ha0).trans (h3.resolve_left hb0).symm)

theorem lt_ne {a b : ByteArray} (h : cmpB a b < 0) : b.size ≠ 0 := by
  intro hb
  have h1 : bs b = [] := by
    have := bs_len b
    rw [hb] at this
    exact List.length_eq_zero_iff.1 this
  unfold cmpB at h
  rw [h1] at h
  cases h3 : bs a with
  | nil => rw [h3] at h; simp [lexI] at h
  | cons x l => rw [h3] at h; simp [lexI] at h
theorem group_one {r : Rec} {K : List Rec} (hp : (r :: K).Pairwise ltS) (hc : CanP r.past) : joinG (r :: K) = r.past ∧ (r :: K).dropWhile (sameSku r.sku) = K := by
  have h := takeWhile_take (p := sameSku r.sku) (l := r :: K) (m := 1) (fun x hx => by simp at hx; subst hx; simp [sameSku]) (fun x hx => by
    have hm : x ∈ K := List.mem_of_getElem? (by simpa using hx)
    have := (List.pairwise_cons.1 hp).1 x hm
    refine decide_eq_false fun he => ?_
    unfold ltS at this
    rw [he, cmpB_zero.2 rfl] at this
    omega)
  refine ⟨?_, by rw [h.2]; rfl⟩
  unfold joinG headG
  simp only
  rw [h.1]
  exact hc
theorem minus_apart {p all : Pst} (hc : CanP p) (h : ∀ d, hasP p d = true → hasP all d = false) : minusP p all = p := by
  refine (canP_minus _ _).ext hc fun r hr n => ?_
  rw [minusP_in _ _ hr]
  constructor
  · exact fun h => h.1
  · intro hi
    refine ⟨hi, fun ha => ?_⟩
    have h1 : hasP p ((r : Int), n) = true := (hasP_iff p _).2 ⟨by show (0 : Int) ≤ (r : Int); omega, by simpa using hi⟩
    have h2 : hasP all ((r : Int), n) = true := (hasP_iff all _).2 ⟨by show (0 : Int) ≤ (r : Int); omega, by simpa using ha⟩
    rw [h _ h1] at h2
    cases h2
theorem foldF_rest : ∀ (n : Nat) (K : List Rec) (all : Pst), K.length ≤ n → K.Pairwise ltS → (∀ r ∈ K, r.sku.size ≠ 0 ∧ CanP r.past ∧ sizeP r.past ≠ 0 ∧ ∀ d, hasP r.past d = true → hasP all d = false) → foldF n K all = K
  | 0, K, all, h, _, _ => by
    have : K = [] := List.length_eq_zero_iff.1 (by omega)
    subst this
    rfl
  | n + 1, [], all, _, _, _ => rfl
  | n + 1, r :: K, all, h, hp, hk => by
    obtain ⟨h1, h2, h3, h4⟩ := hk r (by simp)
    obtain ⟨g1, g2⟩ := group_one hp h2
    have ih := foldF_rest n K all (by simp at h; omega) (List.pairwise_cons.1 hp).2 (fun x hx => hk x (by simp [hx]))
    show outG r.sku (newG all r.sku (joinG (r :: K))) ++ foldF n ((r :: K).dropWhile (sameSku r.sku)) (allG all r.sku (joinG (r :: K))) = _
    rw [show newG all r.sku (joinG (r :: K)) = minusP (joinG (r :: K)) all from if_neg h1, show allG all r.sku (joinG (r :: K)) = all from if_neg h1, g1, g2, ih, minus_apart h2 h4]
    rw [show outG r.sku r.past = [⟨r.sku, r.past⟩] from if_neg h3]
    rfl
theorem Folded.rest {L K : List Rec} (h : Folded L K) : foldK K = K := by
  have hhd : foldF K.length K ⟨[], []⟩ = K := by
    cases K with
    | nil => rfl
    | cons r K =>
      have hlt := (List.pairwise_cons.1 h.lt).1
      have hne : ∀ x ∈ K, x.sku.size ≠ 0 := fun x hx => lt_ne (hlt x hx)
      by_cases hz : r.sku.size = 0
      · obtain ⟨g1, g2⟩ := group_one h.lt (h.can r (by simp))
        show outG r.sku (newG ⟨[], []⟩ r.sku (joinG (r :: K))) ++ foldF K.length ((r :: K).dropWhile (sameSku r.sku)) (allG ⟨[], []⟩ r.sku (joinG (r :: K))) = _
        rw [show newG ⟨[], []⟩ r.sku (joinG (r :: K)) = joinG (r :: K) from if_pos hz, show allG ⟨[], []⟩ r.sku (joinG (r :: K)) = joinG (r :: K) from if_pos hz, g1, g2]
        rw [foldF_rest K.length K r.past (Nat.le_refl _) (List.pairwise_cons.1 h.lt).2 (fun x hx => ⟨hne x hx, h.can x (by simp [hx]), h.size x (by simp [hx]), fun d hd => h.apart r (by simp) x (by simp [hx]) hz (hne x hx) d hd⟩)]
        rw [show outG r.sku r.past = [⟨r.sku, r.past⟩] from if_neg (h.size r (by simp))]
        rfl
      · refine foldF_rest (r :: K).length (r :: K) ⟨[], []⟩ (Nat.le_refl _) h.lt fun x hx => ⟨?_, h.can x hx, h.size x hx, fun d _ => has_nil d⟩
        rcases List.mem_cons.1 hx with rfl | hx
        · exact hz
        · exact hne x hx
  unfold foldK
  rw [hhd]
  exact headN_can h.can

def r_k40_1 : List SOp := [⟨some 2,.assign (.const (.slice none 0 0)),none⟩,⟨some 3,.assign (.const (.int .i64 0)),none⟩]
instance : Live r_k40_1 := ⟨[0]⟩
def r_k40_2 : List SOp := [⟨some 10,.move (.tmp 0),none⟩,⟨some 11,.call ⟨.value (.func 15),#[.tmp 10],#[22]⟩,none⟩,⟨some 12,.binOp .neq 32 (.tmp 11) (.const (.int .i64 0)) 32,none⟩]
instance : Live r_k40_2 := ⟨[0]⟩
def r_k40_3 : List SOp := [⟨some 2,.assign (.const (.slice none 0 0)),none⟩,⟨some 3,.assign (.const (.int .i64 1)),none⟩]
instance : Live r_k40_3 := ⟨[]⟩
def r_k40_4 : List SOp := [⟨some 4,.assign (.const (.slice none 0 0)),none⟩]
instance : Live r_k40_4 := ⟨[0]⟩
def r_k40_5 : List SOp := [⟨some 5,.alloc 27,none⟩]
instance : Live r_k40_5 := ⟨[0,4]⟩
def r_k40_6 : List SOp := [⟨some 6,.assign (.const (.int .i64 0)),none⟩]
instance : Live r_k40_6 := ⟨[0,4,5]⟩
def r_k40_7 : List SOp := [⟨some 13,.move (.tmp 6),none⟩,⟨some 14,.move (.tmp 0),none⟩,⟨some 15,.call ⟨.builtin .len,#[.tmp 14],#[22]⟩,none⟩,⟨some 16,.binOp .lss 3 (.tmp 13) (.tmp 15) 3,none⟩]
instance : Live r_k40_7 := ⟨[0,4,5,6]⟩
def r_k40_8 : List SOp := [⟨some 7,.assign (.const (.slice none 0 0)),none⟩]
instance : Live r_k40_8 := ⟨[0,4,5,6]⟩
def r_k40_9 : List SOp := [⟨some 17,.move (.tmp 6),none⟩,⟨some 8,.assign (.tmp 17),none⟩]
instance : Live r_k40_9 := ⟨[0,4,5,6,7]⟩
def r_k40_10 : List SOp := [⟨some 18,.move (.tmp 8),none⟩,⟨some 19,.move (.tmp 0),none⟩,⟨some 20,.call ⟨.builtin .len,#[.tmp 19],#[22]⟩,none⟩,⟨some 21,.binOp .lss 3 (.tmp 18) (.tmp 20) 3,none⟩,⟨some 22,.move (.tmp 21),none⟩,⟨some 23,.move (.tmp 0),some ((some 22),true)⟩,⟨some 24,.move (.tmp 8),some ((some 22),true)⟩,⟨some 25,.indexAddr 22 (.tmp 23) (.tmp 24),some ((some 22),true)⟩,⟨some 26,.fieldAddr 39 (.tmp 25) 0,some ((some 22),true)⟩,⟨some 27,.load 9 (.tmp 26),some ((some 22),true)⟩,⟨some 28,.move (.tmp 0),some ((some 22),true)⟩,⟨some 29,.move (.tmp 6),some ((some 22),true)⟩,⟨some 30,.indexAddr 22 (.tmp 28) (.tmp 29),some ((some 22),true)⟩,⟨some 31,.fieldAddr 39 (.tmp 30) 0,some ((some 22),true)⟩,⟨some 32,.load 9 (.tmp 31),some ((some 22),true)⟩,⟨some 33,.binOp .eql 9 (.tmp 27) (.tmp 32) 9,some ((some 22),true)⟩,⟨some 34,.pick (.tmp 22) (.tmp 33) (.const (.bool false)),none⟩]
instance : Live r_k40_10 := ⟨[0,4,5,6,7,8]⟩
def r_k40_11 : List SOp := [⟨some 35,.move (.tmp 7),none⟩,⟨some 36,.move (.tmp 0),none⟩,⟨some 37,.move (.tmp 8),none⟩,⟨some 38,.indexAddr 22 (.tmp 36) (.tmp 37),none⟩,⟨some 39,.fieldAddr 39 (.tmp 38) 1,none⟩,⟨some 40,.load 27 (.tmp 39),none⟩,⟨some 41,.buildSlice 101 1 #[(0,.tmp 40)],none⟩,⟨some 42,.call ⟨.builtin .append,#[.tmp 35,.tmp 41],#[101,101]⟩,none⟩,⟨some 7,.assign (.tmp 42),none⟩]
instance : Live r_k40_11 := ⟨[0,4,5,6,7,8]⟩
def r_k40_12 : List SOp := [⟨some 43,.move (.tmp 8),none⟩,⟨some 44,.binOp .add 3 (.tmp 43) (.const (.int .i64 1)) 3,none⟩,⟨some 8,.assign (.tmp 44),none⟩]
instance : Live r_k40_12 := ⟨[0,4,5,6,7,8]⟩
def r_k40_13 : List SOp := [⟨some 45,.move (.tmp 7),none⟩,⟨some 46,.call ⟨.value (.func 84),#[.tmp 45],#[101]⟩,none⟩,⟨some 9,.alloc 27,none⟩,⟨none,.store 27 (.tmp 9) (.tmp 46),none⟩]
instance : Live r_k40_13 := ⟨[0,4,5,6,7,8]⟩
def r_k40_14 : List SOp := [⟨some 47,.move (.tmp 0),none⟩,⟨some 48,.move (.tmp 6),none⟩,⟨some 49,.indexAddr 22 (.tmp 47) (.tmp 48),none⟩,⟨some 50,.fieldAddr 39 (.tmp 49) 0,none⟩,⟨some 51,.load 9 (.tmp 50),none⟩,⟨some 52,.binOp .eql 9 (.tmp 51) (.const (.string ⟨#[]⟩)) 9,none⟩]
instance : Live r_k40_14 := ⟨[0,4,5,6,8,9]⟩
def r_k40_15 : List SOp := [⟨some 53,.load 27 (.tmp 9),none⟩,⟨none,.store 27 (.tmp 5) (.tmp 53),none⟩]
instance : Live r_k40_15 := ⟨[0,4,5,6,8,9]⟩
def r_k40_16 : List SOp := [⟨some 54,.load 27 (.tmp 9),none⟩,⟨some 55,.load 27 (.tmp 5),none⟩,⟨some 56,.call ⟨.value (.func 85),#[.tmp 54,.tmp 55],#[27,27]⟩,none⟩,⟨none,.store 27 (.tmp 9) (.tmp 56),none⟩]
instance : Live r_k40_16 := ⟨[0,4,5,6,8,9]⟩
def r_k40_17 : List SOp := [⟨some 57,.load 27 (.tmp 9),none⟩,⟨some 58,.call ⟨.value (.func 62),#[.tmp 57],#[27]⟩,none⟩,⟨some 59,.unOp .not 4 (.tmp 58),none⟩]
instance : Live r_k40_17 := ⟨[0,4,5,6,8,9]⟩
def r_k40_18 : List SOp := [⟨some 60,.move (.tmp 4),none⟩,⟨some 61,.move (.tmp 0),none⟩,⟨some 62,.move (.tmp 6),none⟩,⟨some 63,.indexAddr 22 (.tmp 61) (.tmp 62),none⟩,⟨some 64,.fieldAddr 39 (.tmp 63) 0,none⟩,⟨some 65,.load 9 (.tmp 64),none⟩,⟨some 66,.load 27 (.tmp 9),none⟩,⟨some 67,.build 39 #[(0,.tmp 65),(1,.tmp 66)],none⟩,⟨some 68,.buildSlice 22 1 #[(0,.tmp 67)],none⟩,⟨some 69,.call ⟨.builtin .append,#[.tmp 60,.tmp 68],#[22,22]⟩,none⟩,⟨some 4,.assign (.tmp 69),none⟩]
instance : Live r_k40_18 := ⟨[0,4,5,6,8,9]⟩
instance : Rd r_k40_18 := ⟨fun j => j == 0 || j == 9⟩
def r_k40_19 : List SOp := [⟨some 70,.move (.tmp 8),none⟩,⟨some 6,.assign (.tmp 70),none⟩]
instance : Live r_k40_19 := ⟨[0,4,5,8]⟩
def r_k40_20 : List SOp := [⟨some 71,.move (.tmp 4),none⟩,⟨some 2,.assign (.tmp 71),none⟩,⟨some 3,.assign (.const (.int .i64 0)),none⟩]
instance : Live r_k40_20 := ⟨[4]⟩
def t_k40_l2 : SC :=
  (.seq (.seq (.ops true r_k40_10) (.cond (.tmp 34) .skip (.exit 2))) (.block 3 (.seq (.ops false r_k40_11) (.ops false r_k40_12))))
def t_k40_l1 : SC :=
  (.seq (.seq (.ops false r_k40_7) (.cond (.tmp 16) .skip (.exit 0))) (.block 1 (.seq (.ops false r_k40_8) (.seq (.ops false r_k40_9) (.seq (.block 2 (.loop t_k40_l2)) (.seq (.ops false r_k40_13) (.seq (.seq (.ops false r_k40_14) (.cond (.tmp 52) (.ops false r_k40_15) (.ops false r_k40_16))) (.seq (.seq (.ops false r_k40_17) (.cond (.tmp 59) (.opsW [60] r_k40_18) .skip)) (.ops false r_k40_19)))))))))
def t_k40 : SC :=
  (.seq (.ops false r_k40_1) (.seq (.seq (.ops false r_k40_2) (.cond (.tmp 12) (.seq (.ops false r_k40_3) .ret) .skip)) (.seq (.ops false r_k40_4) (.seq (.ops false r_k40_5) (.seq (.seq (.ops false r_k40_6) (.block 0 (.loop t_k40_l1))) (.seq (.ops false r_k40_20) .ret))))))
theorem it_k40 : FnIs Tryz.prog 40 72 [.tmp 2, .tmp 3] t_k40 := ⟨Tryz.f40, _, Tryz.func40, rfl, rfl, rfl, rfl, by kernel_rfl⟩

theorem foldF_can : ∀ (n : Nat) (L : List Rec) (all : Pst), ∀ x ∈ foldF n L all, CanP x.past
  | 0, L, all, x, hx => by cases hx
  | n + 1, [], all, x, hx => by cases hx
  | n + 1, r :: l, all, x, hx => by
    rcases List.mem_append.1 (show x ∈ outG r.sku (newG all r.sku (joinG (r :: l))) ++ foldF n ((r :: l).dropWhile (sameSku r.sku)) (allG all r.sku (joinG (r :: l))) from hx) with hx | hx
    · unfold outG at hx
      split at hx
      · cases hx
      · simp only [List.mem_singleton] at hx
        rw [hx]
        unfold newG
        split
        · exact canP_join _
        · exact canP_minus _ _
    · exact foldF_can n _ _ x hx
theorem ev_ref07FoldW (l : List Rec) (W : Nat) (hW : W ≤ 5000000) (hl : l.length ≤ 5000000) (hwr : ∀ r ∈ l, wt r.past ≤ W) (hg0 : ∀ (i m : Nat) (s : ByteArray), (∀ x ∈ (l.drop i).take m, sameSku s x = true) → ((((l.drop i).take m).map (·.past)).map wt).sum ≤ W) : Ev (En Tryz.prog rfl).P 40 [.sl 3 (encKs l)] (.ret (.tup [.sl 3 (encKs (if formK l = true then foldK l else [])), .int .i64 (if formK l = true then 0 else 1)])) := by
  refine Ev.of_body it_k40 (by simp) (Run.start ?_)
  unfold t_k40
  have e1 := encKs_len l
  have hS := stbK
  have c1 := ev_ref07CheckW l (by omega) (fun r hr => by have := hwr r hr; omega)
  (focus (have hF := @e1; (repeat' (first | refine go1 (k:=?_) | with_reducible refine Ny.of ?_ ?_ | (refine Hyp.of ?_; intro hc; (try simp only [hc]); (try simp only [Bh] at hc)))); all_goals clear hF))
  refine stCall [.sl 3 (encKs l)] (he := c1) (k:=?_)
  by_cases hform : formK l = true
  case' neg =>
    simp only [if_neg hform]
    (focus (have hF := @e1; (repeat' (first | refine go1 (k:=?_) | with_reducible refine Ny.of ?_ ?_ | (refine Hyp.of ?_; intro hc; (try simp only [hc]); (try simp only [Bh] at hc)))); all_goals clear hF))
    exact Fin.two (x := .nil) (x' := .int .i64 1) rfl rfl rfl rfl (.inr ⟨rfl, 3, rfl⟩) (.inl rfl)
  case' pos =>
    simp only [if_pos hform]
    have hfk : foldK l = foldF l.length l ⟨[], []⟩ := headN_can (foldF_can _ _ _)
    have hR0 : [] ++ foldF l.length (l.drop 0) ⟨[], []⟩ = foldF l.length l ⟨[], []⟩ := rfl
    generalize foldF l.length l ⟨[], []⟩ = R at hfk hR0
    (focus (have hF := @e1; (repeat' (first | refine go1 (k:=?_) | with_reducible refine Ny.of ?_ ?_ | (refine Hyp.of ?_; intro hc; (try simp only [hc]); (try simp only [Bh] at hc)))); all_goals clear hF))
    refine Run.wk (Wk.trans (Wk.own_nil 4 69 3 rfl rfl) (Wk.trans (Wk.own_cells (k := 5) (cs' := [.own 1 [], .own 3 []]) rfl rfl ?_) (Wk.freeze (k := 5) (cs := [.own 1 [], .own 3 []]) rfl))) ?_
    · intro i x y hx hy
      match i with
      | 0 => simp at hx hy; subst hx; subst hy; exact .inr ⟨rfl, 1, rfl⟩
      | 1 => simp at hx hy; subst hx; subst hy; exact .inr ⟨rfl, 3, rfl⟩
      | i + 2 => simp at hx
    refine Run.while (σ := FoS) (fun z => ⟨tms [(0, .sl 3 (encKs l)), (4, .os 69 z.out.length), (5, .ptr 5 0), (6, .int .i64 (z.i : Int))], mms [(5, .cells [.sl 1 (encIs z.all.vec), .sl 3 (encSs z.all.cloud)]), (69, .arr z.out.length 3 (encKs z.out))]⟩)
      (fun z => z.i ≤ l.length ∧ z.out.length ≤ z.i ∧ wt z.all ≤ 16 + W ∧ (∃ n, l.length - z.i ≤ n ∧ z.out ++ foldF n (l.drop z.i) z.all = R) ∧ ∀ r ∈ z.out, wt r.past ≤ 64 + 2 * W) (fun z => l.length - z.i) ⟨0, ⟨[], []⟩, []⟩ (have hW := @encKs_stb; stWk) ⟨Nat.zero_le _, Nat.le_refl _, Nat.zero_le _, ⟨l.length, Nat.le_refl _, hR0⟩, fun r hr => absurd hr (by simp)⟩ ?_
    rintro ⟨i, all, out⟩ ⟨hi, ho, ha, ⟨n, hn, hf⟩, hwo⟩
    dsimp only at *
    unfold t_k40_l1
    have e2 := encKs_len out
    by_cases hlt : i < l.length
    · obtain ⟨r, hr⟩ : ∃ r, l[i]? = some r := ⟨l[i], by simp [hlt]⟩
      have g1 := encKs_get hr
      (focus (have hF := (And.intro @e1 (And.intro @e2 @g1)); (repeat' (first | refine go1 (k:=?_) | with_reducible refine Ny.of ?_ ?_ | (refine Hyp.of ?_; intro hc; (try simp only [hc]); (try simp only [Bh] at hc)))); all_goals clear hF))
      refine Run.wk (Wk.own_nil 7 42 2 rfl rfl) ?_
      refine Run.while (σ := Nat) (fun m => ⟨tms [(0, .sl 3 (encKs l)), (4, .os 69 out.length), (5, .ptr 5 0), (6, .int .i64 (i : Int)), (7, .os 42 m), (8, .int .i64 ((i + m : Nat) : Int))], mms [(5, .cells [.sl 1 (encIs all.vec), .sl 3 (encSs all.cloud)]), (42, .arr m 2 (encPs (((l.drop i).take m).map (·.past)))), (69, .arr out.length 3 (encKs out))]⟩)
        (fun m => i + m ≤ l.length ∧ ∀ x ∈ (l.drop i).take m, sameSku r.sku x = true) (fun m => l.length - i - m) 0 (have hW := @encKs_stb; stWk) ⟨by omega, fun x hx => absurd hx (by simp)⟩ ?_
      rintro m ⟨hm, hg⟩
      unfold t_k40_l2
      have hdr : (l.drop i)[m]? = l[i + m]? := by rw [List.getElem?_drop]
      have hrd : l.drop i = r :: l.drop (i + 1) := by
        have := List.drop_eq_getElem_cons hlt
        rw [this]
        simp only [List.getElem?_eq_getElem hlt, Option.some.injEq] at hr
        rw [hr]
      have hpl : (((l.drop i).take m).map (·.past)).length = m := by simp; omega
      have e3 := encPs_len (((l.drop i).take m).map (·.past))
      rw [hpl] at e3
      have hwp := hg0 i m r.sku hg
      by_cases hex : ∃ q, l[i + m]? = some q ∧ q.sku = r.sku
      · obtain ⟨q, hq, hsk⟩ := hex
        have hjl : i + m < l.length := by
          rcases Nat.lt_or_ge (i + m) l.length with h | h
          · exact h
          · rw [List.getElem?_eq_none h] at hq; cases hq
        have g2 := encKs_get hq
        have hsn : ((l.drop i).take (m + 1)).map (·.past) = ((l.drop i).take m).map (·.past) ++ [q.past] := by
          rw [List.take_add_one, hdr, hq]
          simp
        (focus (have hF := (And.intro (And.intro @e1 @e3) (And.intro @g1 (And.intro @g2 @hsk))); (repeat' (first | refine go1 (k:=?_) | with_reducible refine Ny.of ?_ ?_ | (refine Hyp.of ?_; intro hc; (try simp only [hc]); (try simp only [Bh] at hc)))); all_goals clear hF))
        (refine Fin.nextW (m + 1) ?_ (have hW := (And.intro @encKs_stb (And.intro @hsn @encPs_snoc')); stWk); (try dsimp only))
        refine ⟨⟨hjl, take_snoc_all (by rw [hdr, hq]) hg (by simp [sameSku, hsk])⟩, by omega⟩
      refine Run.wk (Wk.trans (Wk.toL [(7, .os 42 m), (0, .sl 3 (encKs l)), (4, .os 69 out.length), (5, .ptr 5 0), (6, .int .i64 (i : Int)), (8, .int .i64 ((i + m : Nat) : Int))] [(42, .arr m 2 (encPs (((l.drop i).take m).map (·.past)))), (5, .cells [.sl 1 (encIs all.vec), .sl 3 (encSs all.cloud)]), (69, .arr out.length 3 (encKs out))] ⟨rfl, rfl, rfl, rfl, rfl, rfl, trivial⟩ ⟨rfl, rfl, rfl, trivial⟩ ⟨rfl, no_of_stb (encKs_stb l), rfl, rfl, rfl, rfl, trivial⟩ ⟨arr_no (encPs_stb _), cells_no _ (by simp [stbs, AVal.stb, encIs_stb, encSs_stb]), arr_no (encKs_stb _), trivial⟩) (Wk.give ⟨no_of_stb (encKs_stb l), rfl, rfl, rfl, rfl, trivial⟩ ⟨cells_no _ (by simp [stbs, AVal.stb, encIs_stb, encSs_stb]), arr_no (encKs_stb _), trivial⟩ rfl (encPs_stb _))) ?_
      have htw := takeWhile_take (p := sameSku r.sku) hg (fun x hx => by rw [hdr] at hx; exact decide_eq_false fun h => hex ⟨x, hx, h⟩)
      by_cases hjl : i + m < l.length
      case' pos =>
        obtain ⟨q, hq⟩ : ∃ q, l[i + m]? = some q := ⟨l[i + m], by simp [hjl]⟩
        have g2 := encKs_get hq
        have hsk : ¬ q.sku = r.sku := fun h => hex ⟨q, hq, h⟩
        (focus (have hF := (And.intro (And.intro @e1 @e3) (And.intro @g1 (And.intro @g2 @hsk))); (repeat' (first | refine go1 (k:=?_) | with_reducible refine Ny.of ?_ ?_ | (refine Hyp.of ?_; intro hc; (try simp only [hc]); (try simp only [Bh] at hc)))); all_goals clear hF))
      case' neg =>
        (focus (have hF := (And.intro @e1 (And.intro @e3 @g1)); (repeat' (first | refine go1 (k:=?_) | with_reducible refine Ny.of ?_ ?_ | (refine Hyp.of ?_; intro hc; (try simp only [hc]); (try simp only [Bh] at hc)))); all_goals clear hF))
      all_goals
        have hm1 : 1 ≤ m := by
          rcases Nat.eq_zero_or_pos m with h0 | h0
          · exfalso
            have := htw.1
            rw [h0, hrd] at this
            simp [List.takeWhile, sameSku] at this
          · exact h0
        have hjg : joinG (r :: l.drop (i + 1)) = joinP (((l.drop i).take m).map (·.past)) := by
          unfold joinG headG
          rw [← hrd]
          have h2 := htw.1
          rw [hrd] at h2 ⊢
          simp only
          rw [h2]
        obtain ⟨n', rfl⟩ : ∃ n', n = n' + 1 := ⟨n - 1, by omega⟩
        rw [hrd] at hf
        unfold foldF at hf
        rw [hjg, ← hrd, htw.2, List.drop_drop] at hf
        have hjw := joinP_wt (((l.drop i).take m).map (·.past))
        generalize ((l.drop i).take m).map (·.past) = ps at *
        have c2 := ev_k84 ps (by omega) (by omega)
        refine stCall [.sl 2 (encPs ps)] (he := c2) (k:=?_)
        generalize joinP ps = p at *
        unfold encP
        have es := str_nil r.sku
        by_cases hz : r.sku.size = 0
        · have hng : newG all r.sku p = p := if_pos hz
          have hal : allG all r.sku p = p := if_pos hz
          rw [hng, hal] at hf
          rw [eq_true hz] at es
          have c3 := ev_k62 p (by omega)
          (focus (have hF := (And.intro (And.intro @e1 @e2) (And.intro @es @g1)); (repeat' (first | refine go1 (k:=?_) | with_reducible refine Ny.of ?_ ?_ | (refine Hyp.of ?_; intro hc; (try simp only [hc]); (try simp only [Bh] at hc)))); all_goals clear hF))
          refine stCall [encP p] (he := c3) (k:=?_)
          by_cases hs : sizeP p = 0
          · have hog : outG r.sku p = [] := if_pos hs
            rw [hog, List.nil_append] at hf
            rw [decide_eq_true hs]
            (focus (have hF := (And.intro @e1 (And.intro @e2 @g1)); (repeat' (first | refine go1 (k:=?_) | with_reducible refine Ny.of ?_ ?_ | (refine Hyp.of ?_; intro hc; (try simp only [hc]); (try simp only [Bh] at hc)))); all_goals clear hF))
            (refine Fin.nextW (⟨i + m, p, out⟩) ?_ (have hW := @encKs_stb; stWk); (try dsimp only))
            exact ⟨⟨hm, by omega, by omega, ⟨n', by omega, hf⟩, hwo⟩, by omega⟩
          · have hog : outG r.sku p = [⟨r.sku, p⟩] := if_neg hs
            rw [hog, ← List.append_assoc] at hf
            rw [decide_eq_false hs]
            (focus (have hF := (And.intro @e1 (And.intro @e2 @g1)); (repeat' (first | refine go1 (k:=?_) | with_reducible refine Ny.of ?_ ?_ | (refine Hyp.of ?_; intro hc; (try simp only [hc]); (try simp only [Bh] at hc)))); all_goals clear hF))
            (focus (have hF := (And.intro @e1 (And.intro @e2 @g1)); (repeat' (first | refine go2 (k:=?_) | with_reducible refine Ny.of ?_ ?_ | (refine Hyp.of ?_; intro hc; (try simp only [hc]); (try simp only [Bh] at hc)))); all_goals clear hF))
            (refine Fin.nextW (⟨i + m, p, out ++ [⟨r.sku, p⟩]⟩) ?_ (have hW := (And.intro @encKs_stb @encKs_snoc); stWk); (try dsimp only))
            refine ⟨⟨hm, by simp; omega, by omega, ⟨n', by omega, hf⟩, fun x hx => ?_⟩, by omega⟩
            rcases List.mem_append.1 hx with hx | hx
            · exact hwo x hx
            · simp at hx; subst hx; dsimp only; omega
        · have hng : newG all r.sku p = minusP p all := if_neg hz
          have hal : allG all r.sku p = all := if_neg hz
          rw [hng, hal] at hf
          rw [eq_false hz] at es
          have c3 := ev_k85 p all (by omega) (by omega)
          have hmw := minusP_wt p all
          (focus (have hF := (And.intro (And.intro @e1 @e2) (And.intro @es @g1)); (repeat' (first | refine go1 (k:=?_) | with_reducible refine Ny.of ?_ ?_ | (refine Hyp.of ?_; intro hc; (try simp only [hc]); (try simp only [Bh] at hc)))); all_goals clear hF))
          refine stCall [encP p, encP all] (he := c3) (k:=?_)
          generalize minusP p all = p2 at *
          have c4 := ev_k62 p2 (by omega)
          unfold encP
          (focus (have hF := (And.intro @e1 (And.intro @e2 @g1)); (repeat' (first | refine go1 (k:=?_) | with_reducible refine Ny.of ?_ ?_ | (refine Hyp.of ?_; intro hc; (try simp only [hc]); (try simp only [Bh] at hc)))); all_goals clear hF))
          refine stCall [encP p2] (he := c4) (k:=?_)
          by_cases hs : sizeP p2 = 0
          · have hog : outG r.sku p2 = [] := if_pos hs
            rw [hog, List.nil_append] at hf
            rw [decide_eq_true hs]
            (focus (have hF := (And.intro @e1 (And.intro @e2 @g1)); (repeat' (first | refine go1 (k:=?_) | with_reducible refine Ny.of ?_ ?_ | (refine Hyp.of ?_; intro hc; (try simp only [hc]); (try simp only [Bh] at hc)))); all_goals clear hF))
            (refine Fin.nextW (⟨i + m, all, out⟩) ?_ (have hW := @encKs_stb; stWk); (try dsimp only))
            exact ⟨⟨hm, by omega, by omega, ⟨n', by omega, hf⟩, hwo⟩, by omega⟩
          · have hog : outG r.sku p2 = [⟨r.sku, p2⟩] := if_neg hs
            rw [hog, ← List.append_assoc] at hf
            rw [decide_eq_false hs]
            (focus (have hF := (And.intro @e1 (And.intro @e2 @g1)); (repeat' (first | refine go1 (k:=?_) | with_reducible refine Ny.of ?_ ?_ | (refine Hyp.of ?_; intro hc; (try simp only [hc]); (try simp only [Bh] at hc)))); all_goals clear hF))
            (focus (have hF := (And.intro @e1 (And.intro @e2 @g1)); (repeat' (first | refine go2 (k:=?_) | with_reducible refine Ny.of ?_ ?_ | (refine Hyp.of ?_; intro hc; (try simp only [hc]); (try simp only [Bh] at hc)))); all_goals clear hF))
            (refine Fin.nextW (⟨i + m, all, out ++ [⟨r.sku, p2⟩]⟩) ?_ (have hW := (And.intro @encKs_stb @encKs_snoc); stWk); (try dsimp only))
            refine ⟨⟨hm, by simp; omega, by omega, ⟨n', by omega, hf⟩, fun x hx => ?_⟩, by omega⟩
            rcases List.mem_append.1 hx with hx | hx
            · exact hwo x hx
            · simp at hx; subst hx; dsimp only; omega
    · have hfo : out = R := by
        rw [List.drop_eq_nil_of_le (by omega)] at hf
        rw [← hf]
        cases n <;> simp [foldF]
      rw [hfk, ← hfo]
      (focus (have hF := (And.intro @e1 @e2); (repeat' (first | refine go1 (k:=?_) | with_reducible refine Ny.of ?_ ?_ | (refine Hyp.of ?_; intro hc; (try simp only [hc]); (try simp only [Bh] at hc)))); all_goals clear hF))
      exact Fin.two (x := .sl 3 (encKs out)) (by simp [fz, fzc, allK, upd, tms, mms]) (encKs_stb _) rfl rfl (.inl rfl) (.inl rfl)

def r_k8_1 : List SOp := [⟨some 1,.box 29 (.tmp 0),none⟩,⟨some 2,.assign (.const (.bool false)),none⟩]
instance : Live r_k8_1 := ⟨[0]⟩
def r_k8_2 : List SOp := [⟨some 7,.call ⟨.value (.func 11),#[],#[]⟩,none⟩,⟨some 8,.unOp .not 4 (.tmp 7),none⟩]
instance : Live r_k8_2 := ⟨[1]⟩
def r_k8_3 : List SOp := [⟨some 2,.assign (.const (.bool false)),none⟩]
instance : Live r_k8_3 := ⟨[]⟩
def r_k8_4 : List SOp := [⟨some 10,.fieldAddr 29 (.tmp 1) 0,none⟩,⟨some 11,.load 22 (.tmp 10),none⟩,⟨some 12,.fieldAddr 29 (.tmp 1) 1,none⟩,⟨some 13,.load 22 (.tmp 12),none⟩,⟨some 14,.call ⟨.value (.func 36),#[.tmp 11,.tmp 13],#[22,22]⟩,none⟩,⟨some 9,.move (.tmp 14),none⟩,⟨some 15,.extract (.tmp 9) 0,none⟩,⟨some 16,.extract (.tmp 9) 1,none⟩,⟨some 3,.assign (.tmp 15),none⟩,⟨some 4,.assign (.tmp 16),none⟩]
instance : Live r_k8_4 := ⟨[1]⟩
def r_k8_5 : List SOp := [⟨some 18,.fieldAddr 29 (.tmp 1) 0,none⟩,⟨some 19,.load 22 (.tmp 18),none⟩,⟨some 20,.fieldAddr 29 (.tmp 1) 1,none⟩,⟨some 21,.load 22 (.tmp 20),none⟩,⟨some 22,.call ⟨.value (.func 37),#[.tmp 19,.tmp 21],#[22,22]⟩,none⟩,⟨some 17,.move (.tmp 22),none⟩,⟨some 23,.extract (.tmp 17) 0,none⟩,⟨some 24,.extract (.tmp 17) 1,none⟩,⟨some 5,.assign (.tmp 23),none⟩,⟨some 6,.assign (.tmp 24),none⟩]
instance : Live r_k8_5 := ⟨[1,3,4]⟩
def r_k8_6 : List SOp := [⟨some 25,.move (.tmp 4),none⟩,⟨some 26,.move (.tmp 6),none⟩,⟨some 27,.binOp .neq 32 (.tmp 25) (.tmp 26) 32,none⟩,⟨some 28,.move (.tmp 27),none⟩,⟨some 29,.move (.tmp 3),some ((some 28),false)⟩,⟨some 30,.move (.tmp 5),some ((some 28),false)⟩,⟨some 31,.call ⟨.value (.func 16),#[.tmp 29,.tmp 30],#[22,22]⟩,some ((some 28),false)⟩,⟨some 32,.unOp .not 4 (.tmp 31),some ((some 28),false)⟩,⟨some 33,.pick (.tmp 28) (.const (.bool true)) (.tmp 32),none⟩]
instance : Live r_k8_6 := ⟨[1,3,4,5,6]⟩
def r_k8_7 : List SOp := [⟨some 2,.assign (.const (.bool false)),none⟩]
instance : Live r_k8_7 := ⟨[]⟩
def r_k8_8 : List SOp := [⟨some 35,.fieldAddr 29 (.tmp 1) 0,none⟩,⟨some 36,.load 22 (.tmp 35),none⟩,⟨some 37,.fieldAddr 29 (.tmp 1) 4,none⟩,⟨some 38,.load 27 (.tmp 37),none⟩,⟨some 39,.call ⟨.value (.func 38),#[.tmp 36,.tmp 38],#[22,27]⟩,none⟩,⟨some 34,.move (.tmp 39),none⟩,⟨some 40,.extract (.tmp 34) 0,none⟩,⟨some 41,.extract (.tmp 34) 1,none⟩,⟨some 3,.assign (.tmp 40),none⟩,⟨some 4,.assign (.tmp 41),none⟩]
instance : Live r_k8_8 := ⟨[1]⟩
def r_k8_9 : List SOp := [⟨some 43,.fieldAddr 29 (.tmp 1) 0,none⟩,⟨some 44,.load 22 (.tmp 43),none⟩,⟨some 45,.fieldAddr 29 (.tmp 1) 4,none⟩,⟨some 46,.load 27 (.tmp 45),none⟩,⟨some 47,.call ⟨.value (.func 39),#[.tmp 44,.tmp 46],#[22,27]⟩,none⟩,⟨some 42,.move (.tmp 47),none⟩,⟨some 48,.extract (.tmp 42) 0,none⟩,⟨some 49,.extract (.tmp 42) 1,none⟩,⟨some 5,.assign (.tmp 48),none⟩,⟨some 6,.assign (.tmp 49),none⟩]
instance : Live r_k8_9 := ⟨[1,3,4]⟩
def r_k8_10 : List SOp := [⟨some 50,.move (.tmp 4),none⟩,⟨some 51,.move (.tmp 6),none⟩,⟨some 52,.binOp .neq 32 (.tmp 50) (.tmp 51) 32,none⟩,⟨some 53,.move (.tmp 52),none⟩,⟨some 54,.move (.tmp 3),some ((some 53),false)⟩,⟨some 55,.move (.tmp 5),some ((some 53),false)⟩,⟨some 56,.call ⟨.value (.func 16),#[.tmp 54,.tmp 55],#[22,22]⟩,some ((some 53),false)⟩,⟨some 57,.unOp .not 4 (.tmp 56),some ((some 53),false)⟩,⟨some 58,.pick (.tmp 53) (.const (.bool true)) (.tmp 57),none⟩]
instance : Live r_k8_10 := ⟨[1,3,4,5,6]⟩
def r_k8_11 : List SOp := [⟨some 2,.assign (.const (.bool false)),none⟩]
instance : Live r_k8_11 := ⟨[]⟩
def r_k8_12 : List SOp := [⟨some 60,.fieldAddr 29 (.tmp 1) 0,none⟩,⟨some 61,.load 22 (.tmp 60),none⟩,⟨some 62,.call ⟨.value (.func 28),#[.tmp 61],#[22]⟩,none⟩,⟨some 59,.move (.tmp 62),none⟩,⟨some 63,.extract (.tmp 59) 0,none⟩,⟨some 64,.extract (.tmp 59) 1,none⟩,⟨some 3,.assign (.tmp 63),none⟩,⟨some 4,.assign (.tmp 64),none⟩]
instance : Live r_k8_12 := ⟨[1]⟩
def r_k8_13 : List SOp := [⟨some 66,.fieldAddr 29 (.tmp 1) 0,none⟩,⟨some 67,.load 22 (.tmp 66),none⟩,⟨some 68,.call ⟨.value (.func 40),#[.tmp 67],#[22]⟩,none⟩,⟨some 65,.move (.tmp 68),none⟩,⟨some 69,.extract (.tmp 65) 0,none⟩,⟨some 70,.extract (.tmp 65) 1,none⟩,⟨some 5,.assign (.tmp 69),none⟩,⟨some 6,.assign (.tmp 70),none⟩]
instance : Live r_k8_13 := ⟨[1,3,4]⟩
def r_k8_14 : List SOp := [⟨some 71,.move (.tmp 4),none⟩,⟨some 72,.move (.tmp 6),none⟩,⟨some 73,.binOp .eql 32 (.tmp 71) (.tmp 72) 32,none⟩,⟨some 74,.move (.tmp 73),none⟩,⟨some 75,.move (.tmp 3),some ((some 74),true)⟩,⟨some 76,.move (.tmp 5),some ((some 74),true)⟩,⟨some 77,.call ⟨.value (.func 16),#[.tmp 75,.tmp 76],#[22,22]⟩,some ((some 74),true)⟩,⟨some 78,.pick (.tmp 74) (.tmp 77) (.const (.bool false)),none⟩,⟨some 2,.assign (.tmp 78),none⟩]
instance : Live r_k8_14 := ⟨[3,4,5,6]⟩
def t_k8 : SC :=
  (.seq (.ops false r_k8_1) (.seq (.seq (.ops false r_k8_2) (.cond (.tmp 8) (.seq (.ops false r_k8_3) .ret) .skip)) (.seq (.ops false r_k8_4) (.seq (.ops false r_k8_5) (.seq (.seq (.ops false r_k8_6) (.cond (.tmp 33) (.seq (.ops false r_k8_7) .ret) .skip)) (.seq (.ops false r_k8_8) (.seq (.ops false r_k8_9) (.seq (.seq (.ops false r_k8_10) (.cond (.tmp 58) (.seq (.ops false r_k8_11) .ret) .skip)) (.seq (.ops false r_k8_12) (.seq (.ops false r_k8_13) (.seq (.ops false r_k8_14) .ret)))))))))))
theorem it_k8 : FnIs Tryz.prog 8 79 [.tmp 2] t_k8 := ⟨Tryz.f8, _, Tryz.func8, rfl, rfl, rfl, rfl, by kernel_rfl⟩

theorem ev_k40 (l : List Rec) (hw : wtKs l ≤ 5000000) : Ev (En Tryz.prog rfl).P 40 [.sl 3 (encKs l)] (.ret (.tup [.sl 3 (encKs (if formK l = true then foldK l else [])), .int .i64 (if formK l = true then 0 else 1)])) := by
  have hlw := wtKs_len l
  refine ev_ref07FoldW l (wtKs l) hw (by omega) (fun r hr => by have := wtK_le hr; unfold wtK at this; omega) (fun i m s _ => ?_)
  exact Nat.le_trans (wts_le (List.take_sublist m (l.drop i))) (sum_sub ((List.drop_sublist i l).map wtK))
theorem unionK_sub {a b : List Rec} : ∀ r ∈ unionK a b, r ∈ a ∨ r ∈ b := by
  intro r hr
  unfold unionK at hr
  split at hr
  · exact List.mem_append.1 (ordR_sub hr)
  · cases hr
theorem unionK_len (a b : List Rec) : (unionK a b).length ≤ a.length + b.length := by
  unfold unionK
  split
  · have := ordR_len (a ++ b); rw [List.length_append] at this; exact this
  · simp
theorem waitsK_sub {l : List Rec} {p : Pst} : ∀ r ∈ waitsK l p, r ∈ l := by
  intro r hr
  unfold waitsK at hr
  split at hr
  · exact (List.mem_filter.1 hr).1
  · cases hr
theorem waitsK_len (l : List Rec) (p : Pst) : (waitsK l p).length ≤ l.length := by
  unfold waitsK
  split
  · exact waitsL_len l p
  · simp
theorem ev_k8 (x : CasK) (hw : wtKs x.r + wtKs x.q + x.a.length + x.b.length + wt x.p + wt x.o ≤ 1100000) : Ev (En Tryz.prog rfl).P 8 [encX x] (.ret (.bool true)) := by
  refine Ev.of_body it_k8 (by simp) (Run.start ?_)
  unfold t_k8 encX
  have hcs : stbs [AVal.sl 3 (encKs x.r), .sl 3 (encKs x.q), .sl 4 (encEs x.a), .sl 4 (encEs x.b), .sl 1 (encIs x.p.vec), .sl 3 (encSs x.p.cloud), .sl 1 (encIs x.o.vec), .sl 3 (encSs x.o.cloud)] = true := by simp [stbs, AVal.stb, encIs_stb, encSs_stb, encKs_stb, encEs_stb]
  have hS := stbK
  have hlr := wtKs_len x.r
  have hlq := wtKs_len x.q
  have hwr : ∀ r ∈ x.r, wt r.past ≤ 1100000 := fun r hr => by have := wtK_le hr; unfold wtK at this; omega
  have hwq : ∀ r ∈ x.q, wt r.past ≤ 1100000 := fun r hr => by have := wtK_le hr; unfold wtK at this; omega
  have c1 := ev_k36 x.r x.q (by omega) (by omega) (fun r hr => by have := hwr r hr; omega) (fun r hr => by have := hwq r hr; omega)
  have c2 := ev_k37 x.r x.q (by omega) (by omega) (fun r hr => by have := hwr r hr; omega) (fun r hr => by have := hwq r hr; omega)
  have hul := unionK_len x.r x.q
  have c3 := ev_k16 (unionK x.r x.q) (by omega) (fun r hr => by
    rcases unionK_sub r hr with h | h
    · have := hwr r h; omega
    · have := hwq r h; omega)
  have c4 := ev_k38 x.r x.p (by omega) (fun r hr => by have := hwr r hr; omega) (by omega)
  have c5 := ev_k39 x.r x.p (by omega) (fun r hr => by have := hwr r hr; omega) (by omega)
  have hwl := waitsK_len x.r x.p
  have c6 := ev_k16 (waitsK x.r x.p) (by omega) (fun r hr => by have := hwr r (waitsK_sub r hr); omega)
  have c7 := ev_k28 x.r (by omega)
  have c8 := ev_k40 x.r (by omega)
  have hfw := foldK_wt x.r
  have c9 := ev_k16 (if formK x.r = true then foldK x.r else []) (by split; omega; simp) (fun r hr => by
    split at hr
    · have := hfw.2 r hr; omega
    · cases hr)
  generalize (if formK x.r = true then foldK x.r else []) = F at *
  generalize unionK x.r x.q = U at *
  generalize waitsK x.r x.p = V at *
  generalize (if formK x.r = true ∧ formK x.q = true then (0 : Int) else 1) = u at *
  generalize (if formK x.r = true ∧ isNormP x.p = true then (0 : Int) else 1) = v at *
  generalize (if formK x.r = true then (0 : Int) else 1) = f at *
  (focus (have hF := @hcs; (repeat' (first | refine go1 (k:=?_) | with_reducible refine Ny.of ?_ ?_ | (refine Hyp.of ?_; intro hc; (try simp only [hc]); (try simp only [Bh] at hc)))); all_goals clear hF))
  refine stCall [] (he := ev_k11) (k:=?_)
  (focus (have hF := @hcs; (repeat' (first | refine go1 (k:=?_) | with_reducible refine Ny.of ?_ ?_ | (refine Hyp.of ?_; intro hc; (try simp only [hc]); (try simp only [Bh] at hc)))); all_goals clear hF))
  refine stCall [.sl 3 (encKs x.r), .sl 3 (encKs x.q)] (he := c1) (k:=?_)
  (focus (have hF := @hcs; (repeat' (first | refine go1 (k:=?_) | with_reducible refine Ny.of ?_ ?_ | (refine Hyp.of ?_; intro hc; (try simp only [hc]); (try simp only [Bh] at hc)))); all_goals clear hF))
  refine stCall [.sl 3 (encKs x.r), .sl 3 (encKs x.q)] (he := c2) (k:=?_)
  (focus (have hF := @hcs; (repeat' (first | refine go1 (k:=?_) | with_reducible refine Ny.of ?_ ?_ | (refine Hyp.of ?_; intro hc; (try simp only [hc]); (try simp only [Bh] at hc)))); all_goals clear hF))
  refine stCall [.sl 3 (encKs U), .sl 3 (encKs U)] (he := c3) (k:=?_)
  (focus (have hF := @hcs; (repeat' (first | refine go1 (k:=?_) | with_reducible refine Ny.of ?_ ?_ | (refine Hyp.of ?_; intro hc; (try simp only [hc]); (try simp only [Bh] at hc)))); all_goals clear hF))
  refine stCall [.sl 3 (encKs x.r), encP x.p] (he := c4) (k:=?_)
  (focus (have hF := @hcs; (repeat' (first | refine go1 (k:=?_) | with_reducible refine Ny.of ?_ ?_ | (refine Hyp.of ?_; intro hc; (try simp only [hc]); (try simp only [Bh] at hc)))); all_goals clear hF))
  refine stCall [.sl 3 (encKs x.r), encP x.p] (he := c5) (k:=?_)
  (focus (have hF := @hcs; (repeat' (first | refine go1 (k:=?_) | with_reducible refine Ny.of ?_ ?_ | (refine Hyp.of ?_; intro hc; (try simp only [hc]); (try simp only [Bh] at hc)))); all_goals clear hF))
  refine stCall [.sl 3 (encKs V), .sl 3 (encKs V)] (he := c6) (k:=?_)
  (focus (have hF := @hcs; (repeat' (first | refine go1 (k:=?_) | with_reducible refine Ny.of ?_ ?_ | (refine Hyp.of ?_; intro hc; (try simp only [hc]); (try simp only [Bh] at hc)))); all_goals clear hF))
  refine stCall [.sl 3 (encKs x.r)] (he := c7) (k:=?_)
  (focus (have hF := @hcs; (repeat' (first | refine go1 (k:=?_) | with_reducible refine Ny.of ?_ ?_ | (refine Hyp.of ?_; intro hc; (try simp only [hc]); (try simp only [Bh] at hc)))); all_goals clear hF))
  refine stCall [.sl 3 (encKs x.r)] (he := c8) (k:=?_)
  (focus (have hF := @hcs; (repeat' (first | refine go1 (k:=?_) | with_reducible refine Ny.of ?_ ?_ | (refine Hyp.of ?_; intro hc; (try simp only [hc]); (try simp only [Bh] at hc)))); all_goals clear hF))
  refine stCall [.sl 3 (encKs F), .sl 3 (encKs F)] (he := c9) (k:=?_)
  (focus (have hF := @hcs; (repeat' (first | refine go1 (k:=?_) | with_reducible refine Ny.of ?_ ?_ | (refine Hyp.of ?_; intro hc; (try simp only [hc]); (try simp only [Bh] at hc)))); all_goals clear hF))
  exact Fin.tmp' rfl rfl

end Go.Proofs.YtpomanleabaafaaGreat.Avm
/-
  The law KeepLists holds: for every case of bulk at most 1048576 the call returns true and the case reads behind it as it read before.
-/
namespace Go.Proofs.YtpomanleabaafaaGreat.Avm
open Go.Proofs
theorem lifted_KeepLists (os : Os) (started : os.Started) (H : Type) (enc : TypeId × Value → H) (F : Stop.Interp) :
    ReturnsInHanded {} Tryz.checked os 8 .any ((Rows.OpenSpec.upto Rows.keepListsSpec).pre6 enc Tryz.prog Tryz.f8 Rows.keepListsUptoRow.domain false) (((Rows.OpenSpec.upto Rows.keepListsSpec).at F).post enc Tryz.prog Tryz.f8 false true false false) := by
  refine returnsInHanded_of_cond (C := Tryz.checked) (s := Rows.OpenSpec.upto Rows.keepListsSpec) (k := Rows.uptoSmall) rfl own started (by kernel_rfl) Tryz.func8
    (OpenSpec.witness (enc := enc) (C := Tryz.checked) (s := Rows.OpenSpec.upto Rows.keepListsSpec) (k := Rows.uptoSmall) rfl false ⟨#[], #[.agg #[.slice none 0 0, .slice none 0 0, .slice none 0 0, .slice none 0 0, .slice none 0 0, .slice none 0 0, .slice none 0 0, .slice none 0 0]], []⟩ 8 (by kernel_rfl) (by kernel_rfl) (by kernel_rfl)
      (x := ([.agg [.nil, .nil, .nil, .nil, .agg [.nil, .nil], .agg [.nil, .nil]]], [], [])) (by kernel_rfl) rfl (by kernel_rfl)) ?_
  intro W base args ds gs before hval hW _ hk _
  exact contract_of (s := Rows.keepListsSpec) Tryz.func8 Tryz.params8 (by kernel_rfl) Tryz.underlying4 Tryz.underlying29 (by kernel_rfl) (by kernel_rfl) (of_decide_eq_true (by kernel_rfl)) rfl (fun _ _ => rfl)
    op_CaseK (fun x _ hx => ev_k8 x (by unfold wtX at hx; omega)) H enc W base args ds gs before hval hW hk
theorem keepLists_holds : Rows.KeepListsUptoSaid :=
  OpenClaim.holds_of_cond 8 Tryz.f8 rfl rfl rfl rfl rfl rfl rfl ⟨rfl, rfl, rfl, rfl, rfl⟩ rfl rfl rfl rfl rfl (by kernel_rfl) Tryz.func8 (by kernel_rfl)
    (of_decide_eq_true (by kernel_rfl)) (by unfold Func.isWrapper; first | (rw [if_pos (by decide +kernel)]; kernel_rfl) | (rw [if_neg (by decide +kernel)]; exact ⟨rfl, rfl⟩))
    (fun os started H enc _ F => lifted_KeepLists os started H enc F)
#print axioms keepLists_holds

end Go.Proofs.YtpomanleabaafaaGreat.Avm
