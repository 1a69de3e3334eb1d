/- Part 7 of the proof: lemmas. -/
import Derived.Test.YthejoeiecenjkaaGreatL6
import Derived.Test.YthejoeiecenjkaaGreatProg
import Derived.KernelRfl
set_option maxRecDepth 100000
set_option maxHeartbeats 4000000
set_option linter.unusedVariables false
set_option linter.unusedSimpArgs false
set_option linter.unusedSectionVars false
set_option linter.defProp false
namespace Go.Proofs.YthejoeiecenjkaaGreat.Avm
open Go.Proofs
def r_k8_1 : List SOp := [⟨some 2,.box 31 (.tmp 0),none⟩,⟨some 3,.box 31 (.tmp 1),none⟩,⟨some 4,.assign (.const (.bool false)),none⟩]
instance : Live r_k8_1 := ⟨[0,1]⟩
def r_k8_2 : List SOp := [⟨some 14,.call ⟨.value (.func 24),#[],#[]⟩,none⟩,⟨some 15,.unOp .not 4 (.tmp 14),none⟩]
instance : Live r_k8_2 := ⟨[2,3]⟩
def r_k8_3 : List SOp := [⟨some 4,.assign (.const (.bool false)),none⟩]
instance : Live r_k8_3 := ⟨[]⟩
def r_k8_4 : List SOp := [⟨some 17,.load 31 (.tmp 2),none⟩,⟨some 18,.load 31 (.tmp 3),none⟩,⟨some 19,.call ⟨.value (.func 29),#[.tmp 17,.tmp 18],#[31,31]⟩,none⟩,⟨some 16,.move (.tmp 19),none⟩,⟨some 20,.extract (.tmp 16) 0,none⟩,⟨some 21,.extract (.tmp 16) 1,none⟩,⟨some 5,.alloc 31,none⟩,⟨none,.store 31 (.tmp 5) (.tmp 20),none⟩,⟨some 6,.assign (.tmp 21),none⟩]
instance : Live r_k8_4 := ⟨[2,3]⟩
def r_k8_5 : List SOp := [⟨some 23,.load 31 (.tmp 2),none⟩,⟨some 24,.load 31 (.tmp 3),none⟩,⟨some 25,.call ⟨.value (.func 25),#[.tmp 23,.tmp 24],#[31,31]⟩,none⟩,⟨some 22,.move (.tmp 25),none⟩,⟨some 26,.extract (.tmp 22) 0,none⟩,⟨some 27,.extract (.tmp 22) 1,none⟩,⟨some 7,.alloc 31,none⟩,⟨none,.store 31 (.tmp 7) (.tmp 26),none⟩,⟨some 8,.assign (.tmp 27),none⟩]
instance : Live r_k8_5 := ⟨[2,3,5,6]⟩
def r_k8_6 : List SOp := [⟨some 28,.move (.tmp 8),none⟩,⟨some 29,.move (.tmp 6),none⟩,⟨some 30,.binOp .neq 32 (.tmp 28) (.tmp 29) 32,none⟩,⟨some 31,.move (.tmp 30),none⟩,⟨some 32,.load 31 (.tmp 7),some ((some 31),false)⟩,⟨some 33,.load 31 (.tmp 5),some ((some 31),false)⟩,⟨some 34,.call ⟨.value (.func 15),#[.tmp 32,.tmp 33],#[31,31]⟩,some ((some 31),false)⟩,⟨some 35,.unOp .not 4 (.tmp 34),some ((some 31),false)⟩,⟨some 36,.pick (.tmp 31) (.const (.bool true)) (.tmp 35),none⟩]
instance : Live r_k8_6 := ⟨[2,3,5,6,7,8]⟩
def r_k8_7 : List SOp := [⟨some 4,.assign (.const (.bool false)),none⟩]
instance : Live r_k8_7 := ⟨[]⟩
def r_k8_8 : List SOp := [⟨some 38,.load 31 (.tmp 2),none⟩,⟨some 39,.load 31 (.tmp 3),none⟩,⟨some 40,.call ⟨.value (.func 30),#[.tmp 38,.tmp 39],#[31,31]⟩,none⟩,⟨some 37,.move (.tmp 40),none⟩,⟨some 41,.extract (.tmp 37) 0,none⟩,⟨some 42,.extract (.tmp 37) 1,none⟩,⟨some 9,.assign (.tmp 41),none⟩,⟨some 10,.assign (.tmp 42),none⟩]
instance : Live r_k8_8 := ⟨[2,3]⟩
def r_k8_9 : List SOp := [⟨some 44,.load 31 (.tmp 2),none⟩,⟨some 45,.load 31 (.tmp 3),none⟩,⟨some 46,.call ⟨.value (.func 31),#[.tmp 44,.tmp 45],#[31,31]⟩,none⟩,⟨some 43,.move (.tmp 46),none⟩,⟨some 47,.extract (.tmp 43) 0,none⟩,⟨some 48,.extract (.tmp 43) 1,none⟩,⟨some 11,.assign (.tmp 47),none⟩,⟨some 8,.assign (.tmp 48),none⟩]
instance : Live r_k8_9 := ⟨[2,3,9,10]⟩
def zco : List SOp := [⟨some 49,.move (.tmp 11),none⟩,⟨some 50,.move (.tmp 9),none⟩,⟨some 51,.binOp .neq 4 (.tmp 49) (.tmp 50) 4,none⟩,⟨some 52,.move (.tmp 51),none⟩,⟨some 53,.move (.tmp 8),some ((some 52),false)⟩,⟨some 54,.move (.tmp 10),some ((some 52),false)⟩,⟨some 55,.binOp .neq 32 (.tmp 53) (.tmp 54) 32,some ((some 52),false)⟩,⟨some 56,.pick (.tmp 52) (.const (.bool true)) (.tmp 55),none⟩]
instance : Live zco := ⟨[2,3,8,9,10,11]⟩
def zcn : List SOp := [⟨some 4,.assign (.const (.bool false)),none⟩]
instance : Live zcn := ⟨[]⟩
def zcm : List SOp := [⟨some 58,.load 31 (.tmp 2),none⟩,⟨some 59,.load 31 (.tmp 3),none⟩,⟨some 60,.call ⟨.value (.func 32),#[.tmp 58,.tmp 59],#[31,31]⟩,none⟩,⟨some 57,.move (.tmp 60),none⟩,⟨some 61,.extract (.tmp 57) 0,none⟩,⟨some 62,.extract (.tmp 57) 1,none⟩,⟨some 12,.assign (.tmp 61),none⟩,⟨some 10,.assign (.tmp 62),none⟩]
instance : Live zcm := ⟨[2,3]⟩
def zcl : List SOp := [⟨some 64,.load 31 (.tmp 2),none⟩,⟨some 65,.load 31 (.tmp 3),none⟩,⟨some 66,.call ⟨.value (.func 33),#[.tmp 64,.tmp 65],#[31,31]⟩,none⟩,⟨some 63,.move (.tmp 66),none⟩,⟨some 67,.extract (.tmp 63) 0,none⟩,⟨some 68,.extract (.tmp 63) 1,none⟩,⟨some 13,.assign (.tmp 67),none⟩,⟨some 8,.assign (.tmp 68),none⟩]
instance : Live zcl := ⟨[2,3,10,12]⟩
def zck : List SOp := [⟨some 69,.move (.tmp 13),none⟩,⟨some 70,.move (.tmp 12),none⟩,⟨some 71,.binOp .eql 3 (.tmp 69) (.tmp 70) 3,none⟩,⟨some 72,.move (.tmp 71),none⟩,⟨some 73,.move (.tmp 8),some ((some 72),true)⟩,⟨some 74,.move (.tmp 10),some ((some 72),true)⟩,⟨some 75,.binOp .eql 32 (.tmp 73) (.tmp 74) 32,some ((some 72),true)⟩,⟨some 76,.pick (.tmp 72) (.tmp 75) (.const (.bool false)),none⟩,⟨some 4,.assign (.tmp 76),none⟩]
instance : Live zck := ⟨[8,10,12,13]⟩
def t_k8 : SC :=
 (.seq (.ops false r_k8_1) (.seq (.seq (.ops false r_k8_2) (.cond (.tmp 15) (.seq (.ops false r_k8_3) .ret) .skip)) (.seq (.ops false r_k8_4) (.seq (.ops false r_k8_5) (.seq (.seq (.ops false r_k8_6) (.cond (.tmp 36) (.seq (.ops false r_k8_7) .ret) .skip)) (.seq (.ops false r_k8_8) (.seq (.ops false r_k8_9) (.seq (.seq (.ops false zco) (.cond (.tmp 56) (.seq (.ops false zcn) .ret) .skip)) (.seq (.ops false zcm) (.seq (.ops false zcl) (.seq (.ops false zck) .ret)))))))))))
theorem it_k8 : FnIs Tryz.prog 8 77 [.tmp 4] t_k8 := ⟨Tryz.f8, _, Tryz.func8, rfl, rfl, rfl, rfl, by kernel_rfl⟩

noncomputable def wthE (a b : Swt) : Bool := decide (q6u a b = 0) && eqC (q37 a b) b
noncomputable def ordE (a b : Swt) : Int := if q6u a b = 0 then (if eqC (q37 a b) b = true then (if eqC (q37 a b) a = true then 0 else 1) else (if eqC (q37 a b) a = true then 2 else 3)) else 0
theorem q9f (a b : Swt) : wtS (q37 a b) ≤ 16 + wtS a + wtS b := by
 by_cases h : q6u a b = 0
 ·rw [q4n h]; exact z7d a b
 ·rw [q9g h]
  exact Nat.zero_le _
theorem qfb {a b : Swt} (h : q6u a b = 0) : FormS a ∧ FormS b ∧ FormS (q37 a b) := by
 obtain ⟨h1, h2, M, hM⟩ := zmc.1 h
 exact ⟨h1, h2, by rw [q4n h]; exact qf4 h1 h2 hM⟩
theorem q2b {s : Swt} (h : FormS s) : CanP s.past ∧ ∀ r ∈ s.defer, q72 r := ⟨h.past, fun r hr => (q4f h.defer r hr).1⟩
theorem ev_k30 (a b : Swt) (hw : wtS a + wtS b ≤ 1900000) : Ev (En Tryz.prog rfl).P 30 [q33 a, q33 b] (.ret (.tup [.bool (wthE a b), .int .i64 (q6u a b)])) := by
 refine Ev.of_body it_k30 (by simp) (Run.start ?_)
 unfold t_k30 wthE
 have hS := q9v
 have hca := q61 a.live a.past.vec a.past.cloud a.defer
 have hcb := q61 b.live b.past.vec b.past.cloud b.defer
 have c1 := zm0 a b hw
 have hjw := q9f a b
 have c2 := q47 (q37 a b) b (by omega) (by omega)
 generalize q37 a b = s at *
 have hcs := q61 s.live s.past.vec s.past.cloud s.defer
 generalize eqC s b = u at *
 unfold q33 at c1 c2 ⊢
 by_cases h : q6u a b = 0
 ·rw [h] at c1 ⊢
  rw [decide_eq_true rfl, Bool.true_and]
  (have hF := (aI @hca @hcb); refine q01 (k:=?_); clear hF)
  refine q00 [_, _] (he := c1) (k:=?_)
  (have hF := (aI @hca (aI @hcb @hcs)); refine q01 (k:=?_); clear hF)
  refine q00 [_, _] (he := c2) (k:=?_)
  (have hF := (aI @hca @hcb); refine q01 (k:=?_); clear hF)
  exact Fin.two (x := .bool u) (x' := .int .i64 0) rfl rfl rfl rfl (.inl rfl) (.inl rfl)
 ·rw [decide_eq_false h, Bool.false_and]
  generalize q6u a b = v at *
  (have hF := (aI @hca @hcb); refine q01 (k:=?_); clear hF)
  refine q00 [_, _] (he := c1) (k:=?_)
  (have hF := (aI (aI @hca @hcb) (aI @hcs @h)); refine q01 (k:=?_); clear hF)
  exact Fin.two (x := .bool false) (x' := .int .i64 v) rfl rfl rfl rfl (.inl rfl) (.inl rfl)
theorem ev_k31 (a b : Swt) (ha : wtS a ≤ 2000000) (hb : wtS b ≤ 2000000) : Ev (En Tryz.prog rfl).P 31 [q33 a, q33 b] (.ret (.tup [.bool (wthE a b), .int .i64 (q6u a b)])) := by
 refine Ev.of_body it_k31 (by simp) (Run.start ?_)
 unfold t_k31 wthE
 have hS := q9v
 have hca := q61 a.live a.past.vec a.past.cloud a.defer
 have hcb := q61 b.live b.past.vec b.past.cloud b.defer
 have c1 := qoe a b ha hb
 have hjw := q9f a b
 by_cases h : q6u a b = 0
 ·obtain ⟨f1, f2, f3⟩ := qfb h
  have c2 := zlt (q37 a b) b (by omega) (by omega) (q2b f3).1 (q2b f2).1 (q2b f3).2 (q2b f2).2
  clear f3
  rw [h] at c1 ⊢
  rw [decide_eq_true rfl, Bool.true_and]
  generalize q37 a b = s at *
  have hcs := q61 s.live s.past.vec s.past.cloud s.defer
  generalize eqC s b = u at *
  unfold q33 at c1 c2 ⊢
  (have hF := (aI @hca @hcb); refine q01 (k:=?_); clear hF)
  refine q00 [_, _] (he := c1) (k:=?_)
  (have hF := (aI @hca (aI @hcb @hcs)); refine q01 (k:=?_); clear hF)
  refine q00 [_, _] (he := c2) (k:=?_)
  (have hF := (aI @hca @hcb); refine q01 (k:=?_); clear hF)
  exact Fin.two (x := .bool u) (x' := .int .i64 0) rfl rfl rfl rfl (.inl rfl) (.inl rfl)
 ·rw [decide_eq_false h, Bool.false_and]
  generalize q6u a b = v at *
  generalize q37 a b = s at *
  have hcs := q61 s.live s.past.vec s.past.cloud s.defer
  unfold q33 at c1 ⊢
  (have hF := (aI @hca @hcb); refine q01 (k:=?_); clear hF)
  refine q00 [_, _] (he := c1) (k:=?_)
  (have hF := (aI (aI @hca @hcb) (aI @hcs @h)); refine q01 (k:=?_); clear hF)
  exact Fin.two (x := .bool false) (x' := .int .i64 v) rfl rfl rfl rfl (.inl rfl) (.inl rfl)
theorem ev_k32 (a b : Swt) (hw : wtS a + wtS b ≤ 1900000) : Ev (En Tryz.prog rfl).P 32 [q33 a, q33 b] (.ret (.tup [.int .i64 (ordE a b), .int .i64 (q6u a b)])) := by
 refine Ev.of_body it_k32 (by simp) (Run.start ?_)
 unfold t_k32 ordE
 have hS := q9v
 have hca := q61 a.live a.past.vec a.past.cloud a.defer
 have hcb := q61 b.live b.past.vec b.past.cloud b.defer
 have c1 := zm0 a b hw
 have hjw := q9f a b
 have c2 := q47 (q37 a b) b (by omega) (by omega)
 have c3 := q47 (q37 a b) a (by omega) (by omega)
 generalize q37 a b = s at *
 have hcs := q61 s.live s.past.vec s.past.cloud s.defer
 generalize eqC s b = u at *
 generalize eqC s a = v at *
 unfold q33 at c1 c2 c3 ⊢
 by_cases h : q6u a b = 0
 ·rw [h] at c1 ⊢
  rw [if_pos rfl]
  cases u <;> cases v
  all_goals
   (have hF := (aI @hca @hcb); refine q01 (k:=?_); clear hF)
   refine q00 [_, _] (he := c1) (k:=?_)
   (have hF := (aI @hca (aI @hcb @hcs)); refine q01 (k:=?_); clear hF)
   refine q00 [_, _] (he := c2) (k:=?_)
   (have hF := (aI @hca (aI @hcb @hcs)); refine q01 (k:=?_); clear hF)
   refine q00 [_, _] (he := c3) (k:=?_)
   (have hF := (aI @hca @hcb); refine q01 (k:=?_); clear hF)
   exact Fin.two (x' := .int .i64 0) rfl rfl rfl rfl (.inl rfl) (.inl rfl)
 ·rw [if_neg h]
  generalize q6u a b = v at *
  (have hF := (aI @hca @hcb); refine q01 (k:=?_); clear hF)
  refine q00 [_, _] (he := c1) (k:=?_)
  (have hF := (aI (aI @hca @hcb) (aI @hcs @h)); refine q01 (k:=?_); clear hF)
  exact Fin.two (x := .int .i64 0) (x' := .int .i64 v) rfl rfl rfl rfl (.inl rfl) (.inl rfl)
theorem ev_k33 (a b : Swt) (ha : wtS a ≤ 2000000) (hb : wtS b ≤ 2000000) : Ev (En Tryz.prog rfl).P 33 [q33 a, q33 b] (.ret (.tup [.int .i64 (ordE a b), .int .i64 (q6u a b)])) := by
 refine Ev.of_body it_k33 (by simp) (Run.start ?_)
 unfold t_k33 ordE
 have hS := q9v
 have hca := q61 a.live a.past.vec a.past.cloud a.defer
 have hcb := q61 b.live b.past.vec b.past.cloud b.defer
 have c1 := qoe a b ha hb
 have hjw := q9f a b
 by_cases h : q6u a b = 0
 ·obtain ⟨f1, f2, f3⟩ := qfb h
  have c2 := zlt (q37 a b) b (by omega) (by omega) (q2b f3).1 (q2b f2).1 (q2b f3).2 (q2b f2).2
  have c3 := zlt (q37 a b) a (by omega) (by omega) (q2b f3).1 (q2b f1).1 (q2b f3).2 (q2b f1).2
  clear f3
  rw [h] at c1 ⊢
  rw [if_pos rfl]
  generalize q37 a b = s at *
  have hcs := q61 s.live s.past.vec s.past.cloud s.defer
  generalize eqC s b = u at *
  generalize eqC s a = v at *
  unfold q33 at c1 c2 c3 ⊢
  cases u <;> cases v
  all_goals
   (have hF := (aI @hca @hcb); refine q01 (k:=?_); clear hF)
   refine q00 [_, _] (he := c1) (k:=?_)
   (have hF := (aI @hca (aI @hcb @hcs)); refine q01 (k:=?_); clear hF)
   refine q00 [_, _] (he := c2) (k:=?_)
   (have hF := (aI @hca (aI @hcb @hcs)); refine q01 (k:=?_); clear hF)
   refine q00 [_, _] (he := c3) (k:=?_)
   (have hF := (aI @hca @hcb); refine q01 (k:=?_); clear hF)
   exact Fin.two (x' := .int .i64 0) rfl rfl rfl rfl (.inl rfl) (.inl rfl)
 ·rw [if_neg h]
  generalize q6u a b = v at *
  generalize q37 a b = s at *
  have hcs := q61 s.live s.past.vec s.past.cloud s.defer
  unfold q33 at c1 ⊢
  (have hF := (aI @hca @hcb); refine q01 (k:=?_); clear hF)
  refine q00 [_, _] (he := c1) (k:=?_)
  (have hF := (aI (aI @hca @hcb) (aI @hcs @h)); refine q01 (k:=?_); clear hF)
  exact Fin.two (x := .int .i64 0) (x' := .int .i64 v) rfl rfl rfl rfl (.inl rfl) (.inl rfl)

def qnz : Swt := ⟨[], a1P, []⟩
theorem qqx : CanP a1P := by rw [← a1join]; exact q58 _
theorem qel (p : Pst) : q14 (q3w []) p = true := q3h.2 fun d hd => by
 rw [q2n (by simp)] at hd
 obtain ⟨e, he, _⟩ := hd
 cases he
theorem qo5 : q71 [] := ⟨fun i e h => by simp at h, fun i a b h => by simp at h⟩
theorem qbl : FormS a1S := ⟨a1form, qqx, qde, by
 show q14 (q3w [a1E]) a1P = true
 rw [a1dots]
 exact qpg _, fun r hr => (nomatch hr), fun e _ ⟨r, hr, _⟩ => (nomatch hr)⟩
theorem qf6 : FormS qnz := ⟨qo5, qqx, qde, qel _, fun r hr => (nomatch hr), fun e he => (nomatch he)⟩
theorem z73 : FormS noS := ⟨qo5, canP_nil, qde, qel _, fun r hr => (nomatch hr), fun e he => (nomatch he)⟩
theorem a1has : q2q a1P a1E.dot = true := by
 rw [← a1dots, q2n (fun e he => by simp at he; subst he; exact a1ent)]
 exact ⟨a1E, by simp, rfl⟩
theorem nil_has (d : Rn) : q2q ⟨[], []⟩ d = false := by
 have h : q2q ⟨[], []⟩ d = true → False := fun h => by
  have := z7h h
  have := kpe_size
  omega
 cases hh : q2q ⟨[], []⟩ d
 ·rfl
 ·exact (h hh).elim
theorem z78 : q2l a1S qnz = some [] := by
 have hk : q19 a1P a1E = false := by unfold q19; rw [a1has]; rfl
 show (q62 (q19 a1P) (q19 a1P) 0 [] []).map (qey (q19 a1P a1E) a1E ++ ·) = some []
 rw [hk]
 rfl
theorem mrg_no : q2l a1S noS = some [a1E] := by
 have hk : q19 ⟨[], []⟩ a1E = true := by unfold q19; rw [nil_has]; rfl
 show (q62 (q19 ⟨[], []⟩) (q19 a1P) 0 [] []).map (qey (q19 ⟨[], []⟩ a1E) a1E ++ ·) = some [a1E]
 rw [hk]
 rfl
theorem join_a1 : q1s [a1P, a1P] = a1P := zle (q58 _) qqx fun d => by rw [q7s, Bool.or_self]
theorem err_gone : q6u a1S qnz = 0 := by rw [q7g qbl qf6, z78]; rfl
theorem err_no : q6u a1S noS = 0 := by rw [q7g qbl z73, mrg_no]; rfl
theorem qq1 : q37 a1S qnz = ⟨[], a1P, []⟩ := by
 rw [qa8 qbl qf6 z78]
 show Swt.mk (q36 (q8b []) []) (q1s [a1P, a1P]) (q18 (q8b []) _) = _
 rw [join_a1]
 rfl
theorem zkz : q37 a1S noS = ⟨[a1E], a1P, []⟩ := by
 rw [qa8 qbl z73 mrg_no]
 show Swt.mk (q36 (q8b []) [a1E]) (q1s [a1P, ⟨[], []⟩]) (q18 (q8b []) _) = _
 rw [a1join]
 rfl
theorem ev_k34 : Ev (En Tryz.prog rfl).P 34 [] (.ret (q33 qnz)) := by
 refine Ev.of_body it_k34 (by simp) (AW.wkEnd (Run.start ?_))
 unfold t_k34
 (have hF := True.intro; refine q01 (k:=?_); clear hF)
 exact Fin.done ⟨_, Wk.cells_nil (k := 0) rfl (show qrx [.nil, .sl 1 (q05 [1]), .nil, .nil] [.sl 4 (q0b []), .sl 1 (q05 [1]), .sl 3 [], .sl 3 []] from ⟨.inr ⟨rfl, 4, rfl⟩, .inl rfl, .inr ⟨rfl, 3, rfl⟩, .inr ⟨rfl, 3, rfl⟩, trivial⟩), [q33 qnz], by with_unfolding_all rfl, by simp [q0k, q2y], _, q1l _, rfl⟩
theorem ev_k24 : Ev (En Tryz.prog rfl).P 24 [] (.ret (.bool true)) := by
 refine Ev.of_body it_k24 (by simp) (Run.start ?_)
 unfold t_k24
 have hS := q9v
 have c1 := qoe a1S qnz (by decide) (by decide)
 rw [qq1, err_gone] at c1
 have c2 := qoe a1S noS (by decide) (by decide)
 rw [zkz, err_no] at c2
 replace c2 : Ev (En Tryz.prog rfl).P 25 [q33 a1S, .agg [.nil, .nil, .nil, .nil]] _ := c2.wks ⟨Wkn.refl _, Wkn.agg ⟨Wkn.nil 4, Wkn.nil 1, Wkn.nil 3, Wkn.nil 3, trivial⟩, trivial⟩
 have c3 := ev_k14
 have c4 := ev_k34
 have l0 : (q0b []).length = 0 := rfl
 have l1 : (q0b [a1E]).length = 1 := rfl
 have l2 : (q05 a1P.vec).length = 1 := rfl
 have g1 : (q0b [a1E])[0]? = some (.agg [.int .i64 0, .int .i64 1, .str sA, .int .i64 5]) := rfl
 (have hF := True.intro; refine q01 (k:=?_); clear hF)
 refine q00 [] (he := c3) (k:=?_)
 (have hF := True.intro; refine q01 (k:=?_); clear hF)
 refine q00 [] (he := c4) (k:=?_)
 (have hF := True.intro; refine q01 (k:=?_); clear hF)
 refine q00 [q33 a1S, q33 qnz] (he := c1) (k:=?_)
 (have hF := True.intro; refine q01 (k:=?_); clear hF)
 refine q00 [] (he := c3) (k:=?_)
 (have hF := True.intro; refine q01 (k:=?_); clear hF)
 refine q00 [q33 a1S, .agg [.nil, .nil, .nil, .nil]] (he := c2) (k:=?_)
 unfold q33
 (have hF := (aI (aI @l0 @l1) (aI @l2 @g1)); refine q01 (k:=?_); clear hF)
 exact Fin.tmp' rfl rfl
theorem za4 : Tryz.prog.cellsOf 31 = 4 := by kernel_rfl
def cellsS (s : Swt) : List AVal := [.sl 4 (q0b s.live), .sl 1 (q05 s.past.vec), .sl 3 (q0d s.past.cloud), .sl 3 (q09 s.defer)]
theorem zkd : Opens Tryz.prog 31 Swt (fun s => okP s.past) cellsS wtS :=
 (Opens.struct Tryz.underlying31 za4 (OpensF.cons (k := 1) op_ents (fun _ => rfl) za3 rfl (OpensF.cons (k := 2) zke (fun _ => rfl) qak rfl (OpensF.cons (k := 1) op_recs (fun _ => rfl) za1 rfl (OpensF.nil _))))).map
  (fun x => ⟨x.1, x.2.1, x.2.2.1⟩) (fun x h => h.2.1) (fun _ => rfl)
  (fun x => by
   show x.1.length + wt x.2.1 + q5d x.2.2.1 ≤ wtL (fun _ => 1) x.1 + (wt x.2.1 + ((q5d x.2.2.1 + 1) + 0)) + 1
   rw [qpd]; omega)
theorem ev_k8 (a b : Swt) (hw : wtS a + wtS b ≤ 1900000) : Ev (En Tryz.prog rfl).P 8 [q33 a, q33 b] (.ret (.bool true)) := by
 refine Ev.of_body it_k8 (by simp) (Run.start ?_)
 unfold t_k8
 have hS := q9v
 have hca := q61 a.live a.past.vec a.past.cloud a.defer
 have hcb := q61 b.live b.past.vec b.past.cloud b.defer
 have c1 := zm0 a b hw
 have c2 := qoe a b (by omega) (by omega)
 have hjw := q9f a b
 have c3 := q47 (q37 a b) (q37 a b) (by omega) (by omega)
 rw [eqC_self] at c3
 have c4 := ev_k30 a b hw
 have c5 := ev_k31 a b (by omega) (by omega)
 have c6 := ev_k32 a b hw
 have c7 := ev_k33 a b (by omega) (by omega)
 generalize q37 a b = s at *
 generalize q6u a b = v at *
 generalize wthE a b = u at *
 generalize ordE a b = o at *
 have hcs := q61 s.live s.past.vec s.past.cloud s.defer
 unfold q33 at c1 c2 c3 c4 c5 c6 c7 ⊢
 (have hF := (aI @hca @hcb); refine q01 (k:=?_); clear hF)
 refine q00 [] (he := ev_k24) (k:=?_)
 (have hF := (aI @hca @hcb); refine q01 (k:=?_); clear hF)
 refine q00 [_, _] (he := c1) (k:=?_)
 (have hF := (aI @hca (aI @hcb @hcs)); refine q01 (k:=?_); clear hF)
 refine q00 [_, _] (he := c2) (k:=?_)
 (have hF := (aI @hca (aI @hcb @hcs)); refine q01 (k:=?_); clear hF)
 refine q00 [_, _] (he := c3) (k:=?_)
 (have hF := (aI @hca (aI @hcb @hcs)); refine q01 (k:=?_); clear hF)
 refine q00 [_, _] (he := c4) (k:=?_)
 (have hF := (aI @hca (aI @hcb @hcs)); refine q01 (k:=?_); clear hF)
 refine q00 [_, _] (he := c5) (k:=?_)
 (have hF := (aI @hca (aI @hcb @hcs)); refine q01 (k:=?_); clear hF)
 refine q00 [_, _] (he := c6) (k:=?_)
 (have hF := (aI @hca (aI @hcb @hcs)); refine q01 (k:=?_); clear hF)
 refine q00 [_, _] (he := c7) (k:=?_)
 (have hF := (aI @hca (aI @hcb @hcs)); refine q01 (k:=?_); clear hF)
 exact Fin.tmp' rfl rfl

end Go.Proofs.YthejoeiecenjkaaGreat.Avm
