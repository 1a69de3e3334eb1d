/- Part 3 of the proof: lemmas. -/
import Derived.Test.YtkionmommpgcmaaGreatG2
import Derived.Test.YtkionmommpgcmaaGreatProg
import Derived.KernelRfl
import Derived.Shelf.SlSortCmp.NoneTotal
set_option maxRecDepth 100000
set_option maxHeartbeats 4000000
set_option linter.unusedVariables false
set_option linter.unusedSimpArgs false
set_option linter.unusedSectionVars false
set_option linter.defProp false
namespace Go.Proofs.YtkionmommpgcmaaGreat.Avm
open Go.Proofs
abbrev Rn := Int × Int
def q6w (r : Rn) : AVal := .agg [.int .i64 r.1, .int .i64 r.2]
def q4x (r : Rn) : Rn := (max r.1 1, min r.2 1000000000)
theorem ev_k159 (r : Rn) : Ev (En Tryz.prog rfl).P 159 [q6w r] (.ret (.tup [q6w (q4x r), .bool (decide ((q4x r).1 ≤ (q4x r).2))])) := by
 refine Ev.of_body it_k159 (by simp) (Run.start ?_)
 unfold t_k159 q6w
 (focus (have hF := True.intro; (repeat' (first | refine go0 (k:=?_) | fail)); all_goals clear hF))
 ((with_reducible apply toW); refine stW (fun j => j == 1) (k:=?_))
 (focus (have hF := True.intro; (repeat' (first | refine go0 (k:=?_) | fail)); all_goals clear hF))
 exact Fin.all rfl rfl rfl
theorem q3q {x : Int} (h : -9223372036854775808 ≤ x ∧ x ≤ 9223372036854775807) : IntKind.i64.wrap x = x := by
 simp only [IntKind.wrap, IntKind.bits, IntKind.signed]
 simp
 omega
theorem ev_k161 (x y : Rn) (hx : -1000000000000 ≤ x.1 ∧ x.1 ≤ 1000000000000) (hy : -1000000000000 ≤ y.1 ∧ y.1 ≤ 1000000000000) : Ev (En Tryz.prog rfl).P 161 [q6w x, q6w y] (.ret (.int .i64 (x.1 - y.1))) := by
 refine Ev.of_body it_k161 (by simp) (Run.start ?_)
 have hw : IntKind.i64.wrap (x.1 - y.1) = x.1 - y.1 := q3q (by omega)
 unfold t_k161 q6w
 (focus (have hF := @hw; (repeat' (first | refine go0 (k:=?_) | fail)); all_goals clear hF))
 exact Fin.all rfl rfl rfl
def q0f (l : List Rn) : List AVal := l.map q6w
theorem q17 (r : Rn) : (q6w r).stb = true := rfl
theorem q09 (l : List Rn) : q0i (q0f l) = true := q3g q17
theorem q33 (l : List Rn) : (q0f l).length = l.length := by simp [q0f]
def qcw (out : List Rn) (r : Rn) : List Rn :=
 match out.getLast? with
 | some l => if r.1 ≤ l.2 + 1 then out.dropLast ++ [(l.1, max l.2 r.2)] else out ++ [r]
 | none => [r]
theorem z16 (r : Rn) : qcw [] r = [r] := rfl
theorem qcp (l : List Rn) (x r : Rn) : qcw (l ++ [x]) r = if r.1 ≤ x.2 + 1 then l ++ [(x.1, max x.2 r.2)] else l ++ [x] ++ [r] := by
 simp [qcw]
theorem ev_k162 (out : List Rn) (r : Rn) (hb : ∀ x ∈ out, -1000000000000 ≤ x.2 ∧ x.2 ≤ 1000000000000) (hl : out.length ≤ 1000000000) :
 EvOwn (En Tryz.prog rfl).P 162 [.undef, q6w r] 0 2 (q0f out) true .undef (q0f (qcw out r)) := by
 refine EvOwn.of_body it_k162 (by simp) (Run.start ?_)
 unfold t_k162 q6w qfh
 rcases List.eq_nil_or_concat out with rfl | ⟨l, x, rfl⟩
 ·have e0 : q0f [] = [] := rfl
  rw [e0]
  (focus (have hF := True.intro; (repeat' (first | refine go0 (k:=?_) | fail)); all_goals clear hF))
  exact Fin.done ⟨_, rfl, rfl, q09 _⟩
 ·simp only [List.concat_eq_append] at *
  have hbx := hb x (by simp)
  rw [qcp]
  have hlen : (q0f (l ++ [x])).length = l.length + 1 := by simp [q0f]
  have hget : (q0f (l ++ [x]))[l.length]? = some (.agg [.int .i64 x.1, .int .i64 x.2]) := by simp [q0f, q6w]
  have hset : ∀ a b, (q0f (l ++ [x])).set l.length (.agg [.int .i64 a, .int .i64 b]) = q0f (l ++ [(a, b)]) := fun a b => by simp [q0f, q6w]
  have happ : ∀ a b, q0f (l ++ [x]) ++ [.agg [.int .i64 a, .int .i64 b]] = q0f (l ++ [x] ++ [(a, b)]) := fun a b => by simp [q0f, q6w]
  generalize hL : q0f (l ++ [x]) = L at *
  generalize hm : l.length = m at *
  have hm2 : m ≤ 1000000000 := by simp at hl; omega
  have e1 : decide (0 < ((m + 1 : Nat) : Int)) = true := by simp only [decide_eq_true_eq]; omega
  have e2 : IntKind.i64.wrap (((m + 1 : Nat) : Int) - 1) = (m : Int) := by rw [q3q (by omega)]; omega
  have e3 : (0 ≤ (m : Int)) = True := by simp
  have e4 : ((m : Int) < ((m + 1 : Nat) : Int)) = True := by simp only [eq_iff_iff, iff_true]; omega
  have e5 : IntKind.i64.wrap (x.2 + 1) = x.2 + 1 := q3q (by omega)
  have e6 : ((m + 1 + 1) * 16 ≤ 70368744177664) = True := by simp only [eq_iff_iff, iff_true]; omega
  have e7 : (m + 1 + 1 ≤ 4611686018427387904) = True := by simp only [eq_iff_iff, iff_true]; omega
  (focus (have hF := (aI (aI (aI @hlen @e1) (aI @e2 (aI @e3 @e4))) (aI (aI @e5 (aI @e6 @e7)) (aI @hget (aI @hset @happ)))); (repeat' (first | refine go0 (k:=?_) | fail)); all_goals clear hF))
  refine Run.cond _ rfl (fun hc => ?_) (fun hc => ?_)
  ·simp only [decide_eq_true_eq] at hc
   rw [if_pos hc]
   (focus (have hF := (aI (aI (aI @hlen @e1) (aI @e2 (aI @e3 @e4))) (aI (aI @e5 (aI @e6 @e7)) (aI @hget (aI @hset @happ)))); (repeat' (first | refine go0 (k:=?_) | fail)); all_goals clear hF))
   exact Fin.done ⟨_, rfl, rfl, q09 _⟩
  ·simp only [decide_eq_false_iff_not] at hc
   rw [if_neg hc]
   (focus (have hF := (aI (aI (aI @hlen @e1) (aI @e2 (aI @e3 @e4))) (aI (aI @e5 (aI @e6 @e7)) (aI @hget (aI @hset @happ)))); (repeat' (first | refine go0 (k:=?_) | fail)); all_goals clear hF))
   exact Fin.done ⟨_, rfl, rfl, q09 _⟩

def qtf : List SOp := [zO 2 (.assign (.const (.slice none 0 0)))]
instance : Live qtf := ⟨[0]⟩
def qte : List SOp := [zM 3 0,zO 4 (.binOp .eql 173 (.tmp 3) (.const (.slice none 0 0)) 173)]
instance : Live qte := ⟨[0]⟩
def qtd : List SOp := [zO 2 (.assign (.const (.slice none 0 0)))]
instance : Live qtd := ⟨[]⟩
def qtc : List SOp := [zO 5 (.buildSlice 173 0 #[]),zM 6 0,zO 7 (.call ⟨.builtin .append,#[.tmp 5,.tmp 6],#[173,173]⟩),zG 2 7]
instance : Live qtc := ⟨[0]⟩
def t_k151 : SC :=
 (.seq (.ops false qtf) (.seq (.seq (.ops false qte) (.cond (.tmp 4) (.seq (.ops false qtd) .ret) .skip)) (.seq (.ops false qtc) .ret)))
theorem it_k151 : FnIs Tryz.prog 151 8 [.tmp 2] t_k151 := ⟨Tryz.f151, _, Tryz.func151, rfl, rfl, rfl, rfl, by kernel_rfl⟩

def qva : List SOp := [zO 2 (.assign (.const (.slice none 0 0)))]
instance : Live qva := ⟨[0]⟩
def qv9 : List SOp := [zM 3 0,zO 4 (.binOp .eql 22 (.tmp 3) (.const (.slice none 0 0)) 22)]
instance : Live qv9 := ⟨[0]⟩
def qv8 : List SOp := [zO 2 (.assign (.const (.slice none 0 0)))]
instance : Live qv8 := ⟨[]⟩
def qv7 : List SOp := [zO 5 (.buildSlice 22 0 #[]),zM 6 0,zO 7 (.call ⟨.builtin .append,#[.tmp 5,.tmp 6],#[22,22]⟩),zG 2 7]
instance : Live qv7 := ⟨[0]⟩
def t_k139 : SC :=
 (.seq (.ops false qva) (.seq (.seq (.ops false qv9) (.cond (.tmp 4) (.seq (.ops false qv8) .ret) .skip)) (.seq (.ops false qv7) .ret)))
theorem it_k139 : FnIs Tryz.prog 139 8 [.tmp 2] t_k139 := ⟨Tryz.f139, _, Tryz.func139, rfl, rfl, rfl, rfl, by kernel_rfl⟩

theorem ev_k151 (l : List Rn) (hl : l.length ≤ 1000000000) : Ev (En Tryz.prog rfl).P 151 [.sl 2 (q0f l)] (.ret (.sl 2 (q0f l))) := by
 refine Ev.of_body it_k151 (by simp) (Run.start ?_)
 unfold t_k151
 cases l with
 | nil =>
  have e0 : q0f [] = [] := rfl
  rw [e0]
  (focus (have hF := True.intro; (repeat' (first | refine go0 (k:=?_) | fail)); all_goals clear hF))
  refine q2e (Hook.nil_eq (En Tryz.prog rfl).hT (sz := 2) TE_173 (by simp only [opS, opA, ev, cst, upd, evs, evp, q41, qfh, NoM, qcs, z2p, En_P, Option.getD, Option.map_some, Option.map_none, List.map_cons, List.map_nil, List.getElem?_cons_zero, List.getElem?_cons_succ, List.getElem?_nil, List.all_cons, List.all_nil, List.length_cons, List.length_nil, List.take_succ_cons, List.take_zero, List.drop_succ_cons, List.drop_zero, List.set_cons_zero, List.set_cons_succ, List.cons_append, List.nil_append, List.append_nil, List.toList_toArray, q7e, boxA, qa6, q66, q45, q8p, qd2, q1o, q8k, qe5, q8o, qbs, q4s, z2v, q8y, q84, strA, qo4, z1p, nilP, nilF, qnn, unA, qg1, lenA, q2o, mmA, q5x, q2g, q5u, qme, q1l, setP, q22, TyI.zeros, TyI.zeroElem, TyI.okElem, TD.isAgg, Value.cells, AVal.known, AVal.cells, AVal.one, AVal.plain, q0m, AVal.withCells, reduceCtorEq, ↓reduceIte, if_true, if_false, Bool.false_eq_true, false_implies, true_implies, implies_true, true_and, and_true, and_self, ne_eq, not_true, not_false_iff, Bool.and_true, Bool.true_and, Bool.and_false, Bool.false_and, Bool.or_true, Bool.true_or, Bool.or_false, Bool.false_or, Bool.not_true, Bool.not_false, beq_self_eq_true, Nat.reduceAdd, Nat.reduceMul, Nat.reduceLeDiff, Nat.reduceEqDiff, Nat.reduceBEq, Nat.mul_one, Nat.le_refl, Nat.zero_add, Nat.add_zero, Option.isSome_some, decide_true, decide_false, qbt, qf5, List.replicate_succ, List.replicate_zero, List.flatMap_cons, List.flatMap_nil, flat, tms, mms, Array.size_empty, dchk, qmg, q6c, Op.operands, AVal.at, AVal.atR, q40, q7q, qaa, Option.map_some, List.contains_cons, List.contains_nil, List.isEmpty_nil, List.isEmpty_cons, Int.toNat_natCast, Int.natCast_nonneg, Int.reduceLE, Int.reduceLT, Int.reduceToNat, Nat.reduceLT, Nat.reduceSub, Int.reduceNeg, Int.reduceEq])) ?_
  rintro v M' ⟨rfl, b, rfl⟩
  dsimp only [AS.put]
  (focus (have hF := True.intro; (repeat' (first | refine go0 (k:=?_) | fail)); all_goals clear hF))
  refine Run.cond _ rfl (fun hc => ?_) (fun hc => ?_)
  ·(focus (have hF := True.intro; (repeat' (first | refine go0 (k:=?_) | fail)); all_goals clear hF))
   exact Fin.nil rfl
  ·(focus (have hF := True.intro; (repeat' (first | refine go0 (k:=?_) | fail)); all_goals clear hF))
   exact Fin.tmp' rfl rfl
 | cons x l =>
  have e1 : q0f (x :: l) = q6w x :: q0f l := rfl
  have e2 : (q0f l).length = l.length := q33 l
  have e3 : ((l.length + 1) * 16 ≤ 70368744177664) = True := by simp only [eq_iff_iff, iff_true]; simp at hl; omega
  have e4 : (l.length + 1 ≤ 4611686018427387904) = True := by simp only [eq_iff_iff, iff_true]; simp at hl; omega
  rw [e1]
  (focus (have hF := (aI @e2 (aI @e3 @e4)); (repeat' (first | refine go0 (k:=?_) | fail)); all_goals clear hF))
  exact Fin.tmp' rfl (q09 (x :: l))
def encI (n : Int) : AVal := .int .i64 n
def q03 (l : List Int) : List AVal := l.map encI
theorem q01 (l : List Int) : q0i (q03 l) = true := q3g fun _ => rfl
theorem q0d (l : List Int) : (q03 l).length = l.length := by simp [q03]
theorem ev_k139 (l : List Int) (hl : l.length ≤ 1000000000) : Ev (En Tryz.prog rfl).P 139 [.sl 1 (q03 l)] (.ret (.sl 1 (q03 l))) := by
 refine Ev.of_body it_k139 (by simp) (Run.start ?_)
 unfold t_k139
 cases l with
 | nil =>
  have e0 : q03 [] = [] := rfl
  rw [e0]
  (focus (have hF := True.intro; (repeat' (first | refine go0 (k:=?_) | fail)); all_goals clear hF))
  refine q2e (Hook.nil_eq (En Tryz.prog rfl).hT (sz := 1) TE_22 (by simp only [opS, opA, ev, cst, upd, evs, evp, q41, qfh, NoM, qcs, z2p, En_P, Option.getD, Option.map_some, Option.map_none, List.map_cons, List.map_nil, List.getElem?_cons_zero, List.getElem?_cons_succ, List.getElem?_nil, List.all_cons, List.all_nil, List.length_cons, List.length_nil, List.take_succ_cons, List.take_zero, List.drop_succ_cons, List.drop_zero, List.set_cons_zero, List.set_cons_succ, List.cons_append, List.nil_append, List.append_nil, List.toList_toArray, q7e, boxA, qa6, q66, q45, q8p, qd2, q1o, q8k, qe5, q8o, qbs, q4s, z2v, q8y, q84, strA, qo4, z1p, nilP, nilF, qnn, unA, qg1, lenA, q2o, mmA, q5x, q2g, q5u, qme, q1l, setP, q22, TyI.zeros, TyI.zeroElem, TyI.okElem, TD.isAgg, Value.cells, AVal.known, AVal.cells, AVal.one, AVal.plain, q0m, AVal.withCells, reduceCtorEq, ↓reduceIte, if_true, if_false, Bool.false_eq_true, false_implies, true_implies, implies_true, true_and, and_true, and_self, ne_eq, not_true, not_false_iff, Bool.and_true, Bool.true_and, Bool.and_false, Bool.false_and, Bool.or_true, Bool.true_or, Bool.or_false, Bool.false_or, Bool.not_true, Bool.not_false, beq_self_eq_true, Nat.reduceAdd, Nat.reduceMul, Nat.reduceLeDiff, Nat.reduceEqDiff, Nat.reduceBEq, Nat.mul_one, Nat.le_refl, Nat.zero_add, Nat.add_zero, Option.isSome_some, decide_true, decide_false, qbt, qf5, List.replicate_succ, List.replicate_zero, List.flatMap_cons, List.flatMap_nil, flat, tms, mms, Array.size_empty, dchk, qmg, q6c, Op.operands, AVal.at, AVal.atR, q40, q7q, qaa, Option.map_some, List.contains_cons, List.contains_nil, List.isEmpty_nil, List.isEmpty_cons, Int.toNat_natCast, Int.natCast_nonneg, Int.reduceLE, Int.reduceLT, Int.reduceToNat, Nat.reduceLT, Nat.reduceSub, Int.reduceNeg, Int.reduceEq])) ?_
  rintro v M' ⟨rfl, b, rfl⟩
  dsimp only [AS.put]
  (focus (have hF := True.intro; (repeat' (first | refine go0 (k:=?_) | fail)); all_goals clear hF))
  refine Run.cond _ rfl (fun hc => ?_) (fun hc => ?_)
  ·(focus (have hF := True.intro; (repeat' (first | refine go0 (k:=?_) | fail)); all_goals clear hF))
   exact Fin.nil rfl
  ·(focus (have hF := True.intro; (repeat' (first | refine go0 (k:=?_) | fail)); all_goals clear hF))
   exact Fin.tmp' rfl rfl
 | cons x l =>
  have e1 : q03 (x :: l) = encI x :: q03 l := rfl
  have e2 : (q03 l).length = l.length := q0d l
  have e3 : ((l.length + 1) * 8 ≤ 70368744177664) = True := by simp only [eq_iff_iff, iff_true]; simp at hl; omega
  have e4 : (l.length + 1 ≤ 4611686018427387904) = True := by simp only [eq_iff_iff, iff_true]; simp at hl; omega
  rw [e1]
  (focus (have hF := (aI @e2 (aI @e3 @e4)); (repeat' (first | refine go0 (k:=?_) | fail)); all_goals clear hF))
  exact Fin.tmp' rfl (q01 (x :: l))

theorem q8q {l : List Rn} {i : Nat} {r : Rn} (h : l[i]? = some r) : (q0f l)[i]? = some (q6w r) := by simp [q0f, h]
theorem q3d {α β : Type} (f : β → α → β) (a : β) (l : List α) {i : Nat} {x : α} (h : l[i]? = some x) : (l.take (i + 1)).foldl f a = f ((l.take i).foldl f a) x := by
 rw [List.take_add_one, h]
 simp

def qy9 : List SOp := [zO 2 (.assign (.const (.pointer none)))]
instance : Live qy9 := ⟨[0]⟩
def qy8 : List SOp := [zO 9 (.build 175 #[]),zO 10 (.box 175 (.tmp 9)),zG 3 10]
instance : Live qy8 := ⟨[0]⟩
def qy7 : List SOp := [zM 11 0,zO 12 (.call ⟨.builtin .len,#[.tmp 11],#[128]⟩),zO 13 (.move (.const (.int .i64 0)))]
instance : Live qy7 := ⟨[0,3]⟩
def qy6 : List SOp := [zO 14 (.binOp .lss 3 (.tmp 13) (.tmp 12) 3)]
instance : Live qy6 := ⟨[3,11,12,13]⟩
def qy5 : List SOp := [zI 15 128 11 13,zL 16 25 15,zO 5 (.alloc 25),⟨none,.store 25 (.tmp 5) (.tmp 16),none⟩]
instance : Live qy5 := ⟨[3,11,12,13]⟩
def qy4 : List SOp := [zF 17 25 5 0,zL 18 22 17,zO 19 (.call ⟨.builtin .len,#[.tmp 18],#[22]⟩),zO 20 (.call ⟨.builtin .min,#[.tmp 19,.const (.int .i64 16)],#[3,3]⟩),zO 21 (.move (.const (.int .i64 0)))]
instance : Live qy4 := ⟨[3,5,11,12,13]⟩
def qy3 : List SOp := [zO 22 (.binOp .lss 3 (.tmp 21) (.tmp 20) 3)]
instance : Live qy3 := ⟨[3,5,11,12,13,20,21]⟩
def qy2 : List SOp := [zM 23 21,zG 6 23]
instance : Live qy2 := ⟨[3,5,11,12,13,20,21]⟩
def qf3 : List SOp := [zM 24 3,zM 25 6,zM 26 3,zM 27 6,zO 28 (.nilCheck (.tmp 26)),zI 29 175 28 27,zL 30 173 29,zF 31 25 5 0,zL 32 22 31,zM 33 6,zI 34 22 32 33,zL 35 3 34,zO 36 (.build 177 #[(0,.const (.int .i64 1)),(1,.tmp 35)]),zO 37 (.buildSlice 173 1 #[(0,.tmp 36)]),zO 38 (.call ⟨.builtin .append,#[.tmp 30,.tmp 37],#[173,173]⟩),zO 39 (.nilCheck (.tmp 24)),zI 40 175 39 25,⟨none,.store 173 (.tmp 40) (.tmp 38),none⟩]
instance : Live qf3 := ⟨[3,5,6,11,12,13,20,21]⟩
instance : Rd qf3 := ⟨fun j => j == 5⟩
def qjk : List SOp := [zO 41 (.binOp .add 3 (.tmp 21) (.const (.int .i64 1)) 3),zM 21 41]
instance : Live qjk := ⟨[3,5,11,12,13,20,21]⟩
def qjj : List SOp := [zF 42 25 5 1,zL 43 23 42,zO 44 (.call ⟨.builtin .len,#[.tmp 43],#[23]⟩),zO 45 (.move (.const (.int .i64 0)))]
instance : Live qjj := ⟨[3,5,11,12,13]⟩
def qji : List SOp := [zO 46 (.binOp .lss 3 (.tmp 45) (.tmp 44) 3)]
instance : Live qji := ⟨[3,11,12,13,43,44,45]⟩
def qjh : List SOp := [zI 47 23 43 45,zL 48 82 47,zO 8 (.alloc 82),⟨none,.store 82 (.tmp 8) (.tmp 48),none⟩]
instance : Live qjh := ⟨[3,11,12,13,43,44,45]⟩
def qjg : List SOp := [zF 49 82 8 0,zL 50 3 49,zO 51 (.binOp .geq 3 (.tmp 50) (.const (.int .i64 0)) 3),zM 52 51,⟨some 53,.fieldAddr 82 (.tmp 8) 0,some ((some 52),true)⟩,⟨some 54,.load 3 (.tmp 53),some ((some 52),true)⟩,⟨some 55,.binOp .lss 3 (.tmp 54) (.const (.int .i64 16)) 3,some ((some 52),true)⟩,zO 56 (.pick (.tmp 52) (.tmp 55) (.const (.bool false)))]
instance : Live qjg := ⟨[3,8,11,12,13,43,44,45]⟩
def qbm : List SOp := [zM 57 3,zF 58 82 8 0,zL 59 3 58,zM 60 3,zF 61 82 8 0,zL 62 3 61,zO 63 (.nilCheck (.tmp 60)),zI 64 175 63 62,zL 65 173 64,zF 66 82 8 1,zL 67 3 66,zF 68 82 8 2,zL 69 3 68,zO 70 (.build 177 #[(0,.tmp 67),(1,.tmp 69)]),zO 71 (.buildSlice 173 1 #[(0,.tmp 70)]),zO 72 (.call ⟨.builtin .append,#[.tmp 65,.tmp 71],#[173,173]⟩),zO 73 (.nilCheck (.tmp 57)),zI 74 175 73 59,⟨none,.store 173 (.tmp 74) (.tmp 72),none⟩]
instance : Live qbm := ⟨[3,8,11,12,13,43,44,45]⟩
instance : Rd qbm := ⟨fun j => j == 8⟩
def qjf : List SOp := [zO 75 (.binOp .add 3 (.tmp 45) (.const (.int .i64 1)) 3),zM 45 75]
instance : Live qjf := ⟨[3,11,12,13,43,44,45]⟩
def qje : List SOp := [zO 76 (.binOp .add 3 (.tmp 13) (.const (.int .i64 1)) 3),zM 13 76]
instance : Live qje := ⟨[3,11,12,13]⟩
def qjd : List SOp := [zM 77 3,zG 2 77]
instance : Live qjd := ⟨[3]⟩
def q7z : SC :=
 (.seq (.ops false qy3) (.seq (.cond (.tmp 22) .skip (.exit 2)) (.seq (.block 3 (.seq (.ops false qy2) (.opsW [30] qf3))) (.ops false qjk))))
def q7y : SC :=
 (.seq (.ops false qji) (.seq (.cond (.tmp 46) .skip (.exit 4)) (.seq (.block 5 (.seq (.ops false qjh) (.seq (.ops false qjg) (.cond (.tmp 56) (.opsW [65] qbm) .skip)))) (.ops false qjf))))
def qb9 : SC :=
 (.seq (.ops false qy6) (.seq (.cond (.tmp 14) .skip (.exit 0)) (.seq (.block 1 (.seq (.ops false qy5) (.seq (.seq (.ops false qy4) (.block 2 (.loop q7z))) (.seq (.ops false qjj) (.block 4 (.loop q7y)))))) (.ops false qje))))
def t_k121 : SC :=
 (.seq (.ops false qy9) (.seq (.ops false qy8) (.seq (.seq (.ops false qy7) (.block 0 (.loop qb9))) (.seq (.ops false qjd) .ret))))
theorem it_k121 : FnIs Tryz.prog 121 78 [.tmp 2] t_k121 := ⟨Tryz.f121, _, Tryz.func121, rfl, rfl, rfl, rfl, by kernel_rfl⟩

abbrev Sn := Int × Int × Int
def encS (s : Sn) : AVal := .agg [.int .i64 s.1, .int .i64 s.2.1, .int .i64 s.2.2]
def q0g (l : List Sn) : List AVal := l.map encS
theorem q02 (l : List Sn) : q0i (q0g l) = true := q3g fun _ => rfl
theorem q14 (l : List Sn) : (q0g l).length = l.length := by simp [q0g]
theorem q21 {l : List Sn} {i : Nat} {r : Sn} (h : l[i]? = some r) : (q0g l)[i]? = some (encS r) := by simp [q0g, h]
theorem q0r {l : List Int} {i : Nat} {r : Int} (h : l[i]? = some r) : (q03 l)[i]? = some (.int .i64 r) := by simp [q03, h, encI]
structure Pst where
 vec : List Int
 cloud : List Sn
def q10 (p : Pst) : AVal := .agg [.sl 1 (q03 p.vec), .sl 3 (q0g p.cloud)]
def q42 (l : List Pst) : List AVal := l.map q10
theorem q0c (p : Pst) : (q10 p).stb = true := by simp [q10, AVal.stb, q0i, q01, q02]
theorem q0k (l : List Pst) : q0i (q42 l) = true := q3g q0c
theorem qlg (l : List Pst) : (q42 l).length = l.length := by simp [q42]
theorem qlh {l : List Pst} {i : Nat} {r : Pst} (h : l[i]? = some r) : (q42 l)[i]? = some (q10 r) := by simp [q42, h]
abbrev Tab := List (List Rn)
def q7u (t : Tab) : List AVal := t.map fun l => .own 2 (q0f l)
theorem z0m (t : Tab) : (q7u t).length = t.length := by simp [q7u]
def q5v (t : Tab) (r : Nat) (x : Rn) : Tab := t.set r (t.getD r [] ++ [x])
theorem qcr (t : Tab) (r : Nat) (x : Rn) : (q5v t r x).length = t.length := by simp [q5v]
theorem z0n {t : Tab} {r : Nat} (h : r < t.length) : (q7u t)[r]? = some (.own 2 (q0f (t.getD r []))) := by
 simp [q7u, h]
theorem qle {t : Tab} {r : Nat} (h : r < t.length) : ((q7u t).set r .hole)[r]? = some .hole := by
 simp [q7u, h]
theorem z0o {t : Tab} {r : Nat} (h : r < t.length) (x : Rn) : ((q7u t).set r .hole).set r (.own 2 (q0f (t.getD r []) ++ [.agg [.int .i64 x.1, .int .i64 x.2]])) = q7u (q5v t r x) := by
 rw [List.set_set]
 simp [q7u, q5v, q0f, q6w, List.map_set]
theorem q4w (K : Nat → Bool) (t : Tab) : (ABlk.cells (q7u t)).no K = true := by
 simp only [ABlk.no, List.all_eq_true]
 intro x hx
 obtain ⟨l, _, rfl⟩ := List.mem_map.1 hx
 simp only [AVal.noC, List.all_eq_true]
 intro y hy
 exact q27 (q2j (q09 l) y hy)
def q2b (v : List Int) (i : Nat) : Int := v.getD i 0
def q2t (v : List Int) (t : Tab) (i : Nat) : Tab := q5v t i (1, q2b v i)
def q59 (v : List Int) (t : Tab) : Tab := (List.range (min v.length 16)).foldl (q2t v) t
def putSn (t : Tab) (s : Sn) : Tab := if 0 ≤ s.1 ∧ s.1 < 16 then q5v t s.1.toNat s.2 else t
def q3j (c : List Sn) (t : Tab) : Tab := c.foldl putSn t
def q1t (t : Tab) (p : Pst) : Tab := q3j p.cloud (q59 p.vec t)
def qa3 : Tab := List.replicate 16 []
def q25 (ps : List Pst) : Tab := ps.foldl q1t qa3
def TabLe (t : Tab) (n : Nat) : Prop := t.length = 16 ∧ ∀ r, (t.getD r []).length ≤ n
theorem TabLe.add {t : Tab} {n : Nat} (h : TabLe t n) (r : Nat) (x : Rn) : TabLe (q5v t r x) (n + 1) := by
 refine ⟨by rw [qcr, h.1], fun q => ?_⟩
 unfold q5v
 rw [List.getD_eq_getElem?_getD, List.getElem?_set]
 split
 ·split
  ·simp; exact h.2 r
  ·simp
 ·have := h.2 q
  rw [List.getD_eq_getElem?_getD] at this
  omega
theorem TabLe.mono {t : Tab} {n m : Nat} (h : TabLe t n) (hm : n ≤ m) : TabLe t m := ⟨h.1, fun r => Nat.le_trans (h.2 r) hm⟩
theorem TabLe.range {v : List Int} {t : Tab} {n : Nat} (h : TabLe t n) : ∀ i, TabLe ((List.range i).foldl (q2t v) t) (n + i)
 | 0 => h
 | i + 1 => by
  rw [List.range_succ, List.foldl_append]
  exact (TabLe.range h i).add i _
theorem TabLe.putSn {t : Tab} {n : Nat} (h : TabLe t n) (s : Sn) : TabLe (putSn t s) (n + 1) := by
 unfold Avm.putSn
 split
 ·exact h.add _ _
 ·exact h.mono (by omega)
theorem TabLe.cloud {t : Tab} {n : Nat} (h : TabLe t n) : ∀ c : List Sn, TabLe (c.foldl Avm.putSn t) (n + c.length)
 | [] => h
 | s :: c => by
  have := TabLe.cloud (h.putSn s) c
  simp only [List.foldl_cons, List.length_cons]
  exact this.mono (by omega)
def wt (p : Pst) : Nat := p.vec.length + p.cloud.length
theorem TabLe.one {t : Tab} {n : Nat} (h : TabLe t n) (p : Pst) : TabLe (q1t t p) (n + wt p) := by
 have := ((TabLe.range (v := p.vec) h (min p.vec.length 16))).cloud p.cloud
 exact this.mono (by unfold wt; omega)
theorem TabLe.all {t : Tab} {n : Nat} (h : TabLe t n) : ∀ ps : List Pst, TabLe (ps.foldl q1t t) (n + (ps.map wt).sum)
 | [] => h
 | p :: ps => by
  have := TabLe.all (h.one p) ps
  simp only [List.foldl_cons, List.map_cons, List.sum_cons]
  exact this.mono (by omega)
theorem qmp : TabLe qa3 0 := ⟨rfl, fun r => by
 unfold qa3
 rw [List.getD_eq_getElem?_getD, List.getElem?_replicate]
 split <;> simp⟩
theorem qb6 {l : List Nat} (i : Nat) : (l.take i).sum ≤ l.sum := by
 induction l generalizing i with
 | nil => simp
 | cons x l ih => cases i with
  | zero => simp
  | succ i => simp only [List.take_succ_cons, List.sum_cons]; have := ih i; omega

section
instance encByte : Enc UInt8 := ⟨fun b => .int .u8 b.toNat, fun _ => rfl⟩
abbrev Bs := List UInt8
def rdC (bs : Bs) (p e : Nat) : List AVal := [.sl 1 (q1k bs), .int .i64 (p : Int), .bool true, .int .i64 (e : Int)]
theorem q2f (bs : Bs) (p e : Nat) : (rdC bs p e).all q0j = true := by
 simp [rdC, q0j, AVal.stb, q0e]
def gup : AVal := .iface 165 (.agg [.ptr 900000 0])
abbrev Rs (α : Type) := Except (Nat × Nat) (α × Nat)
def Rs.map {α β : Type} (f : α → β) : Rs α → Rs β
 | .ok (x, a) => .ok (f x, a)
 | .error e => .error e
def KRd : Nat → Bool := fun j => !(j == 900000)
def nt (v : Value) : ABlk := .note (.ptr 900000 0) v
def EvR (P : Program) (f : FuncId) (args : List AVal) (bs : Bs) (p : Nat) (r : Rs AVal) : Prop :=
 match r with
 | .ok (v, a) => v.stb = true ∧ EvM P f (.ptr 900000 0 :: args) [(900000, rdC bs p 0)] (.ret v) [(900000, rdC bs a 0)]
 | .error (e, a) => EvM P f (.ptr 900000 0 :: args) [(900000, rdC bs p 0)] (.pan gup) [(900000, rdC bs a e)]
def FnRd (TE : TyE) (rs : List ResultVar) (bs : Bs) (r : Rs AVal) (v : Value) : Ex → AS → Prop
 | .normal, s => ∃ x a, r = .ok (x, a) ∧ (∃ xs, q1n KRd TE s rs = some xs ∧ q0i xs = true ∧ ∃ ys, qeg xs ys ∧ x = q75 ys) ∧ s.M 900000 = some (.cells (rdC bs a 0)) ∧ s.M 1900000 = some (nt v)
 | .ret, s => ∃ x a, r = .ok (x, a) ∧ (∃ xs, q1n KRd TE s rs = some xs ∧ q0i xs = true ∧ ∃ ys, qeg xs ys ∧ x = q75 ys) ∧ s.M 900000 = some (.cells (rdC bs a 0)) ∧ s.M 1900000 = some (nt v)
 | .pan x, s => ∃ e a, r = .error (e, a) ∧ x = gup ∧ s.M 900000 = some (.cells (rdC bs a e)) ∧ s.M 1900000 = some (nt v)
 | .exit _, _ => False
theorem q31 {p : Nat} {cs : List AVal} : lin [(p, cs)] = fun j => j == p := by
 funext j
 cases hl : lin [(p, cs)] j with
 | true => simp [q30.1 hl]
 | false =>
  cases hq : j == p with
  | false => rfl
  | true => rw [q30.2 (beq_iff_eq.1 hq)] at hl; cases hl
theorem EvR.of_body {E : Env} {f : FuncId} {n : Nat} {rs : List ResultVar} {sc : SC} (hf : FnIs E.P f n rs sc) {args : List AVal} {bs : Bs} {p : Nat} {r : Rs AVal} (hl : args.length + 1 ≤ n) (hst : ∀ v a, r = .ok (v, a) → v.stb = true)
 (h : ∀ v, AW E n sc (FnRd E.TE rs bs r v) ⟨q41 (.ptr 900000 0 :: args), mms [(900000, .cells (rdC bs p 0)), (1900000, nt v)]⟩) : EvR E.P f args bs p r := by
 have hd : ∀ {a b : List AVal} (k : Nat), lin [(900000, a)] k = lin [(900000, b)] k := fun {a b} k => by rw [q31, q31]
 have hc : ∀ a e, ∀ q ∈ [((900000 : Nat), rdC bs a e)], ∀ x ∈ q.2, q0j x = true := fun a e q hq x hx => by
  rw [List.mem_singleton.1 hq] at hx; exact List.all_eq_true.1 (q2f bs a e) x hx
 cases r with
 | ok q =>
  obtain ⟨v, a⟩ := q
  refine ⟨hst v a rfl, EvM.of_body hf (by simpa using hl) hd (fun q hq => by rw [List.mem_singleton.1 hq]; exact (by decide : 900000 < q53)) (hc a 0) fun β => ?_⟩
  refine AW.mono (h (q38 (β 900000))) fun e s hq => ?_
  have fin : ∀ s : AS, s.M 900000 = some (.cells (rdC bs a 0)) → s.M 1900000 = some (nt (q38 (β 900000))) → FinM [(900000, rdC bs p 0)] [(900000, rdC bs a 0)] β s := fun s h1 h2 =>
   ⟨fun q hq => by rw [List.mem_singleton.1 hq]; exact h1, fun q hq => ⟨1900000, by rw [List.mem_singleton.1 hq]; exact h2⟩⟩
  cases e with
  | normal =>
   obtain ⟨x, b, hr, ⟨xs, q1, q2, ys, q3, q4⟩, q5, q6⟩ := hq
   cases hr
   exact ⟨xs, by rw [q31]; exact q1, q2, ⟨ys, q3, by rw [q4]⟩, fin s q5 q6⟩
  | ret =>
   obtain ⟨x, b, hr, ⟨xs, q1, q2, ys, q3, q4⟩, q5, q6⟩ := hq
   cases hr
   exact ⟨xs, by rw [q31]; exact q1, q2, ⟨ys, q3, by rw [q4]⟩, fin s q5 q6⟩
  | exit _ => exact hq.elim
  | pan x =>
   obtain ⟨e, b, hr, _⟩ := hq
   cases hr
 | error q =>
  obtain ⟨e0, a⟩ := q
  show EvM E.P f (.ptr 900000 0 :: args) [(900000, rdC bs p 0)] (.pan gup) [(900000, rdC bs a e0)]
  refine EvM.of_body (args := .ptr 900000 0 :: args) (m := [(900000, rdC bs p 0)]) hf (by simpa using hl) hd (fun q hq => by rw [List.mem_singleton.1 hq]; exact (by decide : 900000 < q53)) (hc a e0) fun β => ?_
  refine AW.mono (h (q38 (β 900000))) fun e s hq => ?_
  cases e with
  | normal =>
   obtain ⟨x, b, hr, _⟩ := hq
   cases hr
  | ret =>
   obtain ⟨x, b, hr, _⟩ := hq
   cases hr
  | exit _ => exact hq.elim
  | pan x =>
   obtain ⟨e, b, hr, rfl, h1, h2⟩ := hq
   cases hr
   exact ⟨by rw [q31]; rfl, rfl, fun q hq => by rw [List.mem_singleton.1 hq]; exact h1, fun q hq => ⟨1900000, by rw [List.mem_singleton.1 hq]; exact h2⟩⟩
section
variable {E : Env} {n : Nat} {Q : Ex → AS → Prop} {k : Kont} {s : AS} {v : AVal} {σ : Type} {S : σ → AS} {ok : σ → Prop}
theorem KQ.pan (h : Q (.pan v) s) : KQ E n Q k (.pan v) s := by
 induction k with
 | done => exact h
 | seq y k ih => exact ih
 | block id k ih => exact ih
theorem LoopW.pan (h : Q (.pan v) s) : LoopW n S ok Q (.pan v) s := h
end
section
variable {E : Env} {n : Nat} {Q : Ex → AS → Prop} {k : Kont} {r : List SOp} {T : q12} {M : Mem} {dst : Option Tmp} {x : Operand} {args : Array Operand} {ts : Array TypeId} {f : FuncId} {caps args' : List AVal} {bs : Bs} {p : Nat} {rr : Rs AVal}
theorem awp_rd (hf : ev T x = .fn f caps) (hl : evs T args.toList ++ caps = .ptr 900000 0 :: args') (hM : M 900000 = some (.cells (rdC bs p 0))) (hs : q0i args' = true) (he : EvR E.P f args' bs p rr)
 (kok : ∀ v a, rr = .ok (v, a) → q06 E false none Q r (AS.put ⟨T, upd M 900000 (some (.cells (rdC bs a 0)))⟩ dst v))
 (kerr : ∀ e a, rr = .error (e, a) → ∀ s' : AS, s'.M 900000 = some (.cells (rdC bs a e)) → s'.M 1900000 = M 1900000 → Q (.pan gup) s') : q06 E false none Q (⟨dst, .call ⟨.value x, args, ts⟩, none⟩ :: r) ⟨T, M⟩ := by
 have hk : q7t (fun j => j == 900000) (AVal.ptr 900000 0 :: args') = true := by
  simp [q7t, AVal.kin, (q1u (ρ := fun k => k) args' hs).2]
 have hr : q79 (fun _ => 900000) (AVal.ptr 900000 0 :: args') = .ptr 900000 0 :: args' := by
  simp [q79, AVal.ren, (q1u (ρ := fun _ => 900000) args' hs).1]
 cases rr with
 | ok q =>
  obtain ⟨v, a⟩ := q
  exact q5t 900000 900000 hf hl hM hk hr (q2f bs p 0) (q2f bs a 0) he.1 he.2 (kok v a rfl)
 | error q =>
  obtain ⟨e, a⟩ := q
  exact q8v 900000 900000 hf hl hM hk hr (q2f bs p 0) (q2f bs a e) (v := gup) rfl he (kerr e a rfl ⟨T, upd M 900000 (some (.cells (rdC bs a e)))⟩ (q00 M 900000 _) (q0h M (some (.cells (rdC bs a e))) (by decide : (1900000 : Nat) ≠ 900000)))
theorem awp_rdW {ws : List Nat} {Kk : Nat → Bool} (hf : ev T x = .fn f caps) (hl : evs T args.toList ++ caps = .ptr 900000 0 :: args') (hM : M 900000 = some (.cells (rdC bs p 0))) (hs : q0i args' = true) (hc : qaa ws dst (.call ⟨.value x, args, ts⟩) = .m) (hK : Kk 900000 = false) (he : EvR E.P f args' bs p rr)
 (kok : ∀ v a, rr = .ok (v, a) → q06 E true (some (ws, Kk)) Q r (AS.put ⟨T, upd M 900000 (some (.cells (rdC bs a 0)))⟩ dst v))
 (kerr : ∀ e a, rr = .error (e, a) → ∀ s' : AS, s'.M 900000 = some (.cells (rdC bs a e)) → s'.M 1900000 = M 1900000 → Q (.pan gup) s') : q06 E true (some (ws, Kk)) Q (⟨dst, .call ⟨.value x, args, ts⟩, none⟩ :: r) ⟨T, M⟩ := by
 have hk : q7t (fun j => j == 900000) (evs T args.toList ++ caps) = true := by
  rw [hl]
  simp [q7t, AVal.kin, (q1u (ρ := fun k => k) args' hs).2]
 have hr : q79 (fun _ => 900000) (evs T args.toList ++ caps) = .ptr 900000 0 :: args' := by
  rw [hl]
  simp [q79, AVal.ren, (q1u (ρ := fun _ => 900000) args' hs).1]
 have hst : ∀ a e, ∀ q ∈ [((900000 : Nat), rdC bs a e)], ∀ x ∈ q.2, q0j x = true := fun a e q hq x hx => by
  rw [List.mem_singleton.1 hq] at hx; exact List.all_eq_true.1 (q2f bs a e) x hx
 have hL : ∀ j, (j == 900000) = true → q5s j = true ∧ Kk j = false := fun j hj => by
  have := beq_iff_eq.1 hj
  subst this
  exact ⟨rfl, hK⟩
 have hm : ∀ (k : Nat) (cs : List AVal), q3v [(900000, rdC bs p 0)] k = some (.cells cs) → M 900000 = some (.cells cs) := fun k cs hk => by
  rw [q5j] at hk
  split at hk
  ·cases hk; exact hM
  ·cases hk
 have key : ∀ (out out0 : Out) (a e : Nat), (match out0 with | .ret y => y.kin (lin [(900000, rdC bs p 0)]) = true ∧ out = .ret (y.ren fun _ => 900000) | .pan y => y.kin (lin [(900000, rdC bs p 0)]) = true ∧ out = .pan (y.ren fun _ => 900000)) →
  EvM E.P f (.ptr 900000 0 :: args') [(900000, rdC bs p 0)] out0 [(900000, rdC bs a e)] →
  CallsM E.P ⟨T, M⟩ (.call ⟨.value x, args, ts⟩) (fun j => j == 900000) out (upd M 900000 (some (.cells (rdC bs a e)))) := fun out out0 a e ho he =>
  ⟨x, args, ts, f, caps, [(900000, rdC bs p 0)], [(900000, rdC bs a e)], fun _ => 900000, fun _ => 900000, out0, rfl, hf, fun j hj => ⟨q30.2 rfl, (beq_iff_eq.1 hj).symm⟩, fun j hj => ⟨rfl, (q30.1 hj).symm⟩, hm, hst p 0, hst a e, hk, by rw [hr]; exact he, by rw [q4y], ho⟩
 cases rr with
 | ok q =>
  obtain ⟨v, a⟩ := q
  obtain ⟨r1, r2⟩ := AVal.stb_ren (ρ := fun _ => 900000) v he.1
  exact .inr (.inr (.inr ⟨ws, Kk, fun j => j == 900000, .ret v, _, rfl, hc, hL, key (.ret v) (.ret v) a 0 ⟨r2 _, by rw [r1]⟩ he.2, kok v a rfl⟩))
 | error q =>
  obtain ⟨e, a⟩ := q
  refine .inr (.inr (.inr ⟨ws, Kk, fun j => j == 900000, .pan gup, _, rfl, hc, hL, key (.pan gup) (.pan gup) a e ⟨by rw [q31]; rfl, rfl⟩ he, fun s' hs' => kerr e a rfl s' ?_ ?_⟩))
  ·rw [hs' 900000 rfl, q00]
  ·rw [hs' 1900000 rfl, q0h _ _ (by decide)]
end
section
variable {E : Env} {n : Nat} {Q : Ex → AS → Prop} {k : Kont} {r : List SOp} {T : q12} {M : Mem} {t : Tmp} {x : Operand} {args : Array Operand} {ts : Array TypeId} {f : FuncId} {caps : List AVal} {bs : Bs} {p : Nat} {rr : Rs AVal}
theorem q78 (args' : List AVal) (hf : ev T x = .fn f caps := by with_unfolding_all rfl) (hl : evs T args.toList ++ caps = .ptr 900000 0 :: args' := by with_unfolding_all rfl) (hM : M 900000 = some (.cells (rdC bs p 0)) := by with_unfolding_all rfl)
 (hs : q0i args' = true := by with_unfolding_all rfl) (he : EvR E.P f args' bs p rr)
 (kok : ∀ v a, rr = .ok (v, a) → q06 E false none Q r ⟨upd T t v, upd M 900000 (some (.cells (rdC bs a 0)))⟩)
 (kerr : ∀ e a, rr = .error (e, a) → ∀ s' : AS, s'.M 900000 = some (.cells (rdC bs a e)) → s'.M 1900000 = M 1900000 → Q (.pan gup) s') : q06 E false none Q (⟨some t, .call ⟨.value x, args, ts⟩, none⟩ :: r) ⟨T, M⟩ := awp_rd hf hl hM hs he kok kerr
theorem stRdW {ws : List Nat} {Kk : Nat → Bool} (args' : List AVal) (hf : ev T x = .fn f caps := by with_unfolding_all rfl) (hl : evs T args.toList ++ caps = .ptr 900000 0 :: args' := by with_unfolding_all rfl) (hM : M 900000 = some (.cells (rdC bs p 0)) := by with_unfolding_all rfl)
 (hs : q0i args' = true := by with_unfolding_all rfl) (hc : qaa ws (some t) (.call ⟨.value x, args, ts⟩) = .m := by with_unfolding_all rfl) (hK : Kk 900000 = false := by with_unfolding_all rfl) (he : EvR E.P f args' bs p rr)
 (kok : ∀ v a, rr = .ok (v, a) → q06 E true (some (ws, Kk)) Q r ⟨upd T t v, upd M 900000 (some (.cells (rdC bs a 0)))⟩)
 (kerr : ∀ e a, rr = .error (e, a) → ∀ s' : AS, s'.M 900000 = some (.cells (rdC bs a e)) → s'.M 1900000 = M 1900000 → Q (.pan gup) s') : q06 E true (some (ws, Kk)) Q (⟨some t, .call ⟨.value x, args, ts⟩, none⟩ :: r) ⟨T, M⟩ := awp_rdW hf hl hM hs hc hK he kok kerr
end
theorem q07 (bs : Bs) (p e : Nat) : rdC bs p e = [.sl 1 (q1k bs), .int .i64 (p : Int), .bool true, .int .i64 (e : Int)] := rfl
section
variable {E : Env} {n : Nat} {T : q12} {M : Mem} {t : Tmp} {bs : Bs} {r : Rs AVal} {v : Value} {rs : List ResultVar}
theorem FnRd.ret1 {y x : AVal} {a : Nat} (hr : r = .ok (x, a)) (h : fz KRd M (T t) = y := by with_unfolding_all rfl) (hs : y.stb = true := by with_unfolding_all rfl) (hsub : sub1 y x := by exact .inl rfl)
 (h1 : M 900000 = some (.cells (rdC bs a 0)) := by with_unfolding_all rfl) (h2 : M 1900000 = some (nt v) := by with_unfolding_all rfl) : Fin E n (FnRd E.TE [.tmp t] bs r v) .done .ret ⟨T, M⟩ :=
 ⟨x, a, hr, ⟨[y], by simp [q1n, q3a, h], by simp [q0i, hs], [x], ⟨hsub, trivial⟩, rfl⟩, h1, h2⟩
theorem FnRd.pan {e a : Nat} {s : AS} (hr : r = .error (e, a)) (h1 : s.M 900000 = some (.cells (rdC bs a e))) (h2 : s.M 1900000 = some (nt v)) : FnRd E.TE rs bs r v (.pan gup) s := ⟨e, a, hr, rfl, h1, h2⟩
end
theorem Rs.map_ok {α β : Type} {f : α → β} {r : Rs α} {v : β} {a : Nat} (h : r.map f = .ok (v, a)) : ∃ x, r = .ok (x, a) ∧ v = f x := by
 cases r with
 | ok q => obtain ⟨x, b⟩ := q; simp only [Rs.map, Except.ok.injEq, Prod.mk.injEq] at h; exact ⟨x, by rw [h.2], h.1.symm⟩
 | error q => cases h
theorem Rs.map_error {α β : Type} {f : α → β} {r : Rs α} {e : Nat × Nat} (h : r.map f = .error e) : r = .error e := by
 cases r with
 | ok q => cases h
 | error q => simp only [Rs.map, Except.error.injEq] at h; rw [h]
theorem stPanic {E : Env} {Q : Ex → AS → Prop} {r : List SOp} {T : q12} {M : Mem} {x : Operand} {t : TypeId} {v : AVal} (hx : ev T x = .iface t v := by with_unfolding_all rfl) (k : Q (.pan (.iface t v)) ⟨T, M⟩) :
 q06 E false none Q (⟨none, .panic x, none⟩ :: r) ⟨T, M⟩ := by
 refine .inl ?_
 simp only [stepM, hx]
 exact ⟨trivial, k⟩
end
def qwk : List SOp := [zO 4 (.assign (.const (.int .i64 0))),zO 5 (.assign (.const (.int .i64 0))),zO 6 (.assign (.const (.int .i64 0)))]
instance : Live qwk := ⟨[0,1]⟩
def qwj : List SOp := [zO 7 (.assign (.const (.int .i64 0)))]
instance : Live qwj := ⟨[0,1]⟩
def qwi : List SOp := [zO 10 (.move (.const (.int .i64 0)))]
instance : Live qwi := ⟨[0,1,7]⟩
def qwh : List SOp := [zO 11 (.binOp .lss 3 (.tmp 10) (.const (.int .i64 9)) 3)]
instance : Live qwh := ⟨[0,1,7,10]⟩
def qwg : List SOp := [zM 12 10,zG 8 12]
instance : Live qwg := ⟨[0,1,7,10]⟩
def qwf : List SOp := [zM 13 1,zM 14 8,zO 15 (.binOp .add 3 (.tmp 13) (.tmp 14) 3),zM 16 0,zO 17 (.call ⟨.builtin .len,#[.tmp 16],#[28]⟩),zO 18 (.binOp .geq 3 (.tmp 15) (.tmp 17) 3)]
instance : Live qwf := ⟨[0,1,7,8,10]⟩
def qwe : List SOp := [zO 4 (.assign (.const (.int .i64 0))),zO 5 (.assign (.const (.int .i64 0))),zO 6 (.assign (.const (.int .i64 50)))]
instance : Live qwe := ⟨[]⟩
def qwd : List SOp := [zM 19 0,zM 20 1,zM 21 8,zO 22 (.binOp .add 3 (.tmp 20) (.tmp 21) 3),zI 23 28 19 22,zL 24 5 23,zG 9 24]
instance : Live qwd := ⟨[0,1,7,8,10]⟩
def qwc : List SOp := [zM 25 7,zM 26 9,zO 27 (.binOp .and 5 (.tmp 26) (.const (.int .u8 127)) 5),zO 28 (.convert 5 3 (.tmp 27)),zM 29 8,zO 30 (.binOp .mul 3 (.const (.int .i64 7)) (.tmp 29) 3),zO 31 (.binOp .shl 3 (.tmp 28) (.tmp 30) 3),zO 32 (.binOp .or 3 (.tmp 25) (.tmp 31) 3),zG 7 32]
instance : Live qwc := ⟨[0,1,7,8,9,10]⟩
def qit : List SOp := [zM 33 9,zO 34 (.binOp .lss 5 (.tmp 33) (.const (.int .u8 128)) 5)]
instance : Live qit := ⟨[0,1,7,8,9,10]⟩
def qis : List SOp := [zM 35 9,zO 36 (.binOp .eql 5 (.tmp 35) (.const (.int .u8 0)) 5),zM 37 36,⟨some 38,.move (.tmp 8),some ((some 37),true)⟩,⟨some 39,.binOp .gtr 3 (.tmp 38) (.const (.int .i64 0)) 3,some ((some 37),true)⟩,zO 40 (.pick (.tmp 37) (.tmp 39) (.const (.bool false)))]
instance : Live qis := ⟨[1,7,8,9]⟩
def qir : List SOp := [zO 4 (.assign (.const (.int .i64 0))),zO 5 (.assign (.const (.int .i64 0))),zO 6 (.assign (.const (.int .i64 51)))]
instance : Live qir := ⟨[]⟩
def qiq : List SOp := [zM 41 7,zM 42 1,zM 43 8,zO 44 (.binOp .add 3 (.tmp 42) (.tmp 43) 3),zO 45 (.binOp .add 3 (.tmp 44) (.const (.int .i64 1)) 3),zG 4 41,zG 5 45,zO 6 (.assign (.const (.int .i64 0)))]
instance : Live qiq := ⟨[1,7,8]⟩
def qip : List SOp := [zO 46 (.binOp .add 3 (.tmp 10) (.const (.int .i64 1)) 3),zM 10 46]
instance : Live qip := ⟨[0,1,7,10]⟩
def qio : List SOp := [zO 4 (.assign (.const (.int .i64 0))),zO 5 (.assign (.const (.int .i64 0))),zO 6 (.assign (.const (.int .i64 51)))]
instance : Live qio := ⟨[]⟩
def qgx : SC :=
 (.seq (.ops false qwh) (.seq (.cond (.tmp 11) .skip (.exit 0)) (.seq (.block 1 (.seq (.ops false qwg) (.seq (.seq (.ops false qwf) (.cond (.tmp 18) (.seq (.ops false qwe) .ret) .skip)) (.seq (.ops false qwd) (.seq (.ops false qwc) (.seq (.ops false qit) (.cond (.tmp 34) (.seq (.seq (.ops false qis) (.cond (.tmp 40) (.seq (.ops false qir) .ret) .skip)) (.seq (.ops false qiq) .ret)) .skip))))))) (.ops false qip))))
def t_k132 : SC :=
 (.seq (.ops false qwk) (.seq (.ops false qwj) (.seq (.seq (.ops false qwi) (.block 0 (.loop qgx))) (.seq (.ops false qio) .ret))))
theorem it_k132 : FnIs Tryz.prog 132 47 [.tmp 4, .tmp 5, .tmp 6] t_k132 := ⟨Tryz.f132, _, Tryz.func132, rfl, rfl, rfl, rfl, by kernel_rfl⟩

def q7p (b : Bs) (p : Nat) : (k i n : Nat) → Nat × Nat × Nat
 | 0, _, _ => (0, 0, 51)
 | k + 1, i, n => match b[p + i]? with
  | none => (0, 0, 50)
  | some c => if c.toNat < 128 then (if c.toNat = 0 ∧ 0 < i then (0, 0, 51) else (n + c.toNat % 128 * 2 ^ (7 * i), p + i + 1, 0)) else q7p b p k (i + 1) (n + c.toNat % 128 * 2 ^ (7 * i))
theorem bit127 (c : UInt8) : z2k .and .u8 (c.toNat : Int) 127 = some (((c.toNat % 128 : Nat) : Int)) := by
 have hc := c.toNat_lt
 show some (IntKind.u8.wrap (((BitVec.ofInt 8 (c.toNat : Int) &&& BitVec.ofInt 8 127 : BitVec 8).toNat : Nat) : Int)) = _
 have e1 : BitVec.ofInt 8 (c.toNat : Int) = BitVec.ofNat 8 c.toNat := by simp
 have e2 : BitVec.ofInt 8 127 = BitVec.ofNat 8 127 := rfl
 rw [e1, e2]
 have e3 : (BitVec.ofNat 8 c.toNat &&& BitVec.ofNat 8 127).toNat = c.toNat % 128 := by
  rw [BitVec.toNat_and, BitVec.toNat_ofNat, BitVec.toNat_ofNat, Nat.mod_eq_of_lt (by omega)]
  exact Nat.and_two_pow_sub_one_eq_mod c.toNat 7
 rw [e3]
 have h2 : c.toNat % 128 < 128 := Nat.mod_lt _ (by decide)
 generalize c.toNat % 128 = m at h2
 simp only [IntKind.wrap, IntKind.bits, IntKind.signed]
 simp
 omega
theorem bitOr {n m i : Nat} (hn : n < 2 ^ (7 * i)) (hm : m < 128) (hi : i ≤ 8) : z2k .or .i64 (n : Int) ((m * 2 ^ (7 * i) : Nat) : Int) = some ((n + m * 2 ^ (7 * i) : Nat) : Int) ∧ n + m * 2 ^ (7 * i) < 2 ^ (7 * (i + 1)) := by
 have hp : 2 ^ (7 * i) ≤ 2 ^ 56 := Nat.pow_le_pow_right (by decide) (by omega)
 have hq : 2 ^ (7 * (i + 1)) = 128 * 2 ^ (7 * i) := by rw [Nat.mul_add, Nat.pow_add]; omega
 have hr : n + m * 2 ^ (7 * i) < 128 * 2 ^ (7 * i) := by
  have : m * 2 ^ (7 * i) ≤ 127 * 2 ^ (7 * i) := Nat.mul_le_mul_right _ (by omega)
  omega
 refine ⟨?_, by rw [hq]; exact hr⟩
 have hs : n + m * 2 ^ (7 * i) < 2 ^ 63 := by
  have : (128 : Nat) * 2 ^ 56 = 2 ^ 63 := by decide
  omega
 have hm2 : m * 2 ^ (7 * i) < 2 ^ 63 := by omega
 show some (IntKind.i64.wrap (((BitVec.ofInt 64 (n : Int) ||| BitVec.ofInt 64 ((m * 2 ^ (7 * i) : Nat) : Int) : BitVec 64).toNat : Nat) : Int)) = _
 have e3 : (BitVec.ofInt 64 (n : Int) ||| BitVec.ofInt 64 ((m * 2 ^ (7 * i) : Nat) : Int) : BitVec 64).toNat = n + m * 2 ^ (7 * i) := by
  rw [BitVec.ofInt_natCast, BitVec.ofInt_natCast, BitVec.toNat_or, BitVec.toNat_ofNat, BitVec.toNat_ofNat, Nat.mod_eq_of_lt (by omega), Nat.mod_eq_of_lt (by omega), Nat.or_comm, Nat.mul_comm m, Nat.add_comm, Nat.two_pow_add_eq_or_of_lt hn]
 rw [e3, q0b (by omega)]
theorem ev_k132 (b : Bs) (p : Nat) (hb : b.length ≤ 900000000000) (hp : p ≤ b.length) :
 Ev (En Tryz.prog rfl).P 132 [.sl 1 (q1k b), .int .i64 (p : Int)] (.ret (.tup [.int .i64 ((q7p b p 9 0 0).1 : Int), .int .i64 ((q7p b p 9 0 0).2.1 : Int), .int .i64 ((q7p b p 9 0 0).2.2 : Int)])) := by
 refine Ev.of_body it_k132 (by simp) (Run.start ?_)
 unfold t_k132
 have e1 := q18 b
 (focus (have hF := @e1; (repeat' (first | refine go1 (k:=?_) | with_reducible refine Ny.of ?_ ?_ | (refine Hyp.of ?_; intro hc; (try simp only [hc]); (try simp only [Bh] at hc)))); all_goals clear hF))
 refine Run.while (σ := Nat × Nat) (fun z => ⟨tms [(0, .sl 1 (q1k b)), (1, .int .i64 (p : Int)), (7, .int .i64 (z.2 : Int)), (10, .int .i64 (z.1 : Int))], mms []⟩) (fun z => z.1 ≤ 9 ∧ z.2 < 2 ^ (7 * z.1) ∧ q7p b p (9 - z.1) z.1 z.2 = q7p b p 9 0 0) (fun z => 9 - z.1) (0, 0) (have hW := True.intro; q0t) ⟨by omega, by decide, rfl⟩ ?_
 rintro ⟨i, n⟩ ⟨hi, hn, hg⟩
 simp only at hi hn hg
 unfold qgx
 by_cases hlt : i < 9
 ·obtain ⟨k, hk⟩ : ∃ k, 9 - i = k + 1 := ⟨8 - i, by omega⟩
  rw [hk, q7p] at hg
  have hli : (i : Int) < 9 := by omega
  by_cases hend : b.length ≤ p + i
  ·rw [List.getElem?_eq_none hend] at hg
   have h1 : (b.length : Int) ≤ (p : Int) + i := by omega
   have h2 := q4l (i := p) (j := i) (by omega)
   (focus (have hF := (aI (aI @e1 @hli) (aI @h1 (aI @h2 @Int.natCast_add))); (repeat' (first | refine go1 (k:=?_) | with_reducible refine Ny.of ?_ ?_ | (refine Hyp.of ?_; intro hc; (try simp only [hc]); (try simp only [Bh] at hc)))); all_goals clear hF))
   rw [← hg]
   exact Fin.all rfl rfl rfl
  ·obtain ⟨c, hc0⟩ : ∃ c, b[p + i]? = some c := ⟨b[p + i]'(by omega), List.getElem?_eq_getElem (by omega)⟩
   rw [hc0] at hg
   simp only at hg
   have g1 : (q1k b)[p + i]? = some (.int .u8 (c.toNat : Int)) := by
    unfold q1k
    rw [List.getElem?_map, hc0]
    rfl
   have h1 : ¬ (b.length : Int) ≤ (p : Int) + i := by omega
   have h2 := q4l (i := p) (j := i) (by omega)
   have hcl := c.toNat_lt
   have hm : c.toNat % 128 < 128 := Nat.mod_lt _ (by decide)
   obtain ⟨hor, hn'⟩ := bitOr hn hm (by omega : i ≤ 8)
   have h3 : IntKind.u8.wrap (((BitVec.ofInt IntKind.u8.bits (c.toNat : Int) &&& BitVec.ofInt IntKind.u8.bits 127).toNat : Nat) : Int) = ((c.toNat % 128 : Nat) : Int) := by
    have := bit127 c
    simp only [z2k, Option.some.injEq] at this
    exact this
   have hor : IntKind.i64.wrap (((BitVec.ofInt IntKind.i64.bits (n : Int) ||| BitVec.ofInt IntKind.i64.bits ((c.toNat % 128 * 2 ^ (7 * i) : Nat) : Int)).toNat : Nat) : Int) = ((n + c.toNat % 128 * 2 ^ (7 * i) : Nat) : Int) := by
    simp only [z2k, Option.some.injEq] at hor
    exact hor
   have hp2 : 2 ^ (7 * i) ≤ 2 ^ 56 := Nat.pow_le_pow_right (by decide) (by omega)
   have h7 : (7 : Int) * i = ((7 * i : Nat) : Int) := by omega
   have h7w : IntKind.i64.wrap ((7 * i : Nat) : Int) = ((7 * i : Nat) : Int) := q0b (by omega)
   have h7m : min (7 * i) IntKind.i64.bits = 7 * i := by show min (7 * i) 64 = _; omega
   have hmw : IntKind.i64.wrap ((c.toNat % 128 : Nat) : Int) = ((c.toNat % 128 : Nat) : Int) := q0b (by omega)
   have hsw : IntKind.i64.wrap (((c.toNat % 128 : Nat) : Int) * 2 ^ (7 * i)) = ((c.toNat % 128 * 2 ^ (7 * i) : Nat) : Int) := by
    rw [show (((c.toNat % 128 : Nat) : Int) * 2 ^ (7 * i)) = ((c.toNat % 128 * 2 ^ (7 * i) : Nat) : Int) by rw [Int.natCast_mul, Int.natCast_pow]; rfl]
    refine q0b ⟨by omega, ?_⟩
    have : c.toNat % 128 * 2 ^ (7 * i) ≤ 127 * 2 ^ 56 := Nat.mul_le_mul (by omega) hp2
    omega
   generalize hmm : c.toNat % 128 = m at *
   generalize hww : m * 2 ^ (7 * i) = w at *
   have hi1 := q0u (i := i) (by omega)
   by_cases hlast : c.toNat < 128
   ·rw [if_pos hlast] at hg
    have hl2 : ((c.toNat : Nat) : Int) < 128 := by omega
    by_cases hz : c.toNat = 0
    ·have hz2 : (((c.toNat : Nat) : Int) = 0) = True := eq_true (by omega)
     by_cases hi0 : 0 < i
     ·rw [if_pos ⟨hz, hi0⟩] at hg
      have hi2 : (0 : Int) < i := by omega
      (focus (have hF := (aI (aI (aI @e1 (aI @hli @h1)) (aI (aI @h2 @g1) (aI @h3 @h7))) (aI (aI (aI @h7w @h7m) (aI @hmw @hsw)) (aI (aI @hor @hl2) (aI @hz2 @hi2)))); (repeat' (first | refine go1 (k:=?_) | with_reducible refine Ny.of ?_ ?_ | (refine Hyp.of ?_; intro hc; (try simp only [hc]); (try simp only [Bh] at hc)))); all_goals clear hF))
      rw [← hg]
      exact Fin.all rfl rfl rfl
     ·rw [if_neg (by omega)] at hg
      have hi2 : ¬ (0 : Int) < i := by omega
      have h8 : IntKind.i64.wrap (((p + i : Nat) : Int) + 1) = ((p + i + 1 : Nat) : Int) := q0u (by omega)
      (focus (have hF := (aI (aI (aI (aI @e1 @hli) (aI @h1 @h2)) (aI (aI @g1 @h3) (aI @h7 @h7w))) (aI (aI (aI @h7m @hmw) (aI @hsw @hor)) (aI (aI @hl2 @hz2) (aI @hi2 @h8)))); (repeat' (first | refine go1 (k:=?_) | with_reducible refine Ny.of ?_ ?_ | (refine Hyp.of ?_; intro hc; (try simp only [hc]); (try simp only [Bh] at hc)))); all_goals clear hF))
      rw [← hg]
      exact Fin.all rfl rfl rfl
    ·have hz2 : ¬ ((c.toNat : Nat) : Int) = 0 := by omega
     rw [if_neg (by omega)] at hg
     have h8 : IntKind.i64.wrap (((p + i : Nat) : Int) + 1) = ((p + i + 1 : Nat) : Int) := q0u (by omega)
     (focus (have hF := (aI (aI (aI @e1 (aI @hli @h1)) (aI (aI @h2 @g1) (aI @h3 @h7))) (aI (aI (aI @h7w @h7m) (aI @hmw @hsw)) (aI (aI @hor @hl2) (aI @hz2 @h8)))); (repeat' (first | refine go1 (k:=?_) | with_reducible refine Ny.of ?_ ?_ | (refine Hyp.of ?_; intro hc; (try simp only [hc]); (try simp only [Bh] at hc)))); all_goals clear hF))
     rw [← hg]
     exact Fin.all rfl rfl rfl
   ·rw [if_neg hlast] at hg
    have hl2 : ¬ ((c.toNat : Nat) : Int) < 128 := by omega
    (focus (have hF := (aI (aI (aI @e1 (aI @hli @h1)) (aI (aI @h2 @g1) (aI @h3 @h7))) (aI (aI @h7w (aI @h7m @hmw)) (aI (aI @hsw @hor) (aI @hl2 @hi1)))); (repeat' (first | refine go1 (k:=?_) | with_reducible refine Ny.of ?_ ?_ | (refine Hyp.of ?_; intro hc; (try simp only [hc]); (try simp only [Bh] at hc)))); all_goals clear hF))
    (refine Fin.nextW ((i + 1, n + w)) ?_ (have hW := True.intro; q0t); (try dsimp only))
    exact ⟨⟨show i + 1 ≤ 9 by omega, hn', show q7p b p (9 - (i + 1)) (i + 1) (n + w) = _ by rw [show 9 - (i + 1) = k by omega]; exact hg⟩, show 9 - (i + 1) < 9 - i by omega⟩
 ·have hi9 : i = 9 := by omega
  subst hi9
  rw [Nat.sub_self, q7p] at hg
  (focus (have hF := @e1; (repeat' (first | refine go1 (k:=?_) | with_reducible refine Ny.of ?_ ?_ | (refine Hyp.of ?_; intro hc; (try simp only [hc]); (try simp only [Bh] at hc)))); all_goals clear hF))
  rw [← hg]
  exact Fin.all rfl rfl rfl
theorem zd7 (b : Bs) (p : Nat) : ∀ (k i n : Nat), (q7p b p k i n).2.2 = 0 → p + i < (q7p b p k i n).2.1 ∧ (q7p b p k i n).2.1 ≤ b.length ∧ (q7p b p k i n).2.1 ≤ p + i + k
 | 0, i, n, h => by simp [q7p] at h
 | k + 1, i, n, h => by
  unfold q7p at h ⊢
  cases hb : b[p + i]? with
  | none => simp [hb] at h
  | some c =>
   have hlt : p + i < b.length := (List.getElem?_eq_some_iff.1 hb).1
   simp only [hb] at h ⊢
   split at h
   ·rename_i hc
    rw [if_pos hc]
    split at h
    ·simp at h
    ·rename_i hz
     rw [if_neg hz]
     simp only
     omega
   ·rename_i hc
    rw [if_neg hc]
    have := zd7 b p k (i + 1) _ h
    omega
theorem zd6 (b : Bs) (p : Nat) : ∀ (k i n : Nat), n < 2 ^ (7 * i) → (q7p b p k i n).1 < 2 ^ (7 * (i + k))
 | 0, i, n, h => by simp only [q7p]; exact Nat.pow_pos (by decide)
 | k + 1, i, n, h => by
  unfold q7p
  have hq : 2 ^ (7 * (i + 1)) = 128 * 2 ^ (7 * i) := by rw [Nat.mul_add, Nat.pow_add]; omega
  have hle : 2 ^ (7 * (i + 1)) ≤ 2 ^ (7 * (i + (k + 1))) := Nat.pow_le_pow_right (by decide) (by omega)
  cases hb : b[p + i]? with
  | none => simp only; exact Nat.pow_pos (by decide)
  | some c =>
   simp only
   have h2 : n + c.toNat % 128 * 2 ^ (7 * i) < 2 ^ (7 * (i + 1)) := by
    have : c.toNat % 128 * 2 ^ (7 * i) ≤ 127 * 2 ^ (7 * i) := Nat.mul_le_mul_right _ (by have := Nat.mod_lt c.toNat (show 0 < 128 by decide); omega)
    omega
   split
   ·split
    ·exact Nat.pow_pos (by decide)
    ·exact Nat.lt_of_lt_of_le h2 hle
   ·have := zd6 b p k (i + 1) _ h2
    rwa [show i + 1 + k = i + (k + 1) by omega] at this

def qwq : List SOp := [zO 2 (.assign (.const (.bool false)))]
instance : Live qwq := ⟨[0]⟩
def qwp : List SOp := [zM 3 0,zO 4 (.binOp .eql 140 (.tmp 3) (.const (.pointer none)) 140),zM 5 4,⟨some 6,.move (.tmp 0),some ((some 5),false)⟩,⟨some 7,.nilCheck (.tmp 6),some ((some 5),false)⟩,⟨some 8,.fieldAddr 163 (.tmp 7) 2,some ((some 5),false)⟩,⟨some 9,.load 4 (.tmp 8),some ((some 5),false)⟩,⟨some 10,.unOp .not 4 (.tmp 9),some ((some 5),false)⟩,zO 11 (.pick (.tmp 5) (.const (.bool true)) (.tmp 10))]
instance : Live qwp := ⟨[0]⟩
def qwo : List SOp := [zO 2 (.assign (.const (.bool false)))]
instance : Live qwo := ⟨[]⟩
def qwn : List SOp := [zM 12 0,zO 13 (.nilCheck (.tmp 12)),zF 14 163 13 3,zL 15 35 14,zO 16 (.binOp .neq 35 (.tmp 15) (.const (.int .i64 0)) 35)]
instance : Live qwn := ⟨[0]⟩
def qwm : List SOp := [zM 17 0,zO 18 (.build 165 #[(0,.tmp 17)]),zO 19 (.makeInterface 165 (.tmp 18)),⟨none,.panic (.tmp 19),none⟩]
instance : Live qwm := ⟨[0]⟩
def qwl : List SOp := [zO 2 (.assign (.const (.bool true)))]
instance : Live qwl := ⟨[]⟩
def t_k131 : SC :=
 (.seq (.ops false qwq) (.seq (.seq (.ops false qwp) (.cond (.tmp 11) (.seq (.ops false qwo) .ret) .skip)) (.seq (.seq (.ops false qwn) (.cond (.tmp 16) (.ops false qwm) .skip)) (.seq (.ops false qwl) .ret))))
theorem it_k131 : FnIs Tryz.prog 131 20 [.tmp 2] t_k131 := ⟨Tryz.f131, _, Tryz.func131, rfl, rfl, rfl, rfl, by kernel_rfl⟩

def qwb : List SOp := [zM 4 0,zM 5 1,zO 6 (.nilCheck (.tmp 4)),zF 7 163 6 3,⟨none,.store 35 (.tmp 7) (.tmp 5),none⟩]
instance : Live qwb := ⟨[0,1]⟩
def qwa : List SOp := [zM 8 0,zO 9 (.build 165 #[(0,.tmp 8)]),zO 10 (.makeInterface 165 (.tmp 9)),⟨none,.panic (.tmp 10),none⟩]
instance : Live qwa := ⟨[0]⟩
def t_k133 : SC :=
 (.seq (.ops false qwb) (.ops false qwa))
theorem it_k133 : FnIs Tryz.prog 133 11 [] t_k133 := ⟨Tryz.f133, _, Tryz.func133, rfl, rfl, rfl, rfl, by kernel_rfl⟩

def qzm : List SOp := [zO 4 (.assign (.const (.int .i64 0)))]
instance : Live qzm := ⟨[0,1]⟩
def qzl : List SOp := [zM 8 0,zO 9 (.call ⟨.value (.func 131),#[.tmp 8],#[140]⟩),zO 10 (.unOp .not 4 (.tmp 9))]
instance : Live qzl := ⟨[0,1]⟩
def qzk : List SOp := [zO 4 (.assign (.const (.int .i64 0)))]
instance : Live qzk := ⟨[]⟩
def qzj : List SOp := [zM 12 0,zO 13 (.nilCheck (.tmp 12)),zF 14 163 13 0,zL 15 28 14,zM 16 0,zO 17 (.nilCheck (.tmp 16)),zF 18 163 17 1,zL 19 3 18,zO 20 (.call ⟨.value (.func 132),#[.tmp 15,.tmp 19],#[28,3]⟩),zM 11 20,zX 21 11 0,zX 22 11 1,zX 23 11 2,zG 5 21,zG 6 22,zG 7 23]
instance : Live qzj := ⟨[0,1]⟩
def qzi : List SOp := [zM 24 7,zO 25 (.binOp .neq 35 (.tmp 24) (.const (.int .i64 0)) 35)]
instance : Live qzi := ⟨[0,1,5,6,7]⟩
def qzh : List SOp := [zM 26 0,zM 27 7,zO 28 (.call ⟨.value (.func 133),#[.tmp 26,.tmp 27],#[140,35]⟩)]
instance : Live qzh := ⟨[0,1,5,6,7]⟩
def qzg : List SOp := [zM 29 5,zM 30 1,zO 31 (.binOp .gtr 3 (.tmp 29) (.tmp 30) 3)]
instance : Live qzg := ⟨[0,1,5,6]⟩
def qzf : List SOp := [zM 32 0,zO 33 (.call ⟨.value (.func 133),#[.tmp 32,.const (.int .i64 51)],#[140,35]⟩)]
instance : Live qzf := ⟨[0,5,6]⟩
def qze : List SOp := [zM 34 0,zM 35 6,zO 36 (.nilCheck (.tmp 34)),zF 37 163 36 1,⟨none,.store 3 (.tmp 37) (.tmp 35),none⟩]
instance : Live qze := ⟨[0,5,6]⟩
def qkf : List SOp := [zM 38 5,zG 4 38]
instance : Live qkf := ⟨[5]⟩
def t_k104 : SC :=
 (.seq (.ops false qzm) (.seq (.seq (.ops false qzl) (.cond (.tmp 10) (.seq (.ops false qzk) .ret) .skip)) (.seq (.ops true qzj) (.seq (.seq (.ops false qzi) (.cond (.tmp 25) (.ops false qzh) .skip)) (.seq (.seq (.ops false qzg) (.cond (.tmp 31) (.ops false qzf) .skip)) (.seq (.ops false qze) (.seq (.ops false qkf) .ret)))))))
theorem it_k104 : FnIs Tryz.prog 104 39 [.tmp 4] t_k104 := ⟨Tryz.f104, _, Tryz.func104, rfl, rfl, rfl, rfl, by kernel_rfl⟩

def qzd : List SOp := [zO 4 (.assign (.const (.int .i64 0)))]
instance : Live qzd := ⟨[0,1]⟩
def qzc : List SOp := [zM 6 0,zO 7 (.call ⟨.value (.func 131),#[.tmp 6],#[140]⟩),zO 8 (.unOp .not 4 (.tmp 7))]
instance : Live qzc := ⟨[0,1]⟩
def qzb : List SOp := [zO 4 (.assign (.const (.int .i64 0)))]
instance : Live qzb := ⟨[]⟩
def qza : List SOp := [zM 9 0,zO 10 (.call ⟨.value (.func 104),#[.tmp 9,.const (.int .i64 9223372036854775807)],#[140,3]⟩),zG 5 10]
instance : Live qza := ⟨[0,1]⟩
def qz9 : List SOp := [zM 11 5,zM 12 0,zO 13 (.nilCheck (.tmp 12)),zF 14 163 13 0,zL 15 28 14,zO 16 (.call ⟨.builtin .len,#[.tmp 15],#[28]⟩),zM 17 0,zO 18 (.nilCheck (.tmp 17)),zF 19 163 18 1,zL 20 3 19,zO 21 (.binOp .sub 3 (.tmp 16) (.tmp 20) 3),zM 22 1,zO 23 (.call ⟨.builtin .max,#[.tmp 22,.const (.int .i64 1)],#[3,3]⟩),zO 24 (.binOp .quo 3 (.tmp 21) (.tmp 23) 3),zO 25 (.binOp .gtr 3 (.tmp 11) (.tmp 24) 3)]
instance : Live qz9 := ⟨[0,1,5]⟩
def qz8 : List SOp := [zM 26 0,zO 27 (.call ⟨.value (.func 133),#[.tmp 26,.const (.int .i64 50)],#[140,35]⟩)]
instance : Live qz8 := ⟨[0,5]⟩
def qz7 : List SOp := [zM 28 5,zG 4 28]
instance : Live qz7 := ⟨[5]⟩
def t_k105 : SC :=
 (.seq (.ops false qzd) (.seq (.seq (.ops false qzc) (.cond (.tmp 8) (.seq (.ops false qzb) .ret) .skip)) (.seq (.ops false qza) (.seq (.seq (.ops true qz9) (.cond (.tmp 25) (.ops false qz8) .skip)) (.seq (.ops false qz7) .ret)))))
theorem it_k105 : FnIs Tryz.prog 105 29 [.tmp 4] t_k105 := ⟨Tryz.f105, _, Tryz.func105, rfl, rfl, rfl, rfl, by kernel_rfl⟩

def qw9 : List SOp := [zO 4 (.assign (.const (.slice none 0 0)))]
instance : Live qw9 := ⟨[0,1]⟩
def qw8 : List SOp := [zM 6 0,zM 7 1,zO 8 (.call ⟨.value (.func 104),#[.tmp 6,.tmp 7],#[140,3]⟩),zG 5 8]
instance : Live qw8 := ⟨[0,1]⟩
def qw7 : List SOp := [zM 9 5,zM 10 0,zO 11 (.nilCheck (.tmp 10)),zF 12 163 11 0,zL 13 28 12,zO 14 (.call ⟨.builtin .len,#[.tmp 13],#[28]⟩),zM 15 0,zO 16 (.nilCheck (.tmp 15)),zF 17 163 16 1,zL 18 3 17,zO 19 (.binOp .sub 3 (.tmp 14) (.tmp 18) 3),zO 20 (.binOp .gtr 3 (.tmp 9) (.tmp 19) 3)]
instance : Live qw7 := ⟨[0,5]⟩
def qw6 : List SOp := [zM 21 0,zO 22 (.call ⟨.value (.func 133),#[.tmp 21,.const (.int .i64 50)],#[140,35]⟩)]
instance : Live qw6 := ⟨[0,5]⟩
def qw5 : List SOp := [zM 23 0,zO 24 (.nilCheck (.tmp 23)),zF 25 163 24 1,zL 26 3 25,zM 27 5,zO 28 (.binOp .add 3 (.tmp 26) (.tmp 27) 3),zO 29 (.nilCheck (.tmp 23)),zF 30 163 29 1,⟨none,.store 3 (.tmp 30) (.tmp 28),none⟩]
instance : Live qw5 := ⟨[0,5]⟩
def qw4 : List SOp := [zM 31 0,zO 32 (.nilCheck (.tmp 31)),zF 33 163 32 0,zL 34 28 33,zM 35 0,zO 36 (.nilCheck (.tmp 35)),zF 37 163 36 1,zL 38 3 37,zM 39 5,zO 40 (.binOp .sub 3 (.tmp 38) (.tmp 39) 3),zM 41 0,zO 42 (.nilCheck (.tmp 41)),zF 43 163 42 1,zL 44 3 43,zO 45 (.slice 28 (.tmp 34) (some (.tmp 40)) (some (.tmp 44)) none),zG 4 45]
instance : Live qw4 := ⟨[0,5]⟩
def t_k134 : SC :=
 (.seq (.ops false qw9) (.seq (.ops false qw8) (.seq (.seq (.ops true qw7) (.cond (.tmp 20) (.ops false qw6) .skip)) (.seq (.ops false qw5) (.seq (.ops true qw4) .ret)))))
theorem it_k134 : FnIs Tryz.prog 134 46 [.tmp 4] t_k134 := ⟨Tryz.f134, _, Tryz.func134, rfl, rfl, rfl, rfl, by kernel_rfl⟩

def qz1 : List SOp := [zO 4 (.assign (.const (.string ⟨#[]⟩)))]
instance : Live qz1 := ⟨[0,1]⟩
def qz0 : List SOp := [zM 5 0,zO 6 (.call ⟨.value (.func 131),#[.tmp 5],#[140]⟩),zO 7 (.unOp .not 4 (.tmp 6))]
instance : Live qz0 := ⟨[0,1]⟩
def qyz : List SOp := [zO 4 (.assign (.const (.string ⟨#[]⟩)))]
instance : Live qyz := ⟨[]⟩
def qyy : List SOp := [zM 8 0,zM 9 1,zO 10 (.call ⟨.value (.func 134),#[.tmp 8,.tmp 9],#[140,3]⟩),zO 11 (.convert 28 9 (.tmp 10)),zG 4 11]
instance : Live qyy := ⟨[0,1]⟩
def t_k108 : SC :=
 (.seq (.ops false qz1) (.seq (.seq (.ops false qz0) (.cond (.tmp 7) (.seq (.ops false qyz) .ret) .skip)) (.seq (.ops false qyy) .ret)))
theorem it_k108 : FnIs Tryz.prog 108 12 [.tmp 4] t_k108 := ⟨Tryz.f108, _, Tryz.func108, rfl, rfl, rfl, rfl, by kernel_rfl⟩

def qz6 : List SOp := [zM 4 0,zO 5 (.call ⟨.value (.func 131),#[.tmp 4],#[140]⟩),zO 6 (.unOp .not 4 (.tmp 5))]
instance : Live qz6 := ⟨[0,1]⟩
def qz5 : List SOp := [zM 7 1,zO 8 (.binOp .eql 35 (.tmp 7) (.const (.int .i64 0)) 35)]
instance : Live qz5 := ⟨[0,1]⟩
def qz4 : List SOp := [zO 1 (.assign (.const (.int .i64 8)))]
instance : Live qz4 := ⟨[0]⟩
def qz3 : List SOp := [zM 9 0,zM 10 1,zO 11 (.call ⟨.value (.func 133),#[.tmp 9,.tmp 10],#[140,35]⟩)]
instance : Live qz3 := ⟨[0,1]⟩
def t_k106 : SC :=
 (.seq (.seq (.ops false qz6) (.cond (.tmp 6) .ret .skip)) (.seq (.seq (.ops false qz5) (.cond (.tmp 8) (.ops false qz4) .skip)) (.ops false qz3)))
theorem it_k106 : FnIs Tryz.prog 106 12 [] t_k106 := ⟨Tryz.f106, _, Tryz.func106, rfl, rfl, rfl, rfl, by kernel_rfl⟩

theorem qas (b : Bs) (p : Nat) : EvR (En Tryz.prog rfl).P 131 [] b p (.ok (.bool true, p)) := by
 refine EvR.of_body it_k131 (by simp) (fun v a h => by cases h; rfl) fun v => Run.start ?_
 unfold t_k131
 (focus (have hF := @q07; (repeat' (first | refine go1 (k:=?_) | with_reducible refine Ny.of ?_ ?_ | (refine Hyp.of ?_; intro hc; (try simp only [hc]); (try simp only [Bh] at hc)))); all_goals clear hF))
 exact FnRd.ret1 rfl
theorem qce (b : Bs) (p e : Nat) : EvR (En Tryz.prog rfl).P 133 [.int .i64 (e : Int)] b p (.error (e, p)) := by
 refine EvR.of_body it_k133 (by simp) (fun v a h => by cases h) fun v => Run.start ?_
 unfold t_k133
 (focus (have hF := @q07; (repeat' (first | refine go1 (k:=?_) | with_reducible refine Ny.of ?_ ?_ | (refine Hyp.of ?_; intro hc; (try simp only [hc]); (try simp only [Bh] at hc)))); all_goals clear hF))
 refine stPanic (k:=?_)
 exact KQ.pan (FnRd.pan rfl rfl rfl)
def q91 (most : Nat) (b : Bs) (p : Nat) : Rs Nat :=
 if (q7p b p 9 0 0).2.2 = 0 then (if most < (q7p b p 9 0 0).1 then .error (51, p) else .ok ((q7p b p 9 0 0).1, (q7p b p 9 0 0).2.1)) else .error ((q7p b p 9 0 0).2.2, p)
def vN (n : Nat) : AVal := .int .i64 (n : Int)
theorem q3x (n : Nat) : vN n = .int .i64 (n : Int) := rfl
theorem q60 (most : Nat) (b : Bs) (p : Nat) (hb : b.length ≤ 900000000000) (hp : p ≤ b.length) : EvR (En Tryz.prog rfl).P 104 [.int .i64 (most : Int)] b p ((q91 most b p).map vN) := by
 refine EvR.of_body it_k104 (by simp) (fun v a h => by obtain ⟨x, _, rfl⟩ := Rs.map_ok h; rfl) fun v => Run.start ?_
 unfold t_k104
 (focus (have hF := @q07; (repeat' (first | refine go1 (k:=?_) | with_reducible refine Ny.of ?_ ?_ | (refine Hyp.of ?_; intro hc; (try simp only [hc]); (try simp only [Bh] at hc)))); all_goals clear hF))
 refine q78 [] (he := qas b p) (kok := ?_) (kerr := ?_)
 rotate_left
 ·rintro e a h; cases h
 rintro _ _ h
 cases h
 (focus (have hF := @q07; (repeat' (first | refine go1 (k:=?_) | with_reducible refine Ny.of ?_ ?_ | (refine Hyp.of ?_; intro hc; (try simp only [hc]); (try simp only [Bh] at hc)))); all_goals clear hF))
 generalize hr : q91 most b p = r
 have c1 := ev_k132 b p hb hp
 unfold q91 at hr
 generalize q7p b p 9 0 0 = g at c1 hr
 obtain ⟨n, nx, e⟩ := g
 simp only at c1 hr
 refine q05 [.sl 1 (q1k b), .int .i64 (p : Int)] (he := c1) (k:=?_)
 by_cases he : e = 0
 ·subst he
  rw [if_pos rfl] at hr
  by_cases hm : most < n
  ·rw [if_pos hm] at hr
   have hm2 : (most : Int) < (n : Int) := by omega
   (focus (have hF := (aI @q07 @hm2); (repeat' (first | refine go1 (k:=?_) | with_reducible refine Ny.of ?_ ?_ | (refine Hyp.of ?_; intro hc; (try simp only [hc]); (try simp only [Bh] at hc)))); all_goals clear hF))
   refine q78 [.int .i64 51] (he := qce b p 51) (kok := ?_) (kerr := ?_)
   ·rintro _ _ h; cases h
   rintro _ _ h s' h1 h2
   cases h
   exact KQ.pan (FnRd.pan (by rw [← hr]; rfl) h1 h2)
  ·rw [if_neg hm] at hr
   have hm2 : ¬ (most : Int) < (n : Int) := by omega
   (focus (have hF := (aI @q07 @hm2); (repeat' (first | refine go1 (k:=?_) | with_reducible refine Ny.of ?_ ?_ | (refine Hyp.of ?_; intro hc; (try simp only [hc]); (try simp only [Bh] at hc)))); all_goals clear hF))
   subst hr
   exact FnRd.ret1 rfl
 ·rw [if_neg he] at hr
  have he2 : ¬ (e : Int) = 0 := by omega
  (focus (have hF := (aI @q07 @he2); (repeat' (first | refine go1 (k:=?_) | with_reducible refine Ny.of ?_ ?_ | (refine Hyp.of ?_; intro hc; (try simp only [hc]); (try simp only [Bh] at hc)))); all_goals clear hF))
  refine q78 [.int .i64 (e : Int)] (he := qce b p e) (kok := ?_) (kerr := ?_)
  ·rintro _ _ h; cases h
  rintro _ _ h s' h1 h2
  cases h
  exact KQ.pan (FnRd.pan (by rw [← hr]; rfl) h1 h2)
theorem q0z {most : Nat} {b : Bs} {p n a : Nat} (h : q91 most b p = .ok (n, a)) : n ≤ most ∧ p < a ∧ a ≤ b.length ∧ n < 2 ^ 63 := by
 unfold q91 at h
 split at h
 ·rename_i h0
  split at h
  ·cases h
  ·rename_i hm
   simp only [Except.ok.injEq, Prod.mk.injEq] at h
   obtain ⟨rfl, rfl⟩ := h
   have h1 := zd7 b p 9 0 0 h0
   have h2 := zd6 b p 9 0 0 (by decide)
   exact ⟨by omega, by omega, h1.2.1, h2⟩
 ·cases h
theorem rNum_err {most : Nat} {b : Bs} {p e a : Nat} (h : q91 most b p = .error (e, a)) : e ≠ 0 ∧ a = p := by
 unfold q91 at h
 split at h
 ·split at h
  ·cases h; exact ⟨by decide, rfl⟩
  ·cases h
 ·cases h; rename_i h0; exact ⟨h0, rfl⟩
def q3n (each : Nat) (b : Bs) (p : Nat) : Rs Nat :=
 match q91 9223372036854775807 b p with
 | .error e => .error e
 | .ok (n, a) => if (b.length - a) / each < n then .error (50, a) else .ok (n, a)
def q96 (most : Nat) (b : Bs) (p : Nat) : Rs Bs :=
 match q91 most b p with
 | .error e => .error e
 | .ok (n, a) => if b.length - a < n then .error (50, a) else .ok ((b.take (a + n)).drop a, a + n)
def qa5 (most : Nat) (b : Bs) (p : Nat) : Rs ByteArray := (q96 most b p).map fun l => ⟨l.toArray⟩
theorem qfw (each : Nat) (he : 1 ≤ each ∧ each ≤ 100) (b : Bs) (p : Nat) (hb : b.length ≤ 900000000000) (hp : p ≤ b.length) : EvR (En Tryz.prog rfl).P 105 [.int .i64 (each : Int)] b p ((q3n each b p).map vN) := by
 refine EvR.of_body it_k105 (by simp) (fun v a h => by obtain ⟨x, _, rfl⟩ := Rs.map_ok h; rfl) fun v => Run.start ?_
 unfold t_k105
 (focus (have hF := @q07; (repeat' (first | refine go1 (k:=?_) | with_reducible refine Ny.of ?_ ?_ | (refine Hyp.of ?_; intro hc; (try simp only [hc]); (try simp only [Bh] at hc)))); all_goals clear hF))
 refine q78 [] (he := qas b p) (kok := ?_) (kerr := ?_)
 rotate_left
 ·rintro _ _ h; cases h
 rintro _ _ h
 cases h
 (focus (have hF := @q07; (repeat' (first | refine go1 (k:=?_) | with_reducible refine Ny.of ?_ ?_ | (refine Hyp.of ?_; intro hc; (try simp only [hc]); (try simp only [Bh] at hc)))); all_goals clear hF))
 generalize hr : q3n each b p = r
 unfold q3n at hr
 refine q78 [.int .i64 9223372036854775807] (he := q60 9223372036854775807 b p hb hp) (kok := ?_) (kerr := ?_)
 rotate_left
 ·rintro e a h s' h1 h2
  have h := Rs.map_error h
  rw [h] at hr
  exact KQ.pan (FnRd.pan (by rw [← hr]; rfl) h1 h2)
 rintro _ a h0
 obtain ⟨n, h, rfl⟩ := Rs.map_ok h0
 obtain ⟨q1, q2, q3, q4⟩ := q0z h
 rw [h] at hr
 simp only at hr
 have e1 := q18 b
 have w1 : IntKind.i64.wrap ((b.length : Int) - (a : Int)) = ((b.length - a : Nat) : Int) := by rw [q0b (by omega)]; omega
 have w2 : max (each : Int) 1 = each := by omega
 have w3 : ((each : Int) = 0) = False := eq_false (by omega)
 have w4 : IntKind.i64.wrap (((b.length - a : Nat) : Int).tdiv (each : Int)) = (((b.length - a) / each : Nat) : Int) := by
  rw [← Int.ofNat_tdiv]
  have hq := Nat.div_le_self (b.length - a) each
  generalize (b.length - a) / each = q at hq ⊢
  exact q0b (by omega)
 by_cases hc : (b.length - a) / each < n
 ·rw [if_pos hc] at hr
  have w5 : (((b.length - a) / each : Nat) : Int) < (n : Int) := by omega
  (focus (have hF := (aI (aI (aI @q07 @e1) (aI @w1 @w2)) (aI (aI @w3 @w4) (aI @w5 @q3x))); (repeat' (first | refine go1 (k:=?_) | with_reducible refine Ny.of ?_ ?_ | (refine Hyp.of ?_; intro hc; (try simp only [hc]); (try simp only [Bh] at hc)))); all_goals clear hF))
  refine q78 [.int .i64 50] (he := qce b a 50) (kok := ?_) (kerr := ?_)
  ·rintro _ _ h; cases h
  rintro _ _ h s' h1 h2
  cases h
  exact KQ.pan (FnRd.pan (by rw [← hr]; rfl) h1 h2)
 ·rw [if_neg hc] at hr
  have w5 : ¬ (((b.length - a) / each : Nat) : Int) < (n : Int) := by omega
  (focus (have hF := (aI (aI (aI @q07 @e1) (aI @w1 @w2)) (aI (aI @w3 @w4) (aI @w5 @q3x))); (repeat' (first | refine go1 (k:=?_) | with_reducible refine Ny.of ?_ ?_ | (refine Hyp.of ?_; intro hc; (try simp only [hc]); (try simp only [Bh] at hc)))); all_goals clear hF))
  subst hr
  exact FnRd.ret1 rfl
theorem er_take (most : Nat) (b : Bs) (p : Nat) (hb : b.length ≤ 900000000000) (hp : p ≤ b.length) : EvR (En Tryz.prog rfl).P 134 [.int .i64 (most : Int)] b p ((q96 most b p).map fun l => .sl 1 (q1k l)) := by
 refine EvR.of_body it_k134 (by simp) (fun v a h => by obtain ⟨x, _, rfl⟩ := Rs.map_ok h; exact q0e x) fun v => Run.start ?_
 unfold t_k134
 (focus (have hF := @q07; (repeat' (first | refine go1 (k:=?_) | with_reducible refine Ny.of ?_ ?_ | (refine Hyp.of ?_; intro hc; (try simp only [hc]); (try simp only [Bh] at hc)))); all_goals clear hF))
 generalize hr : q96 most b p = r
 unfold q96 at hr
 refine q78 [.int .i64 (most : Int)] (he := q60 most b p hb hp) (kok := ?_) (kerr := ?_)
 rotate_left
 ·rintro e a h s' h1 h2
  have h := Rs.map_error h
  rw [h] at hr
  exact KQ.pan (FnRd.pan (by rw [← hr]; rfl) h1 h2)
 rintro _ a h0
 obtain ⟨n, h, rfl⟩ := Rs.map_ok h0
 obtain ⟨q1, q2, q3, q4⟩ := q0z h
 rw [h] at hr
 simp only at hr
 have e1 := q18 b
 have w1 : IntKind.i64.wrap ((b.length : Int) - (a : Int)) = ((b.length - a : Nat) : Int) := by rw [q0b (by omega)]; omega
 by_cases hc : b.length - a < n
 ·rw [if_pos hc] at hr
  have w5 : ((b.length - a : Nat) : Int) < (n : Int) := by omega
  (focus (have hF := (aI (aI @q07 @e1) (aI @w1 (aI @w5 @q3x))); (repeat' (first | refine go1 (k:=?_) | with_reducible refine Ny.of ?_ ?_ | (refine Hyp.of ?_; intro hc; (try simp only [hc]); (try simp only [Bh] at hc)))); all_goals clear hF))
  refine q78 [.int .i64 50] (he := qce b a 50) (kok := ?_) (kerr := ?_)
  ·rintro _ _ h; cases h
  rintro _ _ h s' h1 h2
  cases h
  exact KQ.pan (FnRd.pan (by rw [← hr]; rfl) h1 h2)
 ·rw [if_neg hc] at hr
  have w5 : ¬ ((b.length - a : Nat) : Int) < (n : Int) := by omega
  have w6 : IntKind.i64.wrap ((a : Int) + (n : Int)) = ((a + n : Nat) : Int) := q4l (by omega)
  have w7 : IntKind.i64.wrap (((a + n : Nat) : Int) - (n : Int)) = (a : Int) := by rw [q0b (by omega)]; omega
  have w8 : a ≤ a + n ∧ a + n ≤ b.length := by omega
  (focus (have hF := (aI (aI (aI @q07 @e1) (aI @w1 @w5)) (aI (aI @w6 @w7) (aI @w8 @q3x))); (repeat' (first | refine go1 (k:=?_) | with_reducible refine Ny.of ?_ ?_ | (refine Hyp.of ?_; intro hc; (try simp only [hc]); (try simp only [Bh] at hc)))); all_goals clear hF))
  subst hr
  refine FnRd.ret1 (y := .sl 1 (q1k ((b.take (a + n)).drop a))) rfl ?_ (q0e _)
  show AVal.sl 1 (((q1k b).take (a + n)).drop a) = _
  rw [ze1, ze2]
theorem q6t : ∀ l : Bs, q5y (q1k l) = some (l.map fun c => ((c.toNat : Nat) : Int))
 | [] => rfl
 | c :: l => by
  rw [ze3]
  show (q5y (q1k l)).map (((c.toNat : Nat) : Int) :: ·) = _
  rw [q6t l]
  rfl
theorem qbb (l : Bs) : strOf (l.map fun c => ((c.toNat : Nat) : Int)) = ⟨l.toArray⟩ := by
 have key : ∀ (l : Bs) (r : ByteArray), (l.map fun c => ((c.toNat : Nat) : Int)).foldl (fun r n => r.push (UInt8.ofNat n.toNat)) r = ⟨r.data ++ l.toArray⟩ := by
  intro l
  induction l with
  | nil => intro r; simp
  | cons c l ih =>
   intro r
   rw [List.map_cons, List.foldl_cons, ih]
   simp [ByteArray.push]
 unfold strOf
 rw [key]
 simp [ByteArray.empty, ByteArray.emptyWithCapacity]
 rfl
theorem qo3 (most : Nat) (b : Bs) (p : Nat) (hb : b.length ≤ 900000000000) (hp : p ≤ b.length) : EvR (En Tryz.prog rfl).P 108 [.int .i64 (most : Int)] b p ((qa5 most b p).map .str) := by
 refine EvR.of_body it_k108 (by simp) (fun v a h => by obtain ⟨x, _, rfl⟩ := Rs.map_ok h; rfl) fun v => Run.start ?_
 unfold t_k108
 (focus (have hF := @q07; (repeat' (first | refine go1 (k:=?_) | with_reducible refine Ny.of ?_ ?_ | (refine Hyp.of ?_; intro hc; (try simp only [hc]); (try simp only [Bh] at hc)))); all_goals clear hF))
 refine q78 [] (he := qas b p) (kok := ?_) (kerr := ?_)
 rotate_left
 ·rintro _ _ h; cases h
 rintro _ _ h
 cases h
 (focus (have hF := @q07; (repeat' (first | refine go1 (k:=?_) | with_reducible refine Ny.of ?_ ?_ | (refine Hyp.of ?_; intro hc; (try simp only [hc]); (try simp only [Bh] at hc)))); all_goals clear hF))
 generalize hr : qa5 most b p = r
 unfold qa5 at hr
 refine q78 [.int .i64 (most : Int)] (he := er_take most b p hb hp) (kok := ?_) (kerr := ?_)
 rotate_left
 ·rintro e a h s' h1 h2
  have h := Rs.map_error h
  rw [h] at hr
  exact KQ.pan (FnRd.pan (by rw [← hr]; rfl) h1 h2)
 rintro _ a h0
 obtain ⟨l, h, rfl⟩ := Rs.map_ok h0
 rw [h] at hr
 have e2 := q6t l
 have e3 := qbb l
 (focus (have hF := (aI @q07 (aI @e2 @e3)); (repeat' (first | refine go1 (k:=?_) | with_reducible refine Ny.of ?_ ?_ | (refine Hyp.of ?_; intro hc; (try simp only [hc]); (try simp only [Bh] at hc)))); all_goals clear hF))
 subst hr
 exact FnRd.ret1 rfl
theorem q9e (e : Nat) (he : e ≠ 0) (b : Bs) (p : Nat) : EvR (En Tryz.prog rfl).P 106 [.int .i64 (e : Int)] b p (.error (e, p)) := by
 refine EvR.of_body it_k106 (by simp) (fun v a h => by cases h) fun v => Run.start ?_
 unfold t_k106
 (focus (have hF := @q07; (repeat' (first | refine go1 (k:=?_) | with_reducible refine Ny.of ?_ ?_ | (refine Hyp.of ?_; intro hc; (try simp only [hc]); (try simp only [Bh] at hc)))); all_goals clear hF))
 refine q78 [] (he := qas b p) (kok := ?_) (kerr := ?_)
 rotate_left
 ·rintro _ _ h; cases h
 rintro _ _ h
 cases h
 have w1 : ¬ (e : Int) = 0 := by omega
 (focus (have hF := (aI @q07 @w1); (repeat' (first | refine go1 (k:=?_) | with_reducible refine Ny.of ?_ ?_ | (refine Hyp.of ?_; intro hc; (try simp only [hc]); (try simp only [Bh] at hc)))); all_goals clear hF))
 refine q78 [.int .i64 (e : Int)] (he := qce b p e) (kok := ?_) (kerr := ?_)
 ·rintro _ _ h; cases h
 rintro _ _ h s' h1 h2
 cases h
 exact KQ.pan (FnRd.pan rfl h1 h2)

theorem qdk {K : Nat → Bool} {x : AVal} (h : x.stb = true) : x.noC K = true := by
 have h' := q27 (K := K) h
 cases x <;> first | exact h' | exact absurd h (by simp [AVal.stb])
theorem z0x (K : Nat → Bool) {cs : List AVal} (h : q0i cs = true) : (ABlk.cells cs).no K = true := by
 simp only [ABlk.no, List.all_eq_true]
 exact fun x hx => qdk (q80 h x hx)
def z0y : AVal → Bool
 | .own _ xs => q0i xs
 | .hole => true
 | x => x.stb
def qof (cs : List AVal) : Bool := cs.all z0y
theorem z0w (K : Nat → Bool) {cs : List AVal} (h : qof cs = true) : (ABlk.cells cs).no K = true := by
 simp only [ABlk.no, List.all_eq_true]
 intro x hx
 have := List.all_eq_true.1 h x hx
 cases x <;> first | exact qdk this | rfl | skip
 case own sz xs =>
  simp only [AVal.noC, List.all_eq_true]
  exact fun y hy => q27 (q2j this y hy)
def frz : AVal → AVal
 | .own sz xs => .sl sz xs
 | .hole => .undef
 | x => x
def qm2 (k : Nat) : OKey → Bool
 | .cell k' _ => k' == k
 | _ => false
theorem Wk.freeze {n : Nat} {T : q12} {M : Mem} {k : Nat} {cs : List AVal} (hk : M k = some (.cells cs)) : Wk n ⟨T, M⟩ ⟨T, upd M k (some (.cells (cs.map frz)))⟩ := by
 intro B G a w hR
 obtain ⟨c, el, b1, b2, b3, b4, b5⟩ := hR.mem k _ hk
 let G' : Gh := { G with ow := fun b => match G.ow b with | some key => if qm2 k key = true then none else some key | none => none }
 have g0 : ∀ b, G.ow b = none → G'.ow b = none := fun b hb => by simp [G', hb]
 have hA : Adv G w G' w := ⟨⟨rfl, Nat.le_refl _⟩, rfl, rfl, Nat.le_refl _, fun b _ ho => ⟨rfl, g0 b ho⟩⟩
 have hD : ∀ j e, Dm M j e → Dm (upd M k (some (.cells (cs.map frz)))) j e := fun j e => q35 (by rw [hk]; trivial)
 have hw : ∀ b, b < w.heap.size → ¬ B b → G.ow b = none → w.heap[b]? = w.heap[b]? ∧ ¬ B b ∧ G'.ow b = none := fun b _ hn ho => ⟨rfl, hn, g0 b ho⟩
 refine ⟨G', hR.update hA k (.cells (cs.map frz)) (by show qmm (M k) _; rw [hk]; trivial) (fun _ _ _ => ⟨rfl, rfl⟩) (fun b key _ _ ho hne => ⟨rfl, ?_⟩) (fun b hb => hR.ol b fun hn => hb (g0 b hn)) ?_, hA⟩
 ·have : qm2 k key = false := by cases key <;> simp_all [qm2, OKey.of]
  simp [G', ho, this]
 ·refine ⟨c, el, by simp [G', b1, qm2], b2, b3, by simp [b4], fun i y hy => ?_⟩
  rw [List.getElem?_map] at hy
  cases hx : cs[i]? with
  | none => simp [hx] at hy
  | some x =>
   simp only [hx, Option.map_some, Option.some.injEq] at hy
   subst hy
   obtain ⟨u, hu, hr⟩ := b5 i x hx
   refine ⟨u, hu, ?_⟩
   cases x with
   | own sz xs =>
    show VR _ G' B w (.sl sz xs) u
    rcases hr with ⟨rfl, rfl⟩ | ⟨b, o, cap, cc, ell, h1, h2, h3, h4, h5, h6, h7, h7', h8⟩
    ·exact .slnil sz
    ·rw [h1]
     refine .sl sz xs b o cap (fun m => cc.getD (o + m) undef) h2 (fun _ => ⟨h4, by simp [G', h3, qm2]⟩) h7' h7 (fun m x hx => ?_) (fun m x hx => ?_)
     ·obtain ⟨v, hv, _⟩ := h8 m x hx
      rw [q29 h5, hv]
      simp [hv]
     ·obtain ⟨v, hv, hvr⟩ := h8 m x hx
      have : cc.getD (o + m) undef = v := by simp [hv]
      simp only [this]
      exact VR.mono (G := G) (G' := G') (w := w) (w' := w) (B := B) hD (fun _ _ _ => ⟨rfl, rfl⟩) hw hvr
   | hole => exact .undef _
   | _ => exact VR.mono (G := G) (G' := G') (w := w) (w' := w) (B := B) hD (fun _ _ _ => ⟨rfl, rfl⟩) hw hr

def inR (l : List Rn) (n : Int) : Prop := ∃ r ∈ l, r.1 ≤ n ∧ n ≤ r.2
def okR (r : Rn) : Prop := 1 ≤ r.1 ∧ r.1 ≤ r.2 ∧ r.2 ≤ 1000000000
def qmx (x y : Rn) : Prop := x.2 + 1 < y.1
def Can (l : List Rn) : Prop := l.Pairwise qmx ∧ ∀ r ∈ l, okR r
def mem1 (l : List Rn) (n : Int) : Prop := 1 ≤ n ∧ n ≤ 1000000000 ∧ inR l n
theorem q4v (n : Int) : ¬ inR [] n := fun ⟨r, h, _⟩ => by cases h
theorem q1c (x : Rn) (l : List Rn) (n : Int) : inR (x :: l) n ↔ (x.1 ≤ n ∧ n ≤ x.2) ∨ inR l n := by
 constructor
 ·rintro ⟨r, hr, h⟩
  rcases List.mem_cons.1 hr with rfl | hr
  ·exact .inl h
  ·exact .inr ⟨r, hr, h⟩
 ·rintro (h | ⟨r, hr, h⟩)
  ·exact ⟨x, by simp, h⟩
  ·exact ⟨r, by simp [hr], h⟩
theorem q3c (l m : List Rn) (n : Int) : inR (l ++ m) n ↔ inR l n ∨ inR m n := by
 constructor
 ·rintro ⟨r, hr, h⟩
  rcases List.mem_append.1 hr with hr | hr
  ·exact .inl ⟨r, hr, h⟩
  ·exact .inr ⟨r, hr, h⟩
 ·rintro (⟨r, hr, h⟩ | ⟨r, hr, h⟩)
  ·exact ⟨r, by simp [hr], h⟩
  ·exact ⟨r, by simp [hr], h⟩
theorem q99 (x : Rn) (n : Int) : inR [x] n ↔ x.1 ≤ n ∧ n ≤ x.2 := by
 rw [q1c]
 constructor
 ·rintro (h | h)
  ·exact h
  ·exact absurd h (q4v n)
 ·exact .inl
theorem inR_perm {l m : List Rn} (h : l.Perm m) (n : Int) : inR l n ↔ inR m n :=
 ⟨fun ⟨r, hr, hn⟩ => ⟨r, h.mem_iff.1 hr, hn⟩, fun ⟨r, hr, hn⟩ => ⟨r, h.mem_iff.2 hr, hn⟩⟩
theorem Can.nil : Can [] := ⟨.nil, fun r h => by cases h⟩
theorem Can.cons_iff {x : Rn} {l : List Rn} : Can (x :: l) ↔ okR x ∧ (∀ y ∈ l, qmx x y) ∧ Can l := by
 unfold Can
 rw [List.pairwise_cons]
 constructor
 ·rintro ⟨⟨h1, h2⟩, h3⟩
  exact ⟨h3 x (by simp), h1, h2, fun r hr => h3 r (by simp [hr])⟩
 ·rintro ⟨h1, h2, h3, h4⟩
  refine ⟨⟨h2, h3⟩, fun r hr => ?_⟩
  rcases List.mem_cons.1 hr with rfl | hr
  ·exact h1
  ·exact h4 r hr
theorem Can.tail {x : Rn} {l : List Rn} (h : Can (x :: l)) : Can l := (Can.cons_iff.1 h).2.2
theorem Can.bound {l : List Rn} (h : Can l) {n : Int} (hn : inR l n) : 1 ≤ n ∧ n ≤ 1000000000 := by
 obtain ⟨r, hr, h1, h2⟩ := hn
 have := h.2 r hr
 unfold okR at this
 omega
theorem Can.mem1 {l : List Rn} (h : Can l) (n : Int) : Avm.mem1 l n ↔ inR l n := ⟨fun hn => hn.2.2, fun hn => ⟨(h.bound hn).1, (h.bound hn).2, hn⟩⟩
theorem Can.above {x : Rn} {l : List Rn} (h : Can (x :: l)) {n : Int} (hn : inR l n) : x.2 + 1 < n := by
 obtain ⟨r, hr, h1, h2⟩ := hn
 have := (Can.cons_iff.1 h).2.1 r hr
 unfold qmx at this
 omega
theorem Can.snoc {l : List Rn} {x : Rn} (h : Can l) (hx : okR x) (hs : ∀ y ∈ l, qmx y x) : Can (l ++ [x]) := by
 refine ⟨?_, fun r hr => ?_⟩
 ·rw [List.pairwise_append]
  exact ⟨h.1, by simp, fun a ha b hb => by simp at hb; subst hb; exact hs a ha⟩
 ·rcases List.mem_append.1 hr with hr | hr
  ·exact h.2 r hr
  ·simp at hr; subst hr; exact hx
theorem Can.snoc_iff {l : List Rn} {x : Rn} : Can (l ++ [x]) ↔ Can l ∧ okR x ∧ ∀ y ∈ l, qmx y x := by
 constructor
 ·rintro ⟨h1, h2⟩
  rw [List.pairwise_append] at h1
  exact ⟨⟨h1.1, fun r hr => h2 r (by simp [hr])⟩, h2 x (by simp), fun y hy => h1.2.2 y hy x (by simp)⟩
 ·rintro ⟨h1, h2, h3⟩
  exact h1.snoc h2 h3
theorem Can.ext : ∀ {l m : List Rn}, Can l → Can m → (∀ n, inR l n ↔ inR m n) → l = m
 | [], [], _, _, _ => rfl
 | [], y :: m, _, hm, h => by
  have hy := (Can.cons_iff.1 hm).1
  exact absurd ((h y.1).2 ((q1c y m _).2 (.inl ⟨Int.le_refl _, hy.2.1⟩))) (q4v _)
 | x :: l, [], hl, _, h => by
  have hx := (Can.cons_iff.1 hl).1
  exact absurd ((h x.1).1 ((q1c x l _).2 (.inl ⟨Int.le_refl _, hx.2.1⟩))) (q4v _)
 | x :: l, y :: m, hl, hm, h => by
  have hx := (Can.cons_iff.1 hl).1
  have hy := (Can.cons_iff.1 hm).1
  unfold okR at hx hy
  have a1 := (q1c y m x.1).1 ((h x.1).1 ((q1c x l _).2 (.inl ⟨Int.le_refl _, hx.2.1⟩)))
  have a2 := (q1c x l y.1).1 ((h y.1).2 ((q1c y m _).2 (.inl ⟨Int.le_refl _, hy.2.1⟩)))
  have b1 : x.1 = y.1 := by
   rcases a1 with a1 | a1 <;> rcases a2 with a2 | a2
   ·omega
   ·have := hl.above a2; omega
   ·have := hm.above a1; omega
   ·have := hl.above a2; have := hm.above a1; omega
  have c1 : ¬ x.2 < y.2 := fun hlt => by
   rcases (q1c x l (x.2 + 1)).1 ((h (x.2 + 1)).2 ((q1c y m _).2 (.inl (by omega)))) with c | c
   ·omega
   ·have := hl.above c; omega
  have c2 : ¬ y.2 < x.2 := fun hlt => by
   rcases (q1c y m (y.2 + 1)).1 ((h (y.2 + 1)).1 ((q1c x l _).2 (.inl (by omega)))) with c | c
   ·omega
   ·have := hm.above c; omega
  have hxy : x = y := Prod.ext b1 (by omega)
  subst hxy
  rw [Can.ext hl.tail hm.tail fun n => ?_]
  constructor
  ·intro hn
   have := hl.above hn
   rcases (q1c x m n).1 ((h n).1 ((q1c x l _).2 (.inr hn))) with c | c
   ·omega
   ·exact c
  ·intro hn
   have := hm.above hn
   rcases (q1c x l n).1 ((h n).2 ((q1c x m _).2 (.inr hn))) with c | c
   ·omega
   ·exact c
def q0s (l : List Rn) : List Rn := (l.map q4x).filter fun r => decide (r.1 ≤ r.2)
theorem q6y (x : Rn) (l : List Rn) : q0s (x :: l) = if (q4x x).1 ≤ (q4x x).2 then q4x x :: q0s l else q0s l := by
 unfold q0s
 rw [List.map_cons, List.filter_cons]
 simp only [decide_eq_true_eq]
theorem q4q (l m : List Rn) : q0s (l ++ m) = q0s l ++ q0s m := by simp [q0s]
theorem q8s {l : List Rn} : ∀ r ∈ q0s l, okR r := by
 intro r hr
 simp only [q0s, List.mem_filter, List.mem_map, decide_eq_true_eq] at hr
 obtain ⟨⟨x, _, rfl⟩, h⟩ := hr
 unfold q4x at *
 unfold okR
 simp only at *
 omega
theorem z0u (l : List Rn) (n : Int) : inR (q0s l) n ↔ mem1 l n := by
 constructor
 ·rintro ⟨r, hr, h1, h2⟩
  have hok := q8s r hr
  simp only [q0s, List.mem_filter, List.mem_map, decide_eq_true_eq] at hr
  obtain ⟨⟨x, hx, rfl⟩, h⟩ := hr
  unfold okR at hok
  unfold q4x at *
  simp only at *
  exact ⟨by omega, by omega, x, hx, by omega, by omega⟩
 ·rintro ⟨h1, h2, x, hx, h3, h4⟩
  refine ⟨q4x x, ?_, ?_, ?_⟩
  ·simp only [q0s, List.mem_filter, List.mem_map, decide_eq_true_eq]
   refine ⟨⟨x, hx, rfl⟩, ?_⟩
   unfold q4x
   simp only
   omega
  ·unfold q4x
   simp only
   omega
  ·unfold q4x
   simp only
   omega
theorem q8t (l : List Rn) : (q0s l).length ≤ l.length := by
 unfold q0s
 exact Nat.le_trans (List.length_filter_le _ _) (by simp)
def leLo (x y : Rn) : Prop := x.1 ≤ y.1
theorem addR_ok {out : List Rn} {r : Rn} (h : Can out) (hr : okR r) (hs : ∀ x ∈ out, x.1 ≤ r.1) :
 Can (qcw out r) ∧ (∀ n, inR (qcw out r) n ↔ inR out n ∨ (r.1 ≤ n ∧ n ≤ r.2)) ∧ ∀ x ∈ qcw out r, x.1 ≤ r.1 := by
 rcases List.eq_nil_or_concat out with rfl | ⟨l, x, rfl⟩
 ·rw [z16]
  refine ⟨Can.cons_iff.2 ⟨hr, by simp, Can.nil⟩, fun n => ?_, by simp⟩
  rw [q99]
  exact ⟨.inr, fun h => h.elim (fun h => absurd h (q4v n)) id⟩
 ·simp only [List.concat_eq_append] at *
  rw [qcp]
  obtain ⟨h1, h2, h3⟩ := Can.snoc_iff.1 h
  have hx := hs x (by simp)
  unfold okR at h2 hr
  split
  ·rename_i hc
   refine ⟨h1.snoc ⟨h2.1, ?_, ?_⟩ fun y hy => h3 y hy, fun n => ?_, fun y hy => ?_⟩
   ·show x.1 ≤ max x.2 r.2; omega
   ·show max x.2 r.2 ≤ 1000000000; omega
   ·rw [q3c, q3c, q99, q99]
    simp only
    constructor
    ·rintro (h | h)
     ·exact .inl (.inl h)
     ·by_cases hn : n ≤ x.2
      ·exact .inl (.inr (by omega))
      ·exact .inr (by omega)
    ·rintro ((h | h) | h)
     ·exact .inl h
     ·exact .inr (by omega)
     ·exact .inr (by omega)
   ·rcases List.mem_append.1 hy with hy | hy
    ·exact hs y (by simp [hy])
    ·simp at hy; subst hy; exact hx
  ·rename_i hc
   refine ⟨h.snoc ⟨hr.1, hr.2.1, hr.2.2⟩ fun y hy => ?_, fun n => ?_, fun y hy => ?_⟩
   ·rcases List.mem_append.1 hy with hy | hy
    ·have := h3 y hy
     unfold qmx at *
     omega
    ·simp at hy; subst hy
     unfold qmx
     omega
   ·rw [q3c (l ++ [x]), q99]
   ·rcases List.mem_append.1 hy with hy | hy
    ·exact hs y hy
    ·simp at hy; subst hy; exact Int.le_refl _
theorem q9m : ∀ {s out : List Rn}, s.Pairwise leLo → (∀ r ∈ s, okR r) → Can out → (∀ x ∈ out, ∀ r ∈ s, x.1 ≤ r.1) →
 Can (s.foldl qcw out) ∧ ∀ n, inR (s.foldl qcw out) n ↔ inR out n ∨ inR s n
 | [], out, _, _, h, _ => ⟨h, fun n => ⟨.inl, fun h => h.elim id fun h => absurd h (q4v n)⟩⟩
 | r :: s, out, hp, hok, h, hs => by
  rw [List.pairwise_cons] at hp
  obtain ⟨a1, a2, a3⟩ := addR_ok h (hok r (by simp)) fun x hx => hs x hx r (by simp)
  obtain ⟨b1, b2⟩ := q9m (s := s) (out := qcw out r) hp.2 (fun x hx => hok x (by simp [hx])) a1 fun x hx y hy => Int.le_trans (a3 x hx) (hp.1 y hy)
  refine ⟨b1, fun n => ?_⟩
  rw [List.foldl_cons, b2 n, a2 n, q1c]
  constructor
  ·rintro ((h | h) | h)
   ·exact .inl h
   ·exact .inr (.inl h)
   ·exact .inr (.inr h)
  ·rintro (h | h | h)
   ·exact .inl (.inl h)
   ·exact .inl (.inr h)
   ·exact .inr h
theorem qe6 (s : List Rn) (out : List Rn) : (s.foldl qcw out).length ≤ out.length + s.length := by
 induction s generalizing out with
 | nil => simp
 | cons r s ih =>
  have h1 : (qcw out r).length ≤ out.length + 1 := by
   rcases List.eq_nil_or_concat out with rfl | ⟨l, x, rfl⟩
   ·simp [z16]
   ·simp only [List.concat_eq_append]
    rw [qcp]
    split <;> simp
  have := ih (qcw out r)
  simp only [List.foldl_cons, List.length_cons]
  omega
def sortR (l : List Rn) : List Rn := l.mergeSort (fun x y => decide (x.1 ≤ y.1))
theorem q92 (l : List Rn) : (sortR l).Perm l := List.mergeSort_perm l _
theorem q9p (l : List Rn) : (sortR l).Pairwise leLo := by
 have := List.pairwise_mergeSort (le := fun (x y : Rn) => decide (x.1 ≤ y.1)) (fun a b c h1 h2 => by simp at *; omega) (fun a b => by simp; omega) l
 exact this.imp fun {a b} h => by simpa [leLo] using h
def q11 (l : List Rn) : List Rn := (sortR (q0s l)).foldl qcw []
theorem qf9 {l s : List Rn} (hs : s.Pairwise leLo) (hp : s.Perm (q0s l)) : Can (s.foldl qcw []) ∧ ∀ n, inR (s.foldl qcw []) n ↔ mem1 l n := by
 obtain ⟨h1, h2⟩ := q9m (out := []) hs (fun r hr => q8s r (hp.mem_iff.1 hr)) Can.nil (fun x hx => by cases hx)
 refine ⟨h1, fun n => ?_⟩
 rw [h2 n, inR_perm hp, z0u]
 exact ⟨fun h => h.elim (fun h => absurd h (q4v n)) id, .inr⟩
theorem q2k (l : List Rn) : Can (q11 l) := (qf9 (q9p _) (q92 _)).1
theorem q8e (l : List Rn) (n : Int) : inR (q11 l) n ↔ mem1 l n := (qf9 (q9p _) (q92 _)).2 n
theorem normR_eq {l s : List Rn} (hs : s.Pairwise leLo) (hp : s.Perm (q0s l)) : s.foldl qcw [] = q11 l :=
 Can.ext (qf9 hs hp).1 (q2k l) fun n => by rw [(qf9 hs hp).2 n, q8e]
theorem zcq {l m : List Rn} (h : ∀ n, mem1 l n ↔ mem1 m n) : q11 l = q11 m :=
 Can.ext (q2k l) (q2k m) fun n => by rw [q8e, q8e, h]
theorem q1q {l : List Rn} (h : Can l) : q11 l = l := Can.ext (q2k l) h fun n => by rw [q8e, h.mem1]
theorem q4d (l : List Rn) : (q11 l).length ≤ l.length := by
 have h := qe6 (sortR (q0s l)) []
 have h2 := (q92 (q0s l)).length_eq
 have h3 := q8t l
 unfold q11
 simp only [List.length_nil] at h
 omega
def IsTop (q : Int → Prop) (m : Int) : Prop := (m = 0 ∨ q m) ∧ ∀ n, q n → n ≤ m
theorem IsTop.uniq {q : Int → Prop} {m m' : Int} (hq : ∀ n, q n → 1 ≤ n) (h : IsTop q m) (h' : IsTop q m') : m = m' := by
 rcases h.1 with h1 | h1 <;> rcases h'.1 with h2 | h2
 ·omega
 ·have := h.2 _ h2; have := hq _ h2; omega
 ·have := h'.2 _ h1; have := hq _ h1; omega
 ·have := h.2 _ h2; have := h'.2 _ h1; omega
theorem IsTop.iff {q q' : Int → Prop} {m : Int} (h : IsTop q m) (hq : ∀ n, q n ↔ q' n) : IsTop q' m := ⟨h.1.imp id (hq m).1, fun n hn => h.2 n ((hq n).2 hn)⟩

section
open Go.Shelf Go.RowKit Go.Lib Go.Sort
def con : AVal → Value
 | .int k n => .int k n
 | .bool b => .bool b
 | .str s => .string s
 | _ => undef
def AVal.isCon : AVal → Bool
 | .int _ _ => true
 | .bool _ => true
 | .str _ => true
 | _ => false
theorem con_VR {D : Nat → Nat → Prop} {G : Gh} {B : Nat → Prop} {w : World} {x : AVal} (h : x.isCon = true) : VR D G B w x (con x) := by
 cases x <;> simp only [AVal.isCon, Bool.false_eq_true] at h
 ·exact .int _ _
 ·exact .bool _
 ·exact .str _
theorem con_of {D : Nat → Nat → Prop} {G : Gh} {B : Nat → Prop} {w : World} {x : AVal} {v : Value} (h : x.isCon = true) (hv : VR D G B w x v) : v = con x := by
 cases x <;> simp only [AVal.isCon, Bool.false_eq_true] at h <;> cases hv <;> rfl
theorem con_one {x : AVal} (h : x.isCon = true) : (con x).oneCell' = true := by
 cases x <;> simp only [AVal.isCon, Bool.false_eq_true] at h <;> rfl
theorem con_AOne {x : AVal} (h : x.isCon = true) : x.one = true := by
 cases x <;> simp only [AVal.isCon, Bool.false_eq_true] at h <;> rfl
theorem Adv.grown {G G' : Gh} {w w' : World} (h : Adv G w G' w') (hG : ∀ b, G.ow b = none) : ∃ q os, w' = grow (w.drewN q) os := by
 refine ⟨w'.drawn - w.drawn, w'.heap.extract w.heap.size w'.heap.size, ?_⟩
 have hh : w'.heap = w.heap ++ w'.heap.extract w.heap.size w'.heap.size := by
  apply Array.ext_getElem?
  intro i
  rcases Nat.lt_or_ge i w.heap.size with hi | hi
  ·rw [Array.getElem?_append_left hi]
   exact (h.keep i hi (hG i)).1
  ·rw [Array.getElem?_append_right hi, Array.getElem?_extract]
   rw [show w.heap.size + (i - w.heap.size) = i by omega]
   split
   ·rfl
   ·exact Array.getElem?_eq_none (by omega)
 have h1 := h.os
 have h2 := h.tape
 have h3 := h.output
 cases w; cases w'
 simp only [grow, World.drewN] at *
 congr 1
 ·omega
 ·exact h1.1
theorem q6f {τ : Type} {c : τ → List AVal} (l : List τ) : flat (l.map fun x => .agg (c x)) = l.flatMap c := by
 induction l with
 | nil => rfl
 | cons x l ih => simp only [List.map_cons, q2l, ih, List.flatMap_cons]; rfl
theorem z1y {τ : Type} {c : τ → List AVal} {k : Nat} (hk : ∀ x, (c x).length = k) {l : List τ} {i j : Nat} {x : τ} (hi : l[i]? = some x) (hj : j < k) : (l.flatMap c)[i * k + j]? = (c x)[j]? := by
 rw [← q6f]
 rw [q9d (sz := k) (x := .agg (c x)) (i := i) (j := j) (fun y hy => ?_) (by simp [hi]) hj]
 ·rfl
 ·obtain ⟨z, _, rfl⟩ := List.mem_map.1 hy
  exact hk z
section
variable {P : Program} {ρ : Ren} {τ : Type} [Inhabited τ]
theorem sortOwn (L : SlLaysF0.n6 P ρ) (hc6 : Callable P (ρ.f 6)) (k : Nat) (h0k : 0 < k) (aE : ∀ w, (isAgg (ρ.t 24)).run P w = .ok true w) (zE : ∀ w, (Go.sizeOf (ρ.t 24)).run P w = .ok k w)
 (c : τ → List AVal) (hk : ∀ x, (c x).length = k) (hcon : ∀ x, ∀ y ∈ c x, y.isCon = true) (cf : τ → τ → Int) (hO : SWO (ltOf cf)) (g : FuncId) (hcmp : ∀ x y : τ, Ev P g [.agg (c x), .agg (c y)] (.ret (.int .i64 (cf x y)))) (l : List τ) (hl : l.length < 4611686018427387904) :
 ∃ s : List τ, s.Perm l ∧ s.Pairwise (fun x y => ltOf cf y x = false) ∧ EvOwn P (ρ.f 6) [.undef, .fn g []] 0 k (l.map fun x => .agg (c x)) false (.tup []) (s.map fun x => .agg (c x)) := by
 let d : Array τ := l.toArray
 let d' := pdq (ltOf cf) d 0 d.size (Lib.bitLen d.size) true true
 have hds : d.size = l.length := by simp [d]
 obtain ⟨hp, hsrt⟩ := pdq_sorts (ltOf cf) hO d 0 d.size (Lib.bitLen d.size) true true (Nat.zero_le _) (Nat.le_refl _) (Or.inl rfl)
 have hsz' : d'.size = d.size := hp.1
 have hperm : d'.toList.Perm l := by
  have := hp.2.2
  have e : ∀ (x : Array τ) (n : Nat), x.size = n → x.extract 0 n = x := by rintro x n rfl; exact Array.extract_size
  rw [e d _ rfl, e _ _ hsz'] at this
  simpa [d] using this
 have hpw : d'.toList.Pairwise (fun x y => ltOf cf y x = false) := by
  rw [List.pairwise_iff_getElem]
  intro i j hi hj hij
  have h1 : i < d'.size := by simpa using hi
  have h2 : j < d'.size := by simpa using hj
  have := hsrt i j (Nat.zero_le _) hij (by rw [← hsz']; exact h2)
  rw [show (pdq (ltOf cf) d 0 d.size (Lib.bitLen d.size) true true) = d' from rfl, getElem!_pos d' i h1, getElem!_pos d' j h2] at this
  simpa using this
 refine ⟨d'.toList, hperm, hpw, hc6, fun B w vs G hkey hvs hv hown hB hol => ?_⟩
 obtain ⟨v0, hv0, hown⟩ := hown
 obtain ⟨v1, hv1⟩ : ∃ v, vs[1]? = some v := ⟨vs[1]'(by rw [hvs]; simp), by simp [hvs]⟩
 have hfn := hv 1 (.fn g []) v1 (by decide) rfl hv1
 have hf1 : v1 = .func (.func g) #[] #[] := by
  cases hfn with
  | fn _ _ ws hl0 _ =>
   have : ws = #[] := Array.eq_empty_of_size_eq_zero (by simpa using hl0)
   rw [this]
 have hvs' : vs = #[v0, v1] := by
  have h2 : vs.size = 2 := hvs
  apply Array.ext_getElem?
  intro i
  match i with
  | 0 => simpa using hv0
  | 1 => simpa using hv1
  | i + 2 => rw [Array.getElem?_eq_none (by omega)]; simp
 rw [hvs', hf1]
 rcases hown with ⟨rfl, hnil⟩ | ⟨b, off, cap, cc, el, hb1, hb2, hb3, hb4, hb5, hb6, hb7, hb8, hb9⟩
 ·have hl0 : l = [] := by simpa using hnil
  have hd0 : d'.toList = [] := by rw [hl0] at hperm; exact hperm.eq_nil
  refine (AnyF.slices_SortFunc_none L none 0 (.func (.func g) #[] #[]) w).mono ?_
  rintro e w' ⟨rfl, rfl⟩
  refine ⟨G, .tuple #[], .slice none 0 0, rfl, hkey, hol, .refl G _, .inl ⟨rfl, by rw [hd0]; rfl⟩, fun h => (by cases h), fun _ => ⟨by simp, .tup [] #[] rfl fun n x v hx => by simp at hx⟩⟩
 ·rw [q6f] at hb8 hb9
  have hblk : b < w.heap.size := by
   rcases Nat.lt_or_ge b w.heap.size with h | h
   ·exact h
   ·rw [Array.getElem?_eq_none h] at hb5; cases hb5
  have hlen : (l.map fun x => AVal.agg (c x)).length = l.length := by simp
  rw [hlen] at hb1 hb2
  have hroom : off + l.length * k ≤ cc.size := by
   have := Nat.mul_le_mul_right k hb2
   omega
  let enc : τ → List Value := fun x => (c x).map con
  have hek : ∀ x, (enc x).length = k := fun x => by simp [enc, hk]
  have he1 : ∀ x, ∀ v ∈ enc x, v.oneCell' = true := fun x v hv => by
   obtain ⟨y, hy, rfl⟩ := List.mem_map.1 hv
   exact con_one (hcon x y hy)
  have cellv : ∀ (m : Array τ) (t : Nat), t < m.size * k → ∃ (x : τ) (y : AVal), m.toList[t / k]? = some x ∧ (c x)[t % k]? = some y ∧ (m.toList.flatMap c)[t]? = some y ∧ (flatK enc k m)[t]! = con y := by
   intro m t ht
   have h1 : t / k < m.size := Nat.div_lt_of_lt_mul (by rw [Nat.mul_comm]; exact ht)
   have h2 : t % k < k := Nat.mod_lt _ h0k
   have hx : m.toList[t / k]? = some m[t / k] := by simp [h1]
   have hy : (c m[t / k])[t % k]? = some ((c m[t / k])[t % k]'(by rw [hk]; exact h2)) := by simp [hk, h2]
   refine ⟨m[t / k], _, hx, hy, ?_, ?_⟩
   ·rw [← hy, ← z1y hk hx h2, Nat.mul_comm, Nat.div_add_mod]
   ·rw [get_flatK _ _ _ _ ht, getElem!_pos m _ h1, getElem!_pos (enc m[t / k]) _ (by rw [hek]; exact h2)]
    simp [enc]
  have hH : HoldsK enc k w b off d := by
   intro t ht
   rw [size_flatK, hds] at ht
   obtain ⟨x, y, e1, e2, e3, e4⟩ := cellv d t (by rw [hds]; exact ht)
   obtain ⟨u, hu, hr⟩ := hb9 t y (by simpa [d] using e3)
   have hx := hcon x y (List.mem_of_getElem? e2)
   refine ⟨?_, ?_⟩
   ·rw [q29 hb5, hu, con_of hx hr, e4]; rfl
   ·simp [World.frozen?, hb5]
  have hlays : CmpLays P g #[] enc k cf b off d.size w := by
   intro m os dk hdk x y
   have hE := (hcmp x y).2 (fun _ => False) (sortWorldK enc k w b off m dk os) #[.agg (enc x).toArray, .agg (enc y).toArray] { G with ow := fun _ => none } (fun _ => rfl) rfl (fun i z v hz hv => ?_) (fun _ h => h.elim)
   ·refine hE.mono ?_
    rintro e w' ⟨G', v', hG', hA, he, hr⟩
    cases hr
    exact ⟨he, hA.grown (fun _ => rfl)⟩
   ·have hone : ∀ x : τ, VR (Dm NoM) { G with ow := fun _ => none } (fun _ => False) (sortWorldK enc k w b off m dk os) (.agg (c x)) (.agg (enc x).toArray) := fun x => by
     refine .agg _ _ (by simp [enc]) fun n z v hz hv => ?_
     simp only [enc, List.getElem?_toArray, List.getElem?_map, hz, Option.map_some, Option.some.injEq] at hv
     subst hv
     exact con_VR (hcon x z (List.mem_of_getElem? hz))
    match i with
    | 0 => simp at hz hv; subst hz; subst hv; exact hone x
    | 1 => simp at hz hv; subst hz; subst hv; exact hone y
    | i + 2 => simp at hz
  have eg : ∀ args w, (callFunc g args).run P w = .ok (.enter g args) w := fun args w => by
   obtain ⟨fn, hfn, hnm, hbd⟩ := (hcmp default default).1.ok
   have e1 : (fn.name = "runtime.NumGoroutine") = False := by simpa using hnm
   have e2 : (fn.body = none) = False := by simp only [eq_iff_iff, iff_false]; intro hn; rw [hn] at hbd; simp at hbd
   simp [callFunc, hfn, e1, e2]
  have hmain := AnyQ.slices_SortFunc_eq L k aE zE enc hek he1 cf hO g #[] b off cap d w eg hlays hH hblk (by rw [hds]; exact hl)
  rw [hb1, show l.length = d.size by rw [hds]]
  refine hmain.mono ?_
  rintro e w' ⟨rfl, n, os, hw'⟩
  have hw0 : ∀ b', b' < w.heap.size → w'.heap[b']? = if b' = b then some (.cells (putCells id off (flatK enc k d') cc) el (0, 0)) else w.heap[b']? := by
   intro b' hb'
   rw [hw']
   simp only [sortWorldK, grow, putRowK, putRow, mapBlock, Sort.ahead]
   rw [Array.getElem?_append_left (by simpa using hb'), Array.getElem?_modify]
   by_cases hbb : b = b'
   ·subst hbb
    rw [if_pos rfl, if_pos rfl, hb5]
    rfl
   ·rw [if_neg hbb, if_neg (Ne.symm hbb)]
  have hsize : w.heap.size ≤ w'.heap.size := by
   rw [hw']
   simp [sortWorldK, grow, putRowK, putRow, mapBlock, Sort.ahead]
  have hkeep : ∀ b', b' < w.heap.size → G.ow b' = none → w'.heap[b']? = w.heap[b']? ∧ G.ow b' = none := fun b' hb' ho => by
   refine ⟨?_, ho⟩
   rw [hw0 b' hb', if_neg]
   rintro rfl
   rw [hb3] at ho; cases ho
  have hA : Adv G w G w' := ⟨by rw [hw']; exact ⟨rfl, Nat.le_add_right _ _⟩, by rw [hw']; rfl, by rw [hw']; rfl, hsize, hkeep⟩
  refine ⟨G, .tuple #[], v0, rfl, hkey, fun b' hb' => Nat.lt_of_lt_of_le (hol b' hb') hsize, hA, .inr ⟨b, off, cap, putCells id off (flatK enc k d') cc, el, ?_, ?_, hb3, hb4, ?_, ?_, ?_, ?_, ?_⟩, fun h => (by cases h), fun _ => ⟨by simp [hb1, hds], .tup [] #[] rfl fun n x v hx => by simp at hx⟩⟩
  ·rw [hb1]; simp [hsz', hds]
  ·simp only [List.length_map, Array.length_toList, hsz', hds]; exact hb2
  ·rw [hw0 b hblk, if_pos rfl]
  ·simp only [putCells, Array.size_mapIdx]; exact hb6
  ·intro x hx
   obtain ⟨z, _, rfl⟩ := List.mem_map.1 hx
   exact hk z
  ·intro x hx
   rw [q6f] at hx
   obtain ⟨z, _, hz⟩ := List.mem_flatMap.1 hx
   exact con_AOne (hcon z x hz)
  ·intro t x hx
   rw [q6f] at hx
   have htl : t < d'.size * k := by
    have h1 : t < (d'.toList.flatMap c).length := by
     rcases Nat.lt_or_ge t (d'.toList.flatMap c).length with h | h
     ·exact h
     ·rw [List.getElem?_eq_none h] at hx; cases hx
    rwa [← q6f, q0q (sz := k) (fun y hy => by obtain ⟨z, _, rfl⟩ := List.mem_map.1 hy; exact hk z), List.length_map, Array.length_toList] at h1
   obtain ⟨z, y, e1, e2, e3, e4⟩ := cellv d' t htl
   rw [hx] at e3
   cases e3
   have hlt : off + t < cc.size := by rw [hsz', hds] at htl; omega
   refine ⟨con x, ?_, con_VR (hcon z x (List.mem_of_getElem? e2))⟩
   simp only [putCells, Array.getElem?_mapIdx, Array.getElem?_eq_getElem hlt, Option.map_some]
   rw [if_pos ⟨by omega, by rw [size_flatK]; omega⟩, show off + t - off = t by omega, e4]
   rfl
end
end
def qth : List SOp := [zO 2 (.assign (.const (.slice none 0 0)))]
instance : Live qth := ⟨[0]⟩
def qtg : List SOp := [zM 3 0,zO 4 (.buildSlice 190 1 #[(0,.tmp 3)]),zO 5 (.call ⟨.value (.func 158),#[.tmp 4],#[190]⟩),zG 2 5]
instance : Live qtg := ⟨[0]⟩
def t_k150 : SC :=
 (.seq (.ops false qth) (.seq (.ops false qtg) .ret))
theorem it_k150 : FnIs Tryz.prog 150 6 [.tmp 2] t_k150 := ⟨Tryz.f150, _, Tryz.func150, rfl, rfl, rfl, rfl, by kernel_rfl⟩

theorem z26 (l m : List Rn) (hU : Ev (En Tryz.prog rfl).P 158 [.sl 1 [.sl 2 (q0f l)]] (.ret (.sl 2 (q0f m)))) : Ev (En Tryz.prog rfl).P 150 [.sl 2 (q0f l)] (.ret (.sl 2 (q0f m))) := by
 refine Ev.of_body it_k150 (by simp) (Run.start ?_)
 unfold t_k150
 (focus (have hF := True.intro; (repeat' (first | refine go0 (k:=?_) | fail)); all_goals clear hF))
 refine q4r (l := [.sl 1 [.sl 2 (q0f l)]]) rfl rfl (by simp [q0i, AVal.stb, q09]) hU ?_
 (focus (have hF := True.intro; (repeat' (first | refine go0 (k:=?_) | fail)); all_goals clear hF))
 exact Fin.tmp' rfl (q09 m)

def qsv : List SOp := [zO 2 (.assign (.const (.slice none 0 0)))]
instance : Live qsv := ⟨[0]⟩
def qsu : List SOp := [zO 3 (.assign (.const (.slice none 0 0)))]
instance : Live qsu := ⟨[0]⟩
def qst : List SOp := [zM 13 0,zO 14 (.call ⟨.builtin .len,#[.tmp 13],#[190]⟩),zO 15 (.move (.const (.int .i64 0)))]
instance : Live qst := ⟨[0,3]⟩
def qss : List SOp := [zO 16 (.binOp .lss 3 (.tmp 15) (.tmp 14) 3)]
instance : Live qss := ⟨[3,13,14,15]⟩
def qsr : List SOp := [zI 17 190 13 15,zL 18 173 17,zG 5 18]
instance : Live qsr := ⟨[3,13,14,15]⟩
def qsq : List SOp := [zM 19 5,zO 20 (.call ⟨.builtin .len,#[.tmp 19],#[173]⟩),zO 21 (.move (.const (.int .i64 0)))]
instance : Live qsq := ⟨[3,5,13,14,15]⟩
def qsp : List SOp := [zO 22 (.binOp .lss 3 (.tmp 21) (.tmp 20) 3)]
instance : Live qsp := ⟨[3,13,14,15,19,20,21]⟩
def qso : List SOp := [zI 23 173 19 21,zL 24 177 23,zO 7 (.alloc 177),⟨none,.store 177 (.tmp 7) (.tmp 24),none⟩]
instance : Live qso := ⟨[3,13,14,15,19,20,21]⟩
def qsn : List SOp := [zL 26 177 7,zO 27 (.call ⟨.value (.func 159),#[.tmp 26],#[177]⟩),zM 25 27,zX 28 25 0,zX 29 25 1,zO 8 (.alloc 177),⟨none,.store 177 (.tmp 8) (.tmp 28),none⟩,zG 9 29]
instance : Live qsn := ⟨[3,7,13,14,15,19,20,21]⟩
def qi1 : List SOp := [zM 30 9]
instance : Live qi1 := ⟨[3,8,9,13,14,15,19,20,21]⟩
def qi0 : List SOp := [zM 31 3,zL 32 177 8,zO 33 (.buildSlice 173 1 #[(0,.tmp 32)]),zO 34 (.call ⟨.builtin .append,#[.tmp 31,.tmp 33],#[173,173]⟩),zG 3 34]
instance : Live qi0 := ⟨[3,8,13,14,15,19,20,21]⟩
def qhz : List SOp := [zO 35 (.binOp .add 3 (.tmp 21) (.const (.int .i64 1)) 3),zM 21 35]
instance : Live qhz := ⟨[3,13,14,15,19,20,21]⟩
def qhy : List SOp := [zO 36 (.binOp .add 3 (.tmp 15) (.const (.int .i64 1)) 3),zM 15 36]
instance : Live qhy := ⟨[3,13,14,15]⟩
def qhx : List SOp := [zM 37 3,zO 38 (.call ⟨.value (.func 160),#[.tmp 37,.func 161],#[173,194]⟩)]
instance : Live qhx := ⟨[3]⟩
def qhw : List SOp := [zO 10 (.assign (.const (.slice none 0 0)))]
instance : Live qhw := ⟨[3]⟩
def qhv : List SOp := [zM 39 3,zO 40 (.call ⟨.builtin .len,#[.tmp 39],#[173]⟩),zO 41 (.move (.const (.int .i64 0)))]
instance : Live qhv := ⟨[3,10]⟩
def qhu : List SOp := [zO 42 (.binOp .lss 3 (.tmp 41) (.tmp 40) 3)]
instance : Live qhu := ⟨[10,39,40,41]⟩
def qht : List SOp := [zI 43 173 39 41,zL 44 177 43,zO 12 (.alloc 177),⟨none,.store 177 (.tmp 12) (.tmp 44),none⟩]
instance : Live qht := ⟨[10,39,40,41]⟩
def qhs : List SOp := [zM 45 10,zL 46 177 12,zO 47 (.call ⟨.value (.func 162),#[.tmp 45,.tmp 46],#[173,177]⟩),zG 10 47]
instance : Live qhs := ⟨[10,12,39,40,41]⟩
def qhr : List SOp := [zO 48 (.binOp .add 3 (.tmp 41) (.const (.int .i64 1)) 3),zM 41 48]
instance : Live qhr := ⟨[10,39,40,41]⟩
def qhq : List SOp := [zM 49 10,zG 2 49]
instance : Live qhq := ⟨[10]⟩
def qgo : SC :=
 (.seq (.ops false qsp) (.seq (.cond (.tmp 22) .skip (.exit 2)) (.seq (.block 3 (.seq (.ops false qso) (.seq (.ops false qsn) (.seq (.ops false qi1) (.cond (.tmp 30) (.ops false qi0) .skip))))) (.ops false qhz))))
def qgp : SC :=
 (.seq (.ops false qss) (.seq (.cond (.tmp 16) .skip (.exit 0)) (.seq (.block 1 (.seq (.ops false qsr) (.seq (.ops false qsq) (.block 2 (.loop qgo))))) (.ops false qhy))))
def qgn : SC :=
 (.seq (.ops false qhu) (.seq (.cond (.tmp 42) .skip (.exit 4)) (.seq (.block 5 (.seq (.ops false qht) (.ops false qhs))) (.ops false qhr))))
def t_k158 : SC :=
 (.seq (.ops false qsv) (.seq (.ops false qsu) (.seq (.seq (.ops false qst) (.block 0 (.loop qgp))) (.seq (.ops false qhx) (.seq (.ops false qhw) (.seq (.seq (.ops false qhv) (.block 4 (.loop qgn))) (.seq (.ops false qhq) .ret)))))))
theorem it_k158 : FnIs Tryz.prog 158 50 [.tmp 2] t_k158 := ⟨Tryz.f158, _, Tryz.func158, rfl, rfl, rfl, rfl, by kernel_rfl⟩

def qsk : List SOp := [zM 5 0,zO 6 (.call ⟨.builtin .len,#[.tmp 5],#[173]⟩),zG 4 6]
instance : Live qsk := ⟨[0,1]⟩
def qsj : List SOp := [zM 7 0,zM 8 4,zM 9 4,zO 10 (.convert 3 198 (.tmp 9)),zO 11 (.call ⟨.value (.func 164),#[.tmp 10],#[198]⟩),zM 12 1,zO 13 (.call ⟨.value (.func 163),#[.tmp 7,.const (.int .i64 0),.tmp 8,.tmp 11,.tmp 12],#[173,3,3,3,194]⟩)]
instance : Live qsj := ⟨[0,1,4]⟩
def t_k160 : SC :=
 (.seq (.ops false qsk) (.ops false qsj))
theorem it_k160 : FnIs Tryz.prog 160 14 [] t_k160 := ⟨Tryz.f160, _, Tryz.func160, rfl, rfl, rfl, rfl, by kernel_rfl⟩

section
open Go.Proofs Go.Shelf Go.RowKit Go.Lib Go.Sort
def qc7 : Go.Shelf.Ren := ⟨fun | 6 => 160 | 15 => 164 | 14 => 163 | 28 => 173 | 29 => 174 | 20 => 165 | 21 => 166 | 22 => 167 | 23 => 168 | 24 => 169 | 25 => 170 | 26 => 171 | 27 => 172 | 46 => 175 | 47 => 176 | 48 => 177 | 49 => 178 | 50 => 179 | 57 => 180 | n => n, fun | 22 => 173 | 24 => 177 | 25 => 194 | 3 => 3 | 39 => 198 | 0 => 0 | 53 => 208 | 55 => 210 | 4 => 4 | 46 => 201 | 45 => 200 | 50 => 205 | 5 => 5 | 9 => 9 | 66 => 211 | 70 => 215 | 76 => 217 | 77 => 136 | n => n, fun | n => n⟩
theorem qnw : Go.Proofs.SlLaysF0.n6 Tryz.prog qc7 where
 mixed := by kernel_rfl
 f6 := ⟨Tryz.f160.name, by decide, Tryz.func160.trans (congrArg some (by kernel_rfl))⟩
 f14 := ⟨Tryz.f163.name, by decide, Tryz.func163.trans (congrArg some (by kernel_rfl))⟩
 f15 := Tryz.func164.trans (congrArg some (by kernel_rfl))
 f20 := ⟨Tryz.f165.name, by decide, Tryz.func165.trans (congrArg some (by kernel_rfl))⟩
 f21 := ⟨Tryz.f166.name, by decide, Tryz.func166.trans (congrArg some (by kernel_rfl))⟩
 f22 := ⟨Tryz.f167.name, by decide, Tryz.func167.trans (congrArg some (by kernel_rfl))⟩
 f23 := ⟨Tryz.f168.name, by decide, Tryz.func168.trans (congrArg some (by kernel_rfl))⟩
 f24 := ⟨Tryz.f169.name, by decide, Tryz.func169.trans (congrArg some (by kernel_rfl))⟩
 f25 := ⟨Tryz.f170.name, by decide, Tryz.func170.trans (congrArg some (by kernel_rfl))⟩
 f26 := ⟨Tryz.f171.name, by decide, Tryz.func171.trans (congrArg some (by kernel_rfl))⟩
 f27 := ⟨Tryz.f172.name, by decide, Tryz.func172.trans (congrArg some (by kernel_rfl))⟩
 f28 := Tryz.func173.trans (congrArg some (by kernel_rfl))
 f29 := Tryz.func174.trans (congrArg some (by kernel_rfl))
 f46 := ⟨Tryz.f175.name, by decide, Tryz.func175.trans (congrArg some (by kernel_rfl))⟩
 f47 := Tryz.func176.trans (congrArg some (by kernel_rfl))
 f48 := Tryz.func177.trans (congrArg some (by kernel_rfl))
 f49 := ⟨Tryz.f178.name, by decide, Tryz.func178.trans (congrArg some (by kernel_rfl))⟩
 f50 := ⟨Tryz.f179.name, by decide, Tryz.func179.trans (congrArg some (by kernel_rfl))⟩
 f57 := ⟨Tryz.f180.name, by decide, Tryz.func180.trans (congrArg some (by kernel_rfl))⟩
 t0 := Tryz.underlying0
 a0 := Tryz.isAgg0
 z0 := Tryz.sizeOf0
 v0 := Tryz.zeroValue0
 t3 := Tryz.underlying3
 a3 := Tryz.isAgg3
 z3 := Tryz.sizeOf3
 v3 := Tryz.zeroValue3
 t4 := Tryz.underlying4
 a4 := Tryz.isAgg4
 z4 := Tryz.sizeOf4
 v4 := Tryz.zeroValue4
 t5 := Tryz.underlying5
 a5 := Tryz.isAgg5
 z5 := Tryz.sizeOf5
 v5 := Tryz.zeroValue5
 t9 := Tryz.underlying9
 a9 := Tryz.isAgg9
 z9 := Tryz.sizeOf9
 v9 := Tryz.zeroValue9
 t22 := Tryz.underlying173
 a22 := Tryz.isAgg173
 z22 := Tryz.sizeOf173
 v22 := Tryz.zeroValue173
 t25 := Tryz.underlying194
 a25 := Tryz.isAgg194
 z25 := Tryz.sizeOf194
 v25 := Tryz.zeroValue194
 t39 := Tryz.underlying198
 a39 := Tryz.isAgg198
 z39 := Tryz.sizeOf198
 v39 := Tryz.zeroValue198
 t45 := Tryz.underlying200
 a45 := Tryz.isAgg200
 z45 := Tryz.sizeOf200
 v45 := Tryz.zeroValue200
 t46 := Tryz.underlying201
 a46 := Tryz.isAgg201
 z46 := Tryz.sizeOf201
 v46 := Tryz.zeroValue201
 t50 := Tryz.underlying205
 a50 := Tryz.isAgg205
 z50 := Tryz.sizeOf205
 v50 := Tryz.zeroValue205
 t53 := Tryz.underlying208
 a53 := Tryz.isAgg208
 z53 := Tryz.sizeOf208
 v53 := Tryz.zeroValue208
 t55 := Tryz.underlying210
 a55 := Tryz.isAgg210
 z55 := Tryz.sizeOf210
 v55 := Tryz.zeroValue210
 t66 := Tryz.underlying211
 a66 := Tryz.isAgg211
 z66 := Tryz.sizeOf211
 v66 := Tryz.zeroValue211
 t70 := Tryz.underlying215
 a70 := Tryz.isAgg215
 z70 := Tryz.sizeOf215
 v70 := Tryz.zeroValue215
 t76 := Tryz.underlying217
 a76 := Tryz.isAgg217
 z76 := Tryz.sizeOf217
 v76 := Tryz.zeroValue217
 t77 := Tryz.underlying136
 a77 := Tryz.isAgg136
 z77 := Tryz.sizeOf136
 v77 := Tryz.zeroValue136
end
section
open Go.Proofs Go.Shelf Go.RowKit Go.Lib Go.Sort
abbrev RnOk := { r : Rn // okR r }
instance : Inhabited RnOk := ⟨⟨(1, 1), by unfold okR; decide⟩⟩
theorem FnIs.callable {P : Program} {f : FuncId} {n : Nat} {rs : List ResultVar} {sc : SC} (h : FnIs P f n rs sc) : Callable P f := by
 obtain ⟨fn, c, h1, h2, h3, _⟩ := h
 exact ⟨⟨fn, h1, h2, by simp [h3]⟩⟩
theorem qo2 (l : List Rn) (hok : ∀ r ∈ l, okR r) (hl : l.length ≤ 1000000000) :
 ∃ s : List Rn, s.Perm l ∧ s.Pairwise leLo ∧ EvOwn (En Tryz.prog rfl).P 160 [.undef, .fn 161 []] 0 2 (q0f l) false (.tup []) (q0f s) := by
 have hlt : ∀ x y : RnOk, ltOf (fun x y : RnOk => x.1.1 - y.1.1) x y = decide (x.1.1 < y.1.1) := fun x y => by
  unfold ltOf
  simp only [decide_eq_decide]
  omega
 obtain ⟨s, h1, h2, h3⟩ := sortOwn (τ := RnOk) qnw (FnIs.callable it_k160) 2 (by decide) Tryz.isAgg177 Tryz.sizeOf177 (fun x => [.int .i64 x.1.1, .int .i64 x.1.2]) (fun _ => rfl)
  (fun x y hy => by simp at hy; rcases hy with rfl | rfl <;> rfl) (fun x y => x.1.1 - y.1.1)
  ⟨fun x => by rw [hlt]; simp, fun x y z h1 h2 => by rw [hlt] at *; simp at *; omega, fun x y z h1 h2 => by rw [hlt] at *; simp at *; omega⟩
  161 (fun x y => ev_k161 x.1 y.1 (by have := x.2; unfold okR at this; omega) (by have := y.2; unfold okR at this; omega)) (l.attachWith okR hok) (by simp; omega)
 refine ⟨s.map (·.1), ?_, ?_, ?_⟩
 ·have := h1.map (·.1)
  have e0 : (l.attachWith okR hok).map (·.1) = l := List.ext_getElem (by simp) (by simp)
  rw [e0] at this
  exact this
 ·rw [List.pairwise_map]
  refine h2.imp fun {a b} h => ?_
  rw [hlt] at h
  simp at h
  exact h
 ·have e1 : (l.attachWith okR hok).map (fun x => AVal.agg [.int .i64 x.1.1, .int .i64 x.1.2]) = q0f l := by
   have : (l.attachWith okR hok).map (fun x => AVal.agg [.int .i64 x.1.1, .int .i64 x.1.2]) = ((l.attachWith okR hok).map (·.1)).map q6w := by rw [List.map_map]; rfl
   rw [this]
   simp [q0f]
  have e2 : s.map (fun x => AVal.agg [.int .i64 x.1.1, .int .i64 x.1.2]) = q0f (s.map (·.1)) := by
   rw [q0f, List.map_map]; rfl
  rw [e1, e2] at h3
  exact h3
theorem qla (r : Rn) : Ev (En Tryz.prog rfl).P 159 [q6w r] (.ret (.tup [.agg [.int .i64 (max r.1 1), .int .i64 (min r.2 1000000000)], .bool (decide (max r.1 1 ≤ min r.2 1000000000))])) := ev_k159 r
def q5o (ss : List (List Rn)) : List AVal := ss.map fun l => .sl 2 (q0f l)
theorem q4g (ss : List (List Rn)) : q0i (q5o ss) = true := q3g fun l => q09 l
theorem qo6 (ss : List (List Rn)) : (q5o ss).length = ss.length := by simp [q5o]
theorem z2a (l : List Rn) (a b : Int) : q0f l ++ [.agg [.int .i64 a, .int .i64 b]] = q0f (l ++ [(a, b)]) := by simp [q0f, q6w]
theorem qoc {l : List Rn} {i : Nat} {r : Rn} (h : l[i]? = some r) : q0s (l.take (i + 1)) = q0s (l.take i) ++ q0s [r] := by
 rw [List.take_add_one, h, q4q]
 rfl
theorem zeb {r : Rn} (h : max r.1 1 ≤ min r.2 1000000000) : q0s [r] = [(max r.1 1, min r.2 1000000000)] := by rw [q6y, if_pos (show (q4x r).1 ≤ (q4x r).2 from h)]; rfl
theorem clips_no {r : Rn} (h : ¬ max r.1 1 ≤ min r.2 1000000000) : q0s [r] = [] := by rw [q6y, if_neg (show ¬ (q4x r).1 ≤ (q4x r).2 from h)]; rfl
theorem ql7 {α : Type} {ss : List (List α)} {i : Nat} {l : List α} (h : ss[i]? = some l) : (ss.take (i + 1)).flatten = (ss.take i).flatten ++ l := by
 rw [List.take_add_one, h]
 simp
theorem qon {s : List Rn} (hs : s.Pairwise leLo) (hok : ∀ r ∈ s, okR r) (i : Nat) : Can ((s.take i).foldl qcw []) :=
 (q9m (out := []) (hs.sublist (List.take_sublist i s)) (fun r hr => hok r (List.mem_of_mem_take hr)) Can.nil (fun x hx => by cases hx)).1
theorem ev_k158 (ss : List (List Rn)) (hl : ss.length ≤ 900000000) (hw : ss.flatten.length ≤ 900000000) : Ev (En Tryz.prog rfl).P 158 [.sl 1 (q5o ss)] (.ret (.sl 2 (q0f (q11 ss.flatten)))) := by
 refine Ev.of_body it_k158 (by simp) (Run.start ?_)
 unfold t_k158
 have e0 := qo6 ss
 (focus (have hF := @e0; (repeat' (first | refine go1 (k:=?_) | with_reducible refine Ny.of ?_ ?_ | (refine Hyp.of ?_; intro hc; (try simp only [hc]); (try simp only [Bh] at hc)))); all_goals clear hF))
 refine Run.wk (Wk.own_nil 3 34 2 rfl rfl) ?_
 refine Run.while (σ := Nat) (fun i => ⟨tms [(3, .os 34 (q0s (ss.take i).flatten).length), (13, .sl 1 (q5o ss)), (14, .int .i64 ss.length), (15, .int .i64 i)], mms [(34, .arr (q0s (ss.take i).flatten).length 2 (q0f (q0s (ss.take i).flatten)))]⟩)
  (fun i => i ≤ ss.length) (fun i => ss.length - i) 0 (have hW := @q4g; q0t) (Nat.zero_le _) ?_
 intro i hi
 unfold qgp
 by_cases hlt : i < ss.length
 ·obtain ⟨row, hrow⟩ : ∃ row, ss[i]? = some row := ⟨ss[i], by simp [hlt]⟩
  have e1 : (q5o ss)[i]? = some (.sl 2 (q0f row)) := by simp [q5o, hrow]
  have e2 := q33 row
  have hft := ql7 hrow
  have hrl : (ss.take (i + 1)).flatten.length ≤ ss.flatten.length := by
   have h := List.take_append_drop (i + 1) ss
   have h2 : ss.flatten = (ss.take (i + 1)).flatten ++ (ss.drop (i + 1)).flatten := by rw [← List.flatten_append, h]
   rw [h2]; simp
  have hrl2 : row.length ≤ ss.flatten.length := by rw [hft] at hrl; simp only [List.length_append] at hrl; omega
  generalize (ss.take i).flatten = acc at hft ⊢
  (focus (have hF := (aI @e0 (aI @e1 @e2)); (repeat' (first | refine go1 (k:=?_) | with_reducible refine Ny.of ?_ ?_ | (refine Hyp.of ?_; intro hc; (try simp only [hc]); (try simp only [Bh] at hc)))); all_goals clear hF))
  refine Run.while (σ := Nat) (fun j => ⟨tms [(3, .os 34 (q0s (acc ++ row.take j)).length), (13, .sl 1 (q5o ss)), (14, .int .i64 ss.length), (15, .int .i64 i), (19, .sl 2 (q0f row)), (20, .int .i64 row.length), (21, .int .i64 j)], mms [(34, .arr (q0s (acc ++ row.take j)).length 2 (q0f (q0s (acc ++ row.take j))))]⟩)
   (fun j => j ≤ row.length) (fun j => row.length - j) 0 (have hW := @q4g; q0t) (Nat.zero_le _) ?_
  intro j hj
  unfold qgo
  by_cases hjl : j < row.length
  ·obtain ⟨r, hr⟩ : ∃ r, row[j]? = some r := ⟨row[j], by simp [hjl]⟩
   have g1 : (q0f row)[j]? = some (.agg [.int .i64 r.1, .int .i64 r.2]) := q8q hr
   have hk : q0s (acc ++ row.take (j + 1)) = q0s (acc ++ row.take j) ++ q0s [r] := by rw [q4q, qoc hr, q4q, List.append_assoc]
   have hb : (q0s (acc ++ row.take j)).length ≤ 900000000 := by
    have h1 := q8t (acc ++ row.take j)
    have h2 : (acc ++ row.take j).length ≤ (acc ++ row).length := by simp only [List.length_append, List.length_take]; omega
    rw [← hft] at h2
    omega
   have g2 := q33 (q0s (acc ++ row.take j))
   (focus (have hF := (aI (aI @e0 @e1) (aI @e2 @g1)); (repeat' (first | refine go1 (k:=?_) | with_reducible refine Ny.of ?_ ?_ | (refine Hyp.of ?_; intro hc; (try simp only [hc]); (try simp only [Bh] at hc)))); all_goals clear hF))
   refine q05 [q6w r] (he := qla r) (k:=?_)
   (focus (have hF := (aI (aI @e0 (aI @e1 @e2)) (aI @g1 (aI @g2 @z2a))); (repeat' (first | refine go1 (k:=?_) | with_reducible refine Ny.of ?_ ?_ | (refine Hyp.of ?_; intro hc; (try simp only [hc]); (try simp only [Bh] at hc)))); all_goals clear hF))
   ·have hk2 := hk.trans (by rw [zeb hc])
    (refine Fin.nextW (j + 1) ?_ (have hW := (aI @hk2 @q4g); q0t); (try dsimp only))
    omega
   ·have hk2 := hk.trans (by rw [clips_no hc, List.append_nil])
    (refine Fin.nextW (j + 1) ?_ (have hW := (aI @hk2 @q4g); q0t); (try dsimp only))
    omega
  ·have hje : acc ++ row.take j = (ss.take (i + 1)).flatten := by rw [hft, show j = row.length by omega, List.take_length]
   rw [hje]
   (focus (have hF := (aI @e0 (aI @e1 @e2)); (repeat' (first | refine go1 (k:=?_) | with_reducible refine Ny.of ?_ ?_ | (refine Hyp.of ?_; intro hc; (try simp only [hc]); (try simp only [Bh] at hc)))); all_goals clear hF))
   (refine Fin.nextW (i + 1) ?_ (have hW := @q4g; q0t); (try dsimp only))
   omega
 ·have hie : (ss.take i).flatten = ss.flatten := by rw [show i = ss.length by omega, List.take_length]
  rw [hie]
  have hcl := q8t ss.flatten
  obtain ⟨s, hp, hs, hsort⟩ := qo2 (q0s ss.flatten) q8s (by omega)
  have hres := normR_eq hs hp
  have hok : ∀ r ∈ s, okR r := fun r hr => q8s r (hp.mem_iff.1 hr)
  have hlen := hp.length_eq
  rw [← hres]
  generalize q0s ss.flatten = c at *
  (focus (have hF := @e0; (repeat' (first | refine go1 (k:=?_) | with_reducible refine Ny.of ?_ ?_ | (refine Hyp.of ?_; intro hc; (try simp only [hc]); (try simp only [Bh] at hc)))); all_goals clear hF))
  refine awp_turn (args' := [.undef, .fn 161 []]) 0 34 rfl rfl rfl rfl rfl (q09 _) (q09 s) rfl hsort ?_
  have g0 := q33 s
  (focus (have hF := (aI @e0 @g0); (repeat' (first | refine go1 (k:=?_) | with_reducible refine Ny.of ?_ ?_ | (refine Hyp.of ?_; intro hc; (try simp only [hc]); (try simp only [Bh] at hc)))); all_goals clear hF))
  refine Run.wk (Wk.own_nil 10 47 2 rfl rfl) ?_
  refine Run.while (σ := Nat) (fun i => ⟨tms [(10, .os 47 i), (39, .os 34 c.length), (40, .int .i64 s.length), (41, .int .i64 i)], mms [(34, .arr c.length 2 (q0f s)), (47, .arr i 2 (q0f ((s.take i).foldl qcw [])))]⟩)
   (fun i => i ≤ s.length) (fun i => s.length - i) 0 (have hW := True.intro; q0t) (Nat.zero_le _) ?_
  clear hi hlt hie
  intro i hi
  unfold qgn
  by_cases hlt : i < s.length
  ·obtain ⟨r, hr⟩ : ∃ r, s[i]? = some r := ⟨s[i], by simp [hlt]⟩
   have g1 : (q0f s)[i]? = some (.agg [.int .i64 r.1, .int .i64 r.2]) := q8q hr
   have hcan := qon hs hok i
   have hle := qe6 (s.take i) []
   have hnx := q3d qcw [] s hr
   simp only [List.length_nil, List.length_take] at hle
   generalize (s.take i).foldl qcw [] = out at hcan hle hnx ⊢
   (focus (have hF := (aI @e0 (aI @g0 @g1)); (repeat' (first | refine go1 (k:=?_) | with_reducible refine Ny.of ?_ ?_ | (refine Hyp.of ?_; intro hc; (try simp only [hc]); (try simp only [Bh] at hc)))); all_goals clear hF))
   refine z11 (args' := [.undef, q6w r]) 0 47 rfl rfl rfl rfl rfl (q09 _) (q09 _) (ev_k162 out r (fun x hx => by have := hcan.2 x hx; unfold okR at this; omega) (by omega)) ?_
   (focus (have hF := (aI @e0 (aI @g0 @g1)); (repeat' (first | refine go1 (k:=?_) | with_reducible refine Ny.of ?_ ?_ | (refine Hyp.of ?_; intro hc; (try simp only [hc]); (try simp only [Bh] at hc)))); all_goals clear hF))
   (refine Fin.nextW (i + 1) ?_ (have hW := @hnx; q0t); (try dsimp only))
   omega
  ·rw [show i = s.length by omega, List.take_length]
   (focus (have hF := (aI @e0 @g0); (repeat' (first | refine go1 (k:=?_) | with_reducible refine Ny.of ?_ ?_ | (refine Hyp.of ?_; intro hc; (try simp only [hc]); (try simp only [Bh] at hc)))); all_goals clear hF))
   exact stRet (.sl 2 (q0f (s.foldl qcw [])))
theorem zdq (l : List Rn) (hl : l.length ≤ 900000000) : Ev (En Tryz.prog rfl).P 150 [.sl 2 (q0f l)] (.ret (.sl 2 (q0f (q11 l)))) := by
 refine z26 l (q11 l) ?_
 have h := ev_k158 [l] (by simp) (by simpa using hl)
 simpa [q5o] using h
end
def qvf : List SOp := [zO 2 (.assign (.const (.int .i64 0))),zO 3 (.assign (.const (.slice none 0 0)))]
instance : Live qvf := ⟨[0]⟩
def qve : List SOp := [zM 5 0,zO 6 (.call ⟨.value (.func 150),#[.tmp 5],#[173]⟩),zG 4 6]
instance : Live qve := ⟨[0]⟩
def qvd : List SOp := [zM 7 4,zO 8 (.call ⟨.builtin .len,#[.tmp 7],#[173]⟩),zO 9 (.binOp .eql 3 (.tmp 8) (.const (.int .i64 0)) 3),zM 10 9,⟨some 11,.move (.tmp 4),some ((some 10),false)⟩,⟨some 12,.indexAddr 173 (.tmp 11) (.const (.int .i64 0)),some ((some 10),false)⟩,⟨some 13,.fieldAddr 177 (.tmp 12) 0,some ((some 10),false)⟩,⟨some 14,.load 3 (.tmp 13),some ((some 10),false)⟩,⟨some 15,.binOp .neq 3 (.tmp 14) (.const (.int .i64 1)) 3,some ((some 10),false)⟩,zO 16 (.pick (.tmp 10) (.const (.bool true)) (.tmp 15))]
instance : Live qvd := ⟨[4]⟩
def qvc : List SOp := [zM 17 4,zO 2 (.assign (.const (.int .i64 0))),zG 3 17]
instance : Live qvc := ⟨[4]⟩
def qvb : List SOp := [zM 18 4,zO 19 (.indexAddr 173 (.tmp 18) (.const (.int .i64 0))),zF 20 177 19 1,zL 21 3 20,zM 22 4,zO 23 (.slice 173 (.tmp 22) (some (.const (.int .i64 1))) none none),zO 24 (.call ⟨.value (.func 151),#[.tmp 23],#[173]⟩),zG 2 21,zG 3 24]
instance : Live qvb := ⟨[4]⟩
def t_k138 : SC :=
 (.seq (.ops false qvf) (.seq (.ops false qve) (.seq (.seq (.ops false qvd) (.cond (.tmp 16) (.seq (.ops false qvc) .ret) .skip)) (.seq (.ops true qvb) .ret))))
theorem it_k138 : FnIs Tryz.prog 138 25 [.tmp 2, .tmp 3] t_k138 := ⟨Tryz.f138, _, Tryz.func138, rfl, rfl, rfl, rfl, by kernel_rfl⟩

def q1r : List Rn → Int × List Rn
 | [] => (0, [])
 | x :: r => if x.1 = 1 then (x.2, r) else (0, x :: r)
theorem qap {x : Rn} {r : List Rn} (h : x.1 = 1) : q1r (x :: r) = (x.2, r) := if_pos h
theorem qao {x : Rn} {r : List Rn} (h : ¬ x.1 = 1) : q1r (x :: r) = (0, x :: r) := if_neg h
theorem z27 (l m : List Rn) (hm : m.length ≤ 1000000000) (hN : Ev (En Tryz.prog rfl).P 150 [.sl 2 (q0f l)] (.ret (.sl 2 (q0f m)))) :
 Ev (En Tryz.prog rfl).P 138 [.sl 2 (q0f l)] (.ret (.tup [.int .i64 (q1r m).1, .sl 2 (q0f (q1r m).2)])) := by
 refine Ev.of_body it_k138 (by simp) (Run.start ?_)
 unfold t_k138
 (focus (have hF := True.intro; (repeat' (first | refine go0 (k:=?_) | fail)); all_goals clear hF))
 refine q4r (l := [.sl 2 (q0f l)]) rfl rfl (by simp [q0i, AVal.stb, q09]) hN ?_
 cases m with
 | nil =>
  have e0 : q0f [] = [] := rfl
  rw [e0]
  (focus (have hF := True.intro; (repeat' (first | refine go0 (k:=?_) | fail)); all_goals clear hF))
  exact Fin.two rfl rfl rfl rfl (.inl rfl) (.inl rfl)
 | cons x r =>
  have e0 : q0f (x :: r) = .agg [.int .i64 x.1, .int .i64 x.2] :: q0f r := rfl
  have e1 : (q0f r).length = r.length := q33 r
  have e2 : decide (((r.length + 1 : Nat) : Int) = 0) = false := by simp; omega
  have e3 : ((0 : Int) < ((r.length + 1 : Nat) : Int)) = True := by simp only [eq_iff_iff, iff_true]; omega
  by_cases c : x.1 = 1
  ·rw [qap c, e0]
   have d : (!decide (x.1 = 1)) = false := by simpa using c
   (focus (have hF := (aI (aI @e1 @e2) (aI @e3 @d)); (repeat' (first | refine go0 (k:=?_) | fail)); all_goals clear hF))
   have e4 : (1 ≤ r.length + 1) = True := by simp
   have hcl := ev_k151 r (by simp at hm; omega)
   have e5 : ((1 : Int).toNat) = 1 := rfl
   have e6 : (AVal.agg [.int .i64 x.1, .int .i64 x.2] :: q0f r).take (r.length + 1) = AVal.agg [.int .i64 x.1, .int .i64 x.2] :: q0f r := List.take_of_length_le (by simp [e1])
   have e7 : (q0f r).take r.length = q0f r := List.take_of_length_le (by simp [e1])
   (focus (have hF := (aI (aI (aI @e1 @e2) (aI @e3 @e4)) (aI (aI @e5 @e6) (aI @e7 @d))); (repeat' (first | refine go0 (k:=?_) | fail)); all_goals clear hF))
   refine q4r (l := [.sl 2 (q0f r)]) rfl ?hl (by simp [q0i, AVal.stb, q09]) hcl ?k
   case hl =>
    show [AVal.sl 2 ((q0f r).take r.length)] = _
    rw [e7]
   (focus (have hF := (aI (aI @e1 @e2) (aI @e3 @d)); (repeat' (first | refine go0 (k:=?_) | fail)); all_goals clear hF))
   exact Fin.two rfl rfl rfl (q09 r) (.inl rfl) (.inl rfl)
  ·rw [qao c, e0]
   have d : (!decide (x.1 = 1)) = true := by simpa using c
   (focus (have hF := (aI (aI @e1 @e2) (aI @e3 @d)); (repeat' (first | refine go0 (k:=?_) | fail)); all_goals clear hF))
   exact Fin.two rfl rfl rfl (q09 (x :: r)) (.inl rfl) (.inl rfl)

theorem q6s {v : List Int} {t : Tab} (i : Nat) : (List.range (i + 1)).foldl (q2t v) t = q2t v ((List.range i).foldl (q2t v) t) i := by
 rw [List.range_succ, List.foldl_append]
 rfl
theorem open_l2 {Q : Ex → AS → Prop} {y : SC} {k : Kont} (A11 : AVal) (h11 : A11.stb = true) (n12 i13 : Int) (p : Pst) (hp : p.vec.length ≤ 1000000000) (t : Tab) {n0 : Nat} (ht : TabLe t n0) (hn : n0 + 16 ≤ 1000000000)
 (h : Run (En Tryz.prog rfl) 78 Q y k ⟨tms [(3, .ptr 10 0), (11, A11), (12, .int .i64 n12), (13, .int .i64 i13), (5, .ptr 5 0)], mms [(10, .cells (q7u (q59 p.vec t))), (5, .cells [.sl 1 (q03 p.vec), .sl 3 (q0g p.cloud)])]⟩) :
 Run (En Tryz.prog rfl) 78 Q (.loop q7z) (.block 2 (.seq y k)) ⟨tms [(3, .ptr 10 0), (11, A11), (12, .int .i64 n12), (13, .int .i64 i13), (5, .ptr 5 0), (20, .int .i64 (min p.vec.length 16)), (21, .int .i64 0)], mms [(10, .cells (q7u t)), (5, .cells [.sl 1 (q03 p.vec), .sl 3 (q0g p.cloud)])]⟩ := by
 refine Run.range (min p.vec.length 16) (fun i => ⟨tms [(3, .ptr 10 0), (11, A11), (12, .int .i64 n12), (13, .int .i64 i13), (5, .ptr 5 0), (20, .int .i64 (min p.vec.length 16)), (21, .int .i64 i)], mms [(10, .cells (q7u ((List.range i).foldl (q2t p.vec) t))), (5, .cells [.sl 1 (q03 p.vec), .sl 3 (q0g p.cloud)])]⟩) (Wk.refl _ _) (fun i hi => ?_) ?_
 ·obtain ⟨q1, q2⟩ := TabLe.range (v := p.vec) ht i
  rw [q6s]
  generalize (List.range i).foldl (q2t p.vec) t = u at q1 q2 ⊢
  have hiv : i < p.vec.length := by omega
  have hi16 : i < 16 := by omega
  have hiu : i < u.length := by rw [q1]; exact hi16
  have e1 : ((i : Int) < min (p.vec.length : Int) 16) = True := by simp only [eq_iff_iff, iff_true]; omega
  have e2 : (0 ≤ (i : Int)) = True := by simp
  have e3 : ((i : Int) < ((16 : Nat) : Int)) = True := by simp only [eq_iff_iff, iff_true]; omega
  have e4 : (q7u u)[i]? = some (.own 2 (q0f (u.getD i []))) := z0n hiu
  have e5 : ((q7u u).set i .hole)[i]? = some .hole := qle hiu
  have e6 := z0o hiu (1, q2b p.vec i)
  simp only at e6
  have e7 : (q03 p.vec)[i]? = some (.int .i64 (q2b p.vec i)) := q0r (by simp [q2b, hiv])
  have e8 : (q03 p.vec).length = p.vec.length := q0d _
  have e9 : ((i : Int) < (p.vec.length : Int)) = True := by simp only [eq_iff_iff, iff_true]; omega
  have e10 : (q0f (u.getD i [])).length = (u.getD i []).length := q33 _
  have hq := q2 i
  have e11 : (((u.getD i []).length + 1) * 16 ≤ 70368744177664) = True := by simp only [eq_iff_iff, iff_true]; omega
  have e12 : ((u.getD i []).length + 1 ≤ 4611686018427387904) = True := by simp only [eq_iff_iff, iff_true]; omega
  have e13 : IntKind.i64.wrap ((i : Int) + 1) = ((i + 1 : Nat) : Int) := by rw [q3q (by omega)]; omega
  have e14 : (q7u u).length = 16 := by rw [z0m, q1]
  have e15 : (i + 1 ≤ 16) = True := by simp only [eq_iff_iff, iff_true]; omega
  unfold q7z
  (focus (have hF := (aI @e1 @e2); (repeat' (first | refine go0 (k:=?_) | fail)); all_goals clear hF))
  ((with_reducible apply toW); refine stW (fun j => j == 5) (k:=?_))
  (focus (have hF := (aI (aI (aI (aI @e1 @e2) (aI @e3 @e4)) (aI (aI @e5 @e6) (aI @e7 @e8))) (aI (aI (aI @e9 @e10) (aI @e11 @e12)) (aI (aI @e13 @e14) (aI @e15 @List.length_set.{0})))); (repeat' (first | refine go0 (k:=?_) | fail)); all_goals clear hF))
  refine Fin.next (Wk.toL _ _ ⟨rfl, rfl, rfl, rfl, rfl, rfl, rfl, trivial⟩ ⟨rfl, rfl, trivial⟩ ⟨rfl, q27 h11, rfl, rfl, rfl, rfl, rfl, trivial⟩ ⟨q4w _ _, ?_, trivial⟩)
  simp [ABlk.no, AVal.noC, AVal.no, AVal.stb, q01, q02]
 ·have e1 : (((min p.vec.length 16 : Nat) : Int) < min (p.vec.length : Int) 16) = False := by simp only [eq_iff_iff, iff_false]; omega
  unfold q7z
  (focus (have hF := @e1; (repeat' (first | refine go0 (k:=?_) | fail)); all_goals clear hF))
  exact Run.wk (Wk.keep [(3, .ptr 10 0), (11, A11), (12, .int .i64 n12), (13, .int .i64 i13), (5, .ptr 5 0)] ⟨rfl, rfl, rfl, rfl, rfl, trivial⟩) h

theorem z04 {t : Tab} {s : Sn} (h : 0 ≤ s.1 ∧ s.1 < 16) : putSn t s = q5v t s.1.toNat s.2 := if_pos h
theorem qbq {t : Tab} {s : Sn} (h : ¬ (0 ≤ s.1 ∧ s.1 < 16)) : putSn t s = t := if_neg h
theorem open_l3 {Q : Ex → AS → Prop} {k : Kont} (A11 : AVal) (h11 : A11.stb = true) (n12 i13 : Int) (cl : List Sn) (hp : cl.length ≤ 1000000000) (t : Tab) {n0 : Nat} (ht : TabLe t n0) (hn : n0 + cl.length ≤ 1000000000)
 (h : Fin (En Tryz.prog rfl) 78 Q k .normal ⟨upd (tms [(3, .ptr 10 0), (11, A11), (12, .int .i64 n12), (13, .int .i64 i13), (43, .sl 3 (q0g cl)), (44, .int .i64 cl.length), (45, .int .i64 cl.length)]) 46 (.bool false), mms [(10, .cells (q7u (q3j cl t)))]⟩) :
 Run (En Tryz.prog rfl) 78 Q (.loop q7y) (.block 4 k) ⟨tms [(3, .ptr 10 0), (11, A11), (12, .int .i64 n12), (13, .int .i64 i13), (43, .sl 3 (q0g cl)), (44, .int .i64 cl.length), (45, .int .i64 0)], mms [(10, .cells (q7u t))]⟩ := by
 refine Run.range cl.length (fun i => ⟨tms [(3, .ptr 10 0), (11, A11), (12, .int .i64 n12), (13, .int .i64 i13), (43, .sl 3 (q0g cl)), (44, .int .i64 cl.length), (45, .int .i64 i)], mms [(10, .cells (q7u ((cl.take i).foldl putSn t)))]⟩) (Wk.refl _ _) (fun i hi => ?_) ?_
 ·have hq0 := TabLe.cloud ht (cl.take i)
  obtain ⟨s, hs⟩ : ∃ s, cl[i]? = some s := ⟨cl[i], by simp [hi]⟩
  rw [q3d putSn t cl hs]
  generalize (cl.take i).foldl putSn t = u at hq0 ⊢
  obtain ⟨q1, q2⟩ := hq0
  have e1 : ((i : Int) < (cl.length : Int)) = True := by simp only [eq_iff_iff, iff_true]; omega
  have e2 : (0 ≤ (i : Int)) = True := by simp
  have e3 : (q0g cl)[i]? = some (.agg [.int .i64 s.1, .int .i64 s.2.1, .int .i64 s.2.2]) := q21 hs
  have e4 : (q0g cl).length = cl.length := q14 _
  have e13 : IntKind.i64.wrap ((i : Int) + 1) = ((i + 1 : Nat) : Int) := by rw [q3q (by omega)]; omega
  unfold q7y
  by_cases c1 : 0 ≤ s.1
  ·have d1 : decide (0 ≤ s.1) = true := by simpa using c1
   by_cases c2 : s.1 < 16
   ·have d2 : decide (s.1 < 16) = true := by simpa using c2
    rw [z04 ⟨c1, c2⟩]
    obtain ⟨r, hr⟩ : ∃ r : Nat, s.1 = r := ⟨s.1.toNat, by omega⟩
    have hr16 : r < 16 := by omega
    have hru : r < u.length := by rw [q1]; exact hr16
    have e5 : (q7u u)[r]? = some (.own 2 (q0f (u.getD r []))) := z0n hru
    have e6 : ((q7u u).set r .hole)[r]? = some .hole := qle hru
    have e7 := z0o hru s.2
    have e8 : (q0f (u.getD r [])).length = (u.getD r []).length := q33 _
    have hq := q2 r
    have hcl : (cl.take i).length ≤ cl.length := by rw [List.length_take]; omega
    have e9 : (((u.getD r []).length + 1) * 16 ≤ 70368744177664) = True := by simp only [eq_iff_iff, iff_true]; omega
    have e10 : ((u.getD r []).length + 1 ≤ 4611686018427387904) = True := by simp only [eq_iff_iff, iff_true]; omega
    have e11 : (q7u u).length = 16 := by rw [z0m, q1]
    have e12 : (r + 1 ≤ 16) = True := by simp only [eq_iff_iff, iff_true]; omega
    have e14 : ((r : Int) < ((16 : Nat) : Int)) = True := by simp only [eq_iff_iff, iff_true]; omega
    have e15 : (0 ≤ (r : Int)) = True := by simp
    rw [hr] at d1 d2 e3 ⊢
    rw [Int.toNat_natCast]
    (focus (have hF := (aI (aI @e1 (aI @e2 @e3)) (aI @e4 (aI @d1 @d2))); (repeat' (first | refine go0 (k:=?_) | fail)); all_goals clear hF))
    ((with_reducible apply toW); refine stW (fun j => j == 8) (k:=?_))
    (focus (have hF := (aI (aI (aI (aI @e1 @e2) (aI @e3 @e4)) (aI (aI @d1 @d2) (aI @e5 (aI @e6 @e7)))) (aI (aI (aI @e8 @e9) (aI @e10 @e11)) (aI (aI @e12 @e13) (aI @e14 (aI @e15 @List.length_set.{0}))))); (repeat' (first | refine go0 (k:=?_) | fail)); all_goals clear hF))
    exact Fin.next (Wk.toL _ _ ⟨rfl, rfl, rfl, rfl, rfl, rfl, rfl, trivial⟩ ⟨rfl, trivial⟩ ⟨rfl, q27 h11, rfl, rfl, q02 cl, rfl, rfl, trivial⟩ ⟨q4w _ _, trivial⟩)
   ·have d2 : decide (s.1 < 16) = false := by simpa using c2
    rw [qbq (by omega)]
    (focus (have hF := (aI (aI @e1 (aI @e2 @e3)) (aI (aI @e4 @d1) (aI @d2 @e13))); (repeat' (first | refine go0 (k:=?_) | fail)); all_goals clear hF))
    exact Fin.next (Wk.toL _ _ ⟨rfl, rfl, rfl, rfl, rfl, rfl, rfl, trivial⟩ ⟨rfl, trivial⟩ ⟨rfl, q27 h11, rfl, rfl, q02 cl, rfl, rfl, trivial⟩ ⟨q4w _ _, trivial⟩)
  ·have d1 : decide (0 ≤ s.1) = false := by simpa using c1
   rw [qbq (by omega)]
   (focus (have hF := (aI (aI @e1 (aI @e2 @e3)) (aI @e4 (aI @d1 @e13))); (repeat' (first | refine go0 (k:=?_) | fail)); all_goals clear hF))
   exact Fin.next (Wk.toL _ _ ⟨rfl, rfl, rfl, rfl, rfl, rfl, rfl, trivial⟩ ⟨rfl, trivial⟩ ⟨rfl, q27 h11, rfl, rfl, q02 cl, rfl, rfl, trivial⟩ ⟨q4w _ _, trivial⟩)
 ·have e1 : ((cl.length : Int) < (cl.length : Int)) = False := by simp
  have e3 : cl.take cl.length = cl := List.take_length
  rw [e3]
  unfold q7y
  (focus (have hF := @e1; (repeat' (first | refine go0 (k:=?_) | fail)); all_goals clear hF))
  exact h

def q6h (t : Tab) : List AVal := t.map fun l => .sl 2 (q0f l)
theorem encT_fz (M : Mem) (t : Tab) : (q7u t).map (fzc q74 M) = q6h t := by simp [q7u, q6h, fzc]
theorem q32 (t : Tab) : q0i (q6h t) = true := by
 refine qbd fun x hx => ?_
 obtain ⟨l, _, rfl⟩ := List.mem_map.1 hx
 exact q09 l
theorem zdv (ps : List Pst) (hl : ps.length ≤ 1000000000) (hw : (ps.map wt).sum ≤ 900000000) : Ev (En Tryz.prog rfl).P 121 [.sl 2 (q42 ps)] (.ret (.sptr (q6h (q25 ps)))) := by
 refine Ev.of_body it_k121 (by simp) (Run.start ?_)
 unfold t_k121
 have e0 : (q42 ps).length = ps.length := qlg _
 (focus (have hF := @e0; (repeat' (first | refine go0 (k:=?_) | fail)); all_goals clear hF))
 refine Run.wk (Wk.trans (Wk.own_cells (k := 10) (cs' := q7u qa3) rfl rfl ?_) (Wk.toL [(3, .ptr 10 0), (11, .sl 2 (q42 ps)), (12, .int .i64 ps.length), (13, .int .i64 0)] [(10, .cells (q7u qa3))] ⟨rfl, rfl, rfl, rfl, trivial⟩ ⟨rfl, trivial⟩ ⟨rfl, q0k ps, rfl, rfl, trivial⟩ ⟨q4w _ _, trivial⟩)) ?_
 ·intro i x y hx hy
  have hx' : (List.replicate 16 AVal.nil)[i]? = some x := hx
  rw [List.getElem?_replicate] at hx'
  have hy' : (List.replicate 16 (AVal.own 2 []))[i]? = some y := hy
  rw [List.getElem?_replicate] at hy'
  split at hx'
  ·rename_i h16
   rw [if_pos h16] at hy'
   cases hx'; cases hy'
   exact .inr ⟨rfl, 2, rfl⟩
  ·cases hx'
 refine Run.range ps.length (fun i => ⟨tms [(3, .ptr 10 0), (11, .sl 2 (q42 ps)), (12, .int .i64 ps.length), (13, .int .i64 i)], mms [(10, .cells (q7u ((ps.take i).foldl q1t qa3)))]⟩) (Wk.refl _ _) (fun i hi => ?_) ?_
 ·have hq0 := TabLe.all qmp (ps.take i)
  obtain ⟨p, hp⟩ : ∃ p, ps[i]? = some p := ⟨ps[i], by simp [hi]⟩
  rw [q3d q1t qa3 ps hp]
  have hsum : ((ps.take i).map wt).sum + wt p ≤ (ps.map wt).sum := by
   have : ((ps.take (i + 1)).map wt).sum ≤ (ps.map wt).sum := by rw [List.map_take]; exact qb6 _
   rw [List.take_add_one, hp] at this
   simpa using this
  generalize (ps.take i).foldl q1t qa3 = u at hq0 ⊢
  generalize ((ps.take i).map wt).sum = m at hq0 hsum
  have hwt : wt p = p.vec.length + p.cloud.length := rfl
  have hv : p.vec.length ≤ 1000000000 := by omega
  have hc : p.cloud.length ≤ 1000000000 := by omega
  have e1 : ((i : Int) < (ps.length : Int)) = True := by simp only [eq_iff_iff, iff_true]; omega
  have e2 : (0 ≤ (i : Int)) = True := by simp
  have e3 : (q42 ps)[i]? = some (.agg [.sl 1 (q03 p.vec), .sl 3 (q0g p.cloud)]) := qlh hp
  have e4 : (q03 p.vec).length = p.vec.length := q0d _
  have e5 : (q0g p.cloud).length = p.cloud.length := q14 _
  have e13 : IntKind.i64.wrap ((i : Int) + 1) = ((i + 1 : Nat) : Int) := by rw [q3q (by omega)]; omega
  unfold qb9
  (focus (have hF := (aI (aI @e0 (aI @e1 @e2)) (aI @e3 (aI @e4 @e5))); (repeat' (first | refine go0 (k:=?_) | fail)); all_goals clear hF))
  refine Run.wk (Wk.toL [(3, .ptr 10 0), (11, .sl 2 (q42 ps)), (12, .int .i64 ps.length), (13, .int .i64 i), (5, .ptr 5 0), (20, .int .i64 (min p.vec.length 16)), (21, .int .i64 0)] [(10, .cells (q7u u)), (5, .cells [.sl 1 (q03 p.vec), .sl 3 (q0g p.cloud)])] ⟨rfl, rfl, rfl, rfl, rfl, rfl, rfl, trivial⟩ ⟨rfl, rfl, trivial⟩ ⟨rfl, q0k ps, rfl, rfl, rfl, rfl, rfl, trivial⟩ ⟨q4w _ _, by simp [ABlk.no, AVal.noC, AVal.no, AVal.stb, q01, q02], trivial⟩) ?_
  refine open_l2 (.sl 2 (q42 ps)) (q0k ps) _ _ p hv u (n0 := 0 + m) hq0 (by omega) ?_
  (focus (have hF := (aI (aI @e0 (aI @e1 @e2)) (aI @e3 (aI @e4 @e5))); (repeat' (first | refine go0 (k:=?_) | fail)); all_goals clear hF))
  refine Run.wk (Wk.toL [(3, .ptr 10 0), (11, .sl 2 (q42 ps)), (12, .int .i64 ps.length), (13, .int .i64 i), (43, .sl 3 (q0g p.cloud)), (44, .int .i64 p.cloud.length), (45, .int .i64 0)] [(10, .cells (q7u (q59 p.vec u)))] ⟨rfl, rfl, rfl, rfl, rfl, rfl, rfl, trivial⟩ ⟨rfl, trivial⟩ ⟨rfl, q0k ps, rfl, rfl, q02 _, rfl, rfl, trivial⟩ ⟨q4w _ _, trivial⟩) ?_
  refine open_l3 (.sl 2 (q42 ps)) (q0k ps) _ _ p.cloud hc (q59 p.vec u) (n0 := 0 + m + min p.vec.length 16) (TabLe.range hq0 _) (by omega) ?_
  (focus (have hF := (aI (aI @e0 (aI @e1 @e2)) (aI (aI @e3 @e4) (aI @e5 @e13))); (repeat' (first | refine go0 (k:=?_) | fail)); all_goals clear hF))
  exact Fin.next (Wk.toL _ _ ⟨rfl, rfl, rfl, rfl, trivial⟩ ⟨rfl, trivial⟩ ⟨rfl, q0k ps, rfl, rfl, trivial⟩ ⟨q4w _ _, trivial⟩)
 ·have e1 : ((ps.length : Int) < (ps.length : Int)) = False := by simp
  have e3 : ps.take ps.length = ps := List.take_length
  rw [e3]
  unfold qb9
  (focus (have hF := (aI @e0 @e1); (repeat' (first | refine go0 (k:=?_) | fail)); all_goals clear hF))
  refine Fin.tmp' ?_ (q32 _)
  show AVal.sptr ((((q7u (q25 ps))).map (fzc q74 _)).drop 0) = _
  rw [encT_fz]
  rfl

theorem q3z (ps : List Pst) : TabLe (q25 ps) (ps.map wt).sum := by
 have := TabLe.all qmp ps
 simpa [q25] using this
theorem qld {t : Tab} {r : Nat} (h : r < t.length) : (q6h t)[r]? = some (.sl 2 (q0f (t.getD r []))) := by simp [q6h, h]
theorem qlc (t : Tab) : (q6h t).length = t.length := by simp [q6h]
theorem qlq {α : Type} {l : List α} {i : Nat} {x : α} (h : l[i]? = some x) : (l.drop i)[0]? = some x := by simp [h]

section
def q61 (l : List Int) : List Int := l.mergeSort (fun x y => decide (x ≤ y))
theorem q39 (l : List Int) : (q61 l).Perm l := List.mergeSort_perm l _
theorem q3k (l : List Int) : (q61 l).Pairwise (fun x y => x ≤ y) := by
 have := List.pairwise_mergeSort (le := fun (x y : Int) => decide (x ≤ y)) (fun a b c h1 h2 => by simp at *; omega) (fun a b => by simp; omega) l
 exact this.imp fun {a b} h => by simpa using h
theorem q81 (l : List Int) : (q61 l).length = l.length := (q39 l).length_eq
def cnt (l : List Int) (m : Int) : Nat := l.countP fun x => decide (x ≤ m)
theorem q5p (m : Int) : cnt [] m = 0 := rfl
theorem q1s (x : Int) (l : List Int) (m : Int) : cnt (x :: l) m = cnt l m + if x ≤ m then 1 else 0 := by
 unfold cnt
 rw [List.countP_cons]
 simp only [decide_eq_true_eq]
theorem q6x (l l' : List Int) (m : Int) : cnt (l ++ l') m = cnt l m + cnt l' m := List.countP_append
theorem qav {l l' : List Int} (h : l.Perm l') (m : Int) : cnt l m = cnt l' m := h.countP_eq _
theorem qci {l : List Int} {m : Int} (h : ∀ x ∈ l, x ≤ m) : cnt l m = l.length := List.countP_eq_length.2 fun x hx => by simpa using h x hx
theorem q34 {l : List Int} {m : Int} (h : ∀ x ∈ l, m < x) : cnt l m = 0 := List.countP_eq_zero.2 fun x hx => by simpa using h x hx
theorem qch : ∀ {l : List Int} {m : Int} {i : Nat}, i ≤ l.length → (∀ k, k < i → l.getD k 0 ≤ m) → (∀ k, i ≤ k → k < l.length → m < l.getD k 0) → cnt l m = i
 | [], m, i, hi, _, _ => by simp at hi; subst hi; rfl
 | x :: l, m, 0, _, _, h2 => q34 fun y hy => by
  obtain ⟨k, hk, rfl⟩ := List.getElem_of_mem hy
  have := h2 k (by omega) hk
  simpa [List.getD_eq_getElem?_getD, List.getElem?_eq_getElem hk] using this
 | x :: l, m, i + 1, hi, h1, h2 => by
  rw [q1s, qch (i := i) (by simpa using hi) (fun k hk => by simpa using h1 (k + 1) (by omega)) (fun k hk hl => by simpa using h2 (k + 1) (by omega) (by simpa using hl))]
  have := h1 0 (by omega)
  simp at this
  simp [this]
def Srt (l : List Int) : Prop := ∀ a b, a ≤ b → b < l.length → l.getD a 0 ≤ l.getD b 0
theorem Srt.of {l : List Int} (h : l.Pairwise (fun x y => x ≤ y)) : Srt l := by
 intro a b hab hb
 rcases Nat.lt_or_ge a b with h' | h'
 ·have := (List.pairwise_iff_getElem.1 h) a b (by omega) hb h'
  simpa [List.getD_eq_getElem?_getD, List.getElem?_eq_getElem hb, List.getElem?_eq_getElem (show a < l.length by omega)] using this
 ·have : a = b := by omega
  subst this
  exact Int.le_refl _
theorem Srt.get_le : ∀ {l : List Int} {m : Int} {k : Nat}, l.Pairwise (fun x y => x ≤ y) → k < cnt l m → l.getD k 0 ≤ m
 | [], m, k, _, h => by simp [q5p] at h
 | x :: l, m, k, hp, h => by
  rw [List.pairwise_cons] at hp
  rw [q1s] at h
  split at h
  ·rename_i hx
   cases k with
   | zero => simpa using hx
   | succ k => simpa using Srt.get_le hp.2 (by omega)
  ·rename_i hx
   have : cnt l m = 0 := q34 fun y hy => by have := hp.1 y hy; omega
   omega
theorem Srt.cnt_gt {l : List Int} {m : Int} {k : Nat} (hp : Srt l) (hk : k < l.length) (h : l.getD k 0 ≤ m) : k < cnt l m := by
 have : (l.take (k + 1)).countP (fun x => decide (x ≤ m)) = k + 1 := by
  have h1 : (l.take (k + 1)).length = k + 1 := by rw [List.length_take]; omega
  refine Eq.trans (List.countP_eq_length.2 fun x hx => ?_) h1
  obtain ⟨j, hj, rfl⟩ := List.getElem_of_mem hx
  rw [List.length_take] at hj
  rw [List.getElem_take]
  have := hp j k (by omega) hk
  rw [List.getD_eq_getElem?_getD, List.getElem?_eq_getElem (show j < l.length by omega)] at this
  simp only [Option.getD_some] at this
  simpa using Int.le_trans this h
 have h2 : cnt l m = (l.take (k + 1)).countP (fun x => decide (x ≤ m)) + (l.drop (k + 1)).countP (fun x => decide (x ≤ m)) := by
  rw [← List.countP_append, List.take_append_drop]
  rfl
 omega
structure Sw where
 t : List Int
 deep : Int
 i : Nat
 j : Nat
def swIn (ins : List Int) (s : Sw) : Sw := ⟨if s.deep = 0 then s.t ++ [ins.getD s.i 0] else s.t, s.deep + 1, s.i + 1, s.j⟩
def swOut (outs : List Int) (s : Sw) : Sw := ⟨if s.deep - 1 = 0 then s.t ++ [outs.getD s.j 0] else s.t, s.deep - 1, s.i, s.j + 1⟩
def qe9 (ins outs : List Int) (s : Sw) : Prop := s.i < ins.length ∧ ins.getD s.i 0 ≤ outs.getD s.j 0
structure SwI (ins outs : List Int) (s : Sw) : Prop where
 ij : s.j ≤ s.i
 i : s.i ≤ ins.length
 d : s.deep = (s.i : Int) - s.j
 rise : s.t.Pairwise (fun x y => x < y)
 oi : ∀ k k', k < s.j → s.i ≤ k' → k' < ins.length → outs.getD k 0 < ins.getD k' 0
 io : ∀ k k', k < s.i → s.j ≤ k' → k' < outs.length → ins.getD k 0 ≤ outs.getD k' 0
 t0 : s.deep = 0 → ∀ x ∈ s.t, 0 < s.j ∧ x ≤ outs.getD (s.j - 1) 0
 t1 : 0 < s.deep → ∀ x ∈ s.t, x ≤ ins.getD (s.i - 1) 0
 par : s.t.length % 2 = if 0 < s.deep then 1 else 0
 all : ∀ m, (∀ k, s.i ≤ k → k < ins.length → m < ins.getD k 0) → (∀ k, s.j ≤ k → k < outs.length → m < outs.getD k 0) → (cnt s.t m % 2 = 1 ↔ cnt outs m < cnt ins m)
 src : ∀ x ∈ s.t, x ∈ ins ∨ x ∈ outs
section
variable {ins outs : List Int} (hl : outs.length = ins.length) (hi : Srt ins) (ho : Srt outs) (hlt : ∀ k, k < ins.length → ins.getD k 0 < outs.getD k 0)
theorem SwI.start : SwI ins outs ⟨[], 0, 0, 0⟩ := by
 refine ⟨Nat.le_refl _, Nat.zero_le _, rfl, .nil, fun k k' h => by simp at h, fun k k' h => by simp at h, fun _ x hx => (by simp at hx), fun _ x hx => (by simp at hx), by simp, fun m h1 h2 => ?_, fun x hx => (by simp at hx)⟩
 rw [qch (l := ins) (i := 0) (Nat.zero_le _) (fun k hk => by omega) h1, qch (l := outs) (i := 0) (Nat.zero_le _) (fun k hk => by omega) h2]
 simp [q5p]
theorem z0g {l : List Int} {k : Nat} (h : k < l.length) : l.getD k 0 ∈ l := by
 rw [List.getD_eq_getElem?_getD, List.getElem?_eq_getElem h]
 simp
theorem qbr {t : List Int} {v : Int} (h : t.Pairwise (fun x y => x < y)) (hv : ∀ x ∈ t, x < v) : (t ++ [v]).Pairwise (fun x y => x < y) := by
 rw [List.pairwise_append]
 exact ⟨h, by simp, fun a ha b hb => by simp at hb; subst hb; exact hv a ha⟩
include hl hi ho hlt in
theorem SwI.stepIn {s : Sw} (h : SwI ins outs s) (ht : qe9 ins outs s) : SwI ins outs (swIn ins s) := by
 obtain ⟨t, deep, i, j⟩ := s
 obtain ⟨h1, h2, h3, h4, h5, h6, h7, h8, h9, h10, h11⟩ := h
 obtain ⟨g1, g2⟩ := ht
 simp only at *
 have hjl : j < outs.length := by omega
 have low : ∀ x ∈ t, x ≤ ins.getD i 0 ∧ (deep = 0 → x < ins.getD i 0) := by
  intro x hx
  by_cases hd : deep = 0
  ·obtain ⟨q1, q2⟩ := h7 hd x hx
   have := h5 (j - 1) i (by omega) (Nat.le_refl _) g1
   omega
  ·have q := h8 (by omega) x hx
   have := hi (i - 1) i (by omega) g1
   exact ⟨by omega, fun h => absurd h hd⟩
 have hlow : ∀ x ∈ (if deep = 0 then t ++ [ins.getD i 0] else t), x ≤ ins.getD i 0 := by
  intro x hx
  split at hx
  ·rcases List.mem_append.1 hx with hx | hx
   ·exact (low x hx).1
   ·simp only [List.mem_singleton] at hx; omega
  ·exact (low x hx).1
 have hpar : (if deep = 0 then t ++ [ins.getD i 0] else t).length % 2 = 1 := by
  by_cases hd : deep = 0
  ·rw [if_pos hd]
   rw [if_neg (by omega)] at h9
   simp only [List.length_append, List.length_cons, List.length_nil]
   omega
  ·rw [if_neg hd]
   rw [if_pos (by omega)] at h9
   exact h9
 unfold swIn
 refine ⟨?_, ?_, ?_, ?_, ?_, ?_, ?_, ?_, ?_, ?_, ?_⟩ <;> simp only
 ·omega
 ·omega
 ·omega
 ·split
  ·rename_i hd
   exact qbr h4 fun x hx => (low x hx).2 hd
  ·exact h4
 ·intro k k' a b c
  exact h5 k k' a (by omega) c
 ·intro k k' a b c
  rcases Nat.lt_or_ge k i with hk | hk
  ·exact h6 k k' hk b c
  ·have : k = i := by omega
   subst this
   have := ho j k' b c
   omega
 ·intro hd
  omega
 ·intro _ x hx
  rw [Nat.add_sub_cancel]
  exact hlow x hx
 ·rw [hpar, if_pos (by omega)]
 ·intro m a b
  by_cases hm : m < ins.getD i 0
  ·have := h10 m (fun k hk hkl => by
    rcases Nat.eq_or_lt_of_le hk with rfl | hk
    ·exact hm
    ·exact a k (by omega) hkl) b
   rw [← this]
   split
   ·rw [q6x, q34 (l := [ins.getD i 0]) (by simpa using hm)]
    simp
   ·rfl
  ·rw [qci fun x hx => Int.le_trans (hlow x hx) (by omega), hpar, qch (l := ins) (i := i + 1) (by omega) (fun k hk => Int.le_trans (hi k i (by omega) g1) (by omega)) a,
    qch (l := outs) (i := j) (by omega) (fun k hk => by have := h5 k i hk (Nat.le_refl _) g1; omega) b]
   simp
   omega
 ·intro x hx
  split at hx
  ·rcases List.mem_append.1 hx with hx | hx
   ·exact h11 x hx
   ·simp only [List.mem_singleton] at hx; subst hx; exact .inl (z0g g1)
  ·exact h11 x hx
include hl hi ho hlt in
theorem SwI.stepOut {s : Sw} (h : SwI ins outs s) (hj : s.j < outs.length) (ht : ¬ qe9 ins outs s) : SwI ins outs (swOut outs s) ∧ 1 ≤ s.deep := by
 obtain ⟨t, deep, i, j⟩ := s
 obtain ⟨h1, h2, h3, h4, h5, h6, h7, h8, h9, h10, h11⟩ := h
 unfold qe9 at ht
 simp only at *
 have hd : 0 < deep := by
  rcases Nat.lt_or_ge j i with h | h
  ·omega
  ·exfalso
   have : i = j := by omega
   subst this
   have := hlt i (by omega)
   exact ht ⟨by omega, by omega⟩
 have low : ∀ x ∈ t, x ≤ outs.getD j 0 ∧ (deep - 1 = 0 → x < outs.getD j 0) := by
  intro x hx
  have q := h8 hd x hx
  have := h6 (i - 1) j (by omega) (Nat.le_refl _) hj
  refine ⟨by omega, fun he => ?_⟩
  have : i - 1 = j := by omega
  rw [this] at q
  have := hlt j (by omega)
  omega
 have hlow : ∀ x ∈ (if deep - 1 = 0 then t ++ [outs.getD j 0] else t), x ≤ outs.getD j 0 := by
  intro x hx
  split at hx
  ·rcases List.mem_append.1 hx with hx | hx
   ·exact (low x hx).1
   ·simp only [List.mem_singleton] at hx; omega
  ·exact (low x hx).1
 have hpar : (if deep - 1 = 0 then t ++ [outs.getD j 0] else t).length % 2 = if 0 < deep - 1 then 1 else 0 := by
  rw [if_pos hd] at h9
  by_cases he : deep - 1 = 0
  ·rw [if_pos he, if_neg (by omega)]
   simp only [List.length_append, List.length_cons, List.length_nil]
   omega
  ·rw [if_neg he, if_pos (by omega)]
   exact h9
 refine ⟨?_, by omega⟩
 unfold swOut
 refine ⟨?_, ?_, ?_, ?_, ?_, ?_, ?_, ?_, ?_, ?_, ?_⟩ <;> simp only
 ·omega
 ·omega
 ·omega
 ·split
  ·rename_i he
   exact qbr h4 fun x hx => (low x hx).2 he
  ·exact h4
 ·intro k k' a b c
  rcases Nat.lt_or_ge k j with hk | hk
  ·exact h5 k k' hk b c
  ·have : k = j := by omega
   subst this
   have q1 := hi i k' b c
   rcases Nat.lt_or_ge i ins.length with hil | hil
   ·rcases Int.lt_or_le (outs.getD k 0) (ins.getD i 0) with h | h
    ·omega
    ·exact absurd ⟨hil, h⟩ ht
   ·omega
 ·intro k k' a b c
  exact h6 k k' a (by omega) c
 ·intro he x hx
  rw [Nat.add_sub_cancel]
  exact ⟨by omega, hlow x hx⟩
 ·intro he x hx
  rw [if_neg (by omega)] at hx
  exact h8 hd x hx
 ·exact hpar
 ·intro m a b
  by_cases hm : m < outs.getD j 0
  ·have := h10 m a (fun k hk hkl => by
    rcases Nat.eq_or_lt_of_le hk with rfl | hk
    ·exact hm
    ·exact b k (by omega) hkl)
   rw [← this]
   split
   ·rw [q6x, q34 (l := [outs.getD j 0]) (by simpa using hm)]
    simp
   ·rfl
  ·rw [qci fun x hx => Int.le_trans (hlow x hx) (by omega), hpar, qch (l := outs) (i := j + 1) (by omega) (fun k hk => Int.le_trans (ho k j (by omega) hj) (by omega)) b,
    qch (l := ins) (i := i) h2 (fun k hk => by have := h6 k j hk (Nat.le_refl _) hj; omega) a]
   split
   ·simp; omega
   ·simp; omega
 ·intro x hx
  split at hx
  ·rcases List.mem_append.1 hx with hx | hx
   ·exact h11 x hx
   ·simp only [List.mem_singleton] at hx; subst hx; exact .inr (z0g hj)
  ·exact h11 x hx
end
structure Turns (q : Int → Prop) (t : List Int) : Prop where
 rise : t.Pairwise (fun x y => x < y)
 even : t.length % 2 = 0
 mem : ∀ m, q m ↔ cnt t m % 2 = 1
theorem SwI.turns {ins outs : List Int} {s : Sw} (h : SwI ins outs s) (hi : s.i = ins.length) (hj : s.j = ins.length) (hl : outs.length = ins.length) : Turns (fun m => cnt outs m < cnt ins m) s.t := by
 have hd : s.deep = 0 := by have := h.d; omega
 refine ⟨h.rise, ?_, fun m => (h.all m (fun k hk => by omega) (fun k hk => by omega)).symm⟩
 have := h.par
 rw [if_neg (by omega)] at this
 exact this
theorem Turns.iff {q q' : Int → Prop} {t : List Int} (h : Turns q t) (hq : ∀ m, q m ↔ q' m) : Turns q' t := ⟨h.rise, h.even, fun m => (hq m).symm.trans (h.mem m)⟩
theorem qlr (c : List Rn) (hc : ∀ r ∈ c, r.1 ≤ r.2) (m : Int) : cnt (c.map fun r => r.2 + 1) m ≤ cnt (c.map fun r => r.1) m ∧ (cnt (c.map fun r => r.2 + 1) m < cnt (c.map fun r => r.1) m ↔ inR c m) ∧ cnt (c.map fun r => r.2 + 1) m ≤ cnt (c.map fun r => r.1) (m - 1) := by
 induction c with
 | nil => simp [q5p, q4v]
 | cons x c ih =>
  obtain ⟨h1, h2, h4⟩ := ih fun r hr => hc r (by simp [hr])
  have h3 := hc x (by simp)
  rw [List.map_cons, List.map_cons, q1s, q1s, q1s, q1c, ← h2]
  refine ⟨?_, ?_, ?_⟩
  ·split <;> split <;> omega
  ·split <;> split <;> omega
  ·split <;> split <;> omega
structure Sweep (c : List Rn) (ins outs : List Int) : Prop where
 pi : ins.Perm (c.map fun r => r.1)
 po : outs.Perm (c.map fun r => r.2 + 1)
 si : ins.Pairwise (fun x y => x ≤ y)
 so : outs.Pairwise (fun x y => x ≤ y)
 ok : ∀ r ∈ c, okR r
theorem Sweep.len {c : List Rn} {ins outs : List Int} (h : Sweep c ins outs) : outs.length = ins.length := by rw [h.pi.length_eq, h.po.length_eq]; simp
theorem Sweep.lt {c : List Rn} {ins outs : List Int} (h : Sweep c ins outs) (k : Nat) (hk : k < ins.length) : ins.getD k 0 < outs.getD k 0 := by
 have h1 : k < cnt outs (outs.getD k 0) := Srt.cnt_gt (Srt.of h.so) (by rw [h.len]; exact hk) (Int.le_refl _)
 rw [qav h.po] at h1
 have h2 := (qlr c (fun r hr => (h.ok r hr).2.1) (outs.getD k 0)).2.2
 rw [← qav h.pi] at h2
 have := Srt.get_le h.si (show k < cnt ins (outs.getD k 0 - 1) by omega)
 omega
theorem Sweep.turns {c : List Rn} {ins outs : List Int} (h : Sweep c ins outs) {s : Sw} (hs : SwI ins outs s) (hi : s.i = ins.length) (hj : s.j = ins.length) : Turns (inR c) s.t ∧ ∀ x ∈ s.t, 1 ≤ x ∧ x ≤ 1000000001 := by
 refine ⟨(hs.turns hi hj h.len).iff fun m => ?_, fun x hx => ?_⟩
 ·rw [qav h.pi, qav h.po]
  exact (qlr c (fun r hr => (h.ok r hr).2.1) m).2.1
 ·rcases hs.src x hx with hx | hx
  ·obtain ⟨r, hr, rfl⟩ := List.mem_map.1 (h.pi.mem_iff.1 hx)
   have := h.ok r hr
   unfold okR at this
   omega
  ·obtain ⟨r, hr, rfl⟩ := List.mem_map.1 (h.po.mem_iff.1 hx)
   have := h.ok r hr
   unfold okR at this
   omega
theorem Sweep.of (l : List Rn) : Sweep (q0s l) (q61 ((q0s l).map fun r => r.1)) (q61 ((q0s l).map fun r => r.2 + 1)) :=
 ⟨q39 _, q39 _, q3k _, q3k _, q8s⟩
end
def qvo : List SOp := [zO 2 (.assign (.const (.slice none 0 0)))]
instance : Live qvo := ⟨[0]⟩
def qvn : List SOp := [zM 8 0,zO 9 (.call ⟨.builtin .len,#[.tmp 8],#[22]⟩),zO 10 (.binOp .lss 3 (.tmp 9) (.const (.int .i64 2)) 3)]
instance : Live qvn := ⟨[0]⟩
def qvm : List SOp := [zO 11 (.buildSlice 22 0 #[]),zM 12 0,zO 13 (.call ⟨.builtin .append,#[.tmp 11,.tmp 12],#[22,22]⟩),zG 2 13]
instance : Live qvm := ⟨[0]⟩
def qvl : List SOp := [zM 14 0,zM 15 0,zO 16 (.call ⟨.builtin .len,#[.tmp 15],#[22]⟩),zO 17 (.binOp .quo 3 (.tmp 16) (.const (.int .i64 2)) 3),zO 18 (.slice 22 (.tmp 14) none (some (.tmp 17)) none),zO 19 (.call ⟨.value (.func 137),#[.tmp 18],#[22]⟩),zG 3 19]
instance : Live qvl := ⟨[0]⟩
def qvk : List SOp := [zM 20 0,zM 21 0,zO 22 (.call ⟨.builtin .len,#[.tmp 21],#[22]⟩),zO 23 (.binOp .quo 3 (.tmp 22) (.const (.int .i64 2)) 3),zO 24 (.slice 22 (.tmp 20) (some (.tmp 23)) none none),zO 25 (.call ⟨.value (.func 137),#[.tmp 24],#[22]⟩),zG 4 25]
instance : Live qvk := ⟨[0,3]⟩
def qvj : List SOp := [zM 26 0,zO 27 (.call ⟨.builtin .len,#[.tmp 26],#[22]⟩),zO 28 (.makeSlice 22 (.const (.int .i64 0)) (.tmp 27)),zG 5 28]
instance : Live qvj := ⟨[0,3,4]⟩
def qvi : List SOp := [zO 6 (.assign (.const (.int .i64 0))),zO 7 (.assign (.const (.int .i64 0)))]
instance : Live qvi := ⟨[3,4,5]⟩
def qvh : List SOp := [zM 29 6,zM 30 3,zO 31 (.call ⟨.builtin .len,#[.tmp 30],#[22]⟩),zO 32 (.binOp .lss 3 (.tmp 29) (.tmp 31) 3),zM 33 32,⟨some 34,.move (.tmp 7),some ((some 33),false)⟩,⟨some 35,.move (.tmp 4),some ((some 33),false)⟩,⟨some 36,.call ⟨.builtin .len,#[.tmp 35],#[22]⟩,some ((some 33),false)⟩,⟨some 37,.binOp .lss 3 (.tmp 34) (.tmp 36) 3,some ((some 33),false)⟩,zO 38 (.pick (.tmp 33) (.const (.bool true)) (.tmp 37))]
instance : Live qvh := ⟨[3,4,5,6,7]⟩
def qvg : List SOp := [zM 39 7,zM 40 4,zO 41 (.call ⟨.builtin .len,#[.tmp 40],#[22]⟩),zO 42 (.binOp .eql 3 (.tmp 39) (.tmp 41) 3),zM 43 42,⟨some 44,.move (.tmp 6),some ((some 43),false)⟩,⟨some 45,.move (.tmp 3),some ((some 43),false)⟩,⟨some 46,.call ⟨.builtin .len,#[.tmp 45],#[22]⟩,some ((some 43),false)⟩,⟨some 47,.binOp .lss 3 (.tmp 44) (.tmp 46) 3,some ((some 43),false)⟩,⟨some 48,.move (.tmp 47),some ((some 43),false)⟩,⟨some 49,.move (.tmp 3),some ((some 48),true)⟩,⟨some 50,.move (.tmp 6),some ((some 48),true)⟩,⟨some 51,.indexAddr 22 (.tmp 49) (.tmp 50),some ((some 48),true)⟩,⟨some 52,.load 3 (.tmp 51),some ((some 48),true)⟩,⟨some 53,.move (.tmp 4),some ((some 48),true)⟩,⟨some 54,.move (.tmp 7),some ((some 48),true)⟩,⟨some 55,.indexAddr 22 (.tmp 53) (.tmp 54),some ((some 48),true)⟩,⟨some 56,.load 3 (.tmp 55),some ((some 48),true)⟩,⟨some 57,.binOp .leq 3 (.tmp 52) (.tmp 56) 3,some ((some 48),true)⟩,⟨some 58,.pick (.tmp 48) (.tmp 57) (.const (.bool false)),some ((some 43),false)⟩,zO 59 (.pick (.tmp 43) (.const (.bool true)) (.tmp 58))]
instance : Live qvg := ⟨[3,4,5,6,7]⟩
def qil : List SOp := [zM 60 5,zM 61 3,zM 62 6,zI 63 22 61 62,zL 64 3 63,zO 65 (.buildSlice 22 1 #[(0,.tmp 64)]),zO 66 (.call ⟨.builtin .append,#[.tmp 60,.tmp 65],#[22,22]⟩),zG 5 66]
instance : Live qil := ⟨[3,4,5,6,7]⟩
def qik : List SOp := [zM 67 6,zO 68 (.binOp .add 3 (.tmp 67) (.const (.int .i64 1)) 3),zG 6 68]
instance : Live qik := ⟨[3,4,5,6,7]⟩
def qij : List SOp := [zM 69 5,zM 70 4,zM 71 7,zI 72 22 70 71,zL 73 3 72,zO 74 (.buildSlice 22 1 #[(0,.tmp 73)]),zO 75 (.call ⟨.builtin .append,#[.tmp 69,.tmp 74],#[22,22]⟩),zG 5 75]
instance : Live qij := ⟨[3,4,5,6,7]⟩
def qii : List SOp := [zM 76 7,zO 77 (.binOp .add 3 (.tmp 76) (.const (.int .i64 1)) 3),zG 7 77]
instance : Live qii := ⟨[3,4,5,6,7]⟩
def qih : List SOp := [zM 78 5,zG 2 78]
instance : Live qih := ⟨[5]⟩
def qgu : SC :=
 (.seq (.seq (.ops false qvh) (.cond (.tmp 38) .skip (.exit 0))) (.block 1 (.seq (.ops true qvg) (.cond (.tmp 59) (.seq (.ops false qil) (.ops false qik)) (.seq (.ops false qij) (.ops false qii))))))
def z37 : SC :=
 (.seq (.ops false qvo) (.seq (.seq (.ops false qvn) (.cond (.tmp 10) (.seq (.ops false qvm) .ret) .skip)) (.seq (.ops false qvl) (.seq (.ops false qvk) (.seq (.ops false qvj) (.seq (.ops false qvi) (.seq (.block 0 (.loop qgu)) (.seq (.ops false qih) .ret))))))))
theorem zd0 : FnIs Tryz.prog 137 79 [.tmp 2] z37 := ⟨Tryz.f137, _, Tryz.func137, rfl, rfl, rfl, rfl, by kernel_rfl⟩

theorem z0r {l : List Int} {i : Nat} (h : i < l.length) : (q03 l)[i]? = some (.int .i64 (l.getD i 0)) := q0r (by simp [h])
theorem q57 (l : List Int) (i : Nat) : (q03 l).take i = q03 (l.take i) := by simp [q03]
theorem q9f (l : List Int) (i : Nat) : (q03 l).drop i = q03 (l.drop i) := by simp [q03]
theorem q2d (l : List Int) (x : Int) : q03 l ++ [.int .i64 x] = q03 (l ++ [x]) := by simp [q03, encI]
theorem ze4 : q03 [] = [] := rfl
def leI (x y : Int) : Bool := decide (x ≤ y)
theorem qdl {a b : List Int} {i j : Nat} (hi : i < a.length) (h : j = b.length ∨ a.getD i 0 ≤ b.getD j 0) (hj : j ≤ b.length) : List.merge (a.drop i) (b.drop j) leI = a.getD i 0 :: List.merge (a.drop (i + 1)) (b.drop j) leI := by
 rw [List.drop_eq_getElem_cons hi]
 have e : a.getD i 0 = a[i] := by simp [hi]
 rcases Nat.lt_or_ge j b.length with h' | h'
 ·rw [List.drop_eq_getElem_cons h', List.cons_merge_cons]
  have e2 : b.getD j 0 = b[j] := by simp [h']
  rw [e, e2] at h
  have h3 : a[i] ≤ b[j] := by rcases h with h | h; omega; exact h
  simp [leI, h3, e, hi]
 ·rw [List.drop_of_length_le h']
  simp [List.merge, hi]
theorem qc1 {a b : List Int} {i j : Nat} (hj : j < b.length) (h : i = a.length ∨ ¬ a.getD i 0 ≤ b.getD j 0) (hi : i ≤ a.length) : List.merge (a.drop i) (b.drop j) leI = b.getD j 0 :: List.merge (a.drop i) (b.drop (j + 1)) leI := by
 rw [List.drop_eq_getElem_cons hj]
 have e2 : b.getD j 0 = b[j] := by simp [hj]
 rcases Nat.lt_or_ge i a.length with h' | h'
 ·rw [List.drop_eq_getElem_cons h', List.cons_merge_cons]
  have e : a.getD i 0 = a[i] := by simp [h']
  rw [e, e2] at h
  have h3 : ¬ a[i] ≤ b[j] := by rcases h with h | h; omega; exact h
  simp [leI, h3, e2, hj]
 ·rw [List.drop_of_length_le h']
  simp [List.merge, hj]
theorem qkx {l a b : List Int} (ha : a.Perm (l.take (l.length / 2))) (hb : b.Perm (l.drop (l.length / 2))) (sa : a.Pairwise (fun x y => x ≤ y)) (sb : b.Pairwise (fun x y => x ≤ y)) : List.merge a b leI = q61 l := by
 have h1 : (List.merge a b leI).Perm l := by
  refine List.Perm.trans (List.merge_perm_append leI) ?_
  refine List.Perm.trans (ha.append hb) ?_
  rw [List.take_append_drop]
 have h2 : (List.merge a b leI).Pairwise (fun x y => leI x y = true) := List.pairwise_merge (le := leI) (fun a b c h1 h2 => by simp [leI] at *; omega) (fun a b => by simp [leI]; omega) _ _ (sa.imp fun {a b} h => by simpa [leI] using h) (sb.imp fun {a b} h => by simpa [leI] using h)
 have h3 := q3k l
 refine List.Perm.eq_of_pairwise (le := fun x y => x ≤ y) (fun a b _ _ h1 h2 => by omega) (h2.imp fun {a b} h => by simpa [leI] using h) h3 (h1.trans (q39 l).symm)
theorem qbe {l : List Int} (h : l.length < 2) : q61 l = l := by
 have := q39 l
 match l, h with
 | [], _ => exact List.Perm.eq_nil this
 | [x], _ => exact List.Perm.eq_singleton this
theorem zdt (l : List Int) (hl : l.length ≤ 1000000000) : Ev (En Tryz.prog rfl).P 137 [.sl 1 (q03 l)] (.ret (.sl 1 (q03 (q61 l)))) := by
 suffices h : ∀ n l, l.length ≤ n → l.length ≤ 1000000000 → Ev (En Tryz.prog rfl).P 137 [.sl 1 (q03 l)] (.ret (.sl 1 (q03 (q61 l)))) from h _ l (Nat.le_refl _) hl
 clear hl l
 intro n
 induction n with
 | zero =>
  intro l hn hl
  have : l = [] := List.length_eq_zero_iff.1 (by omega)
  subst this
  refine Ev.of_body zd0 (by simp) (Run.start ?_)
  unfold z37
  rw [qbe (by simp), ze4]
  (focus (have hF := True.intro; (repeat' (first | refine go1 (k:=?_) | with_reducible refine Ny.of ?_ ?_ | (refine Hyp.of ?_; intro hc; (try simp only [hc]); (try simp only [Bh] at hc)))); all_goals clear hF))
  exact Fin.tmp' rfl rfl
 | succ n ih =>
 intro l hn hl
 refine Ev.of_body zd0 (by simp) (Run.start ?_)
 unfold z37
 have e0 := q0d l
 have e1 : (0:Int) ≤ ((l.length / 2 : Nat) : Int) := by omega
 (focus (have hF := (aI (aI @e0 @e1) (aI @q57 @q9f)); (repeat' (first | refine go1 (k:=?_) | with_reducible refine Ny.of ?_ ?_ | (refine Hyp.of ?_; intro hc; (try simp only [hc]); (try simp only [Bh] at hc)))); all_goals clear hF))
 ·refine Fin.tmp' ?_ (q01 _)
  rw [qbe (by omega)]
  rfl
 ·have c1 := ih (l.take (l.length / 2)) (by rw [List.length_take]; omega) (by rw [List.length_take]; omega)
  have c2 := ih (l.drop (l.length / 2)) (by rw [List.length_drop]; omega) (by rw [List.length_drop]; omega)
  have l1 : (q61 (l.take (l.length / 2))).length = l.length / 2 := by rw [q81, List.length_take]; omega
  have l2 : (q61 (l.drop (l.length / 2))).length = l.length - l.length / 2 := by rw [q81, List.length_drop]
  have hm := qkx (q39 (l.take (l.length / 2))) (q39 (l.drop (l.length / 2))) (q3k _) (q3k _)
  generalize q61 (l.take (l.length / 2)) = a at c1 l1 hm
  generalize q61 (l.drop (l.length / 2)) = b at c2 l2 hm
  refine q05 [.sl 1 (q03 (l.take (l.length / 2)))] (he := c1) (k:=?_)
  (focus (have hF := (aI (aI @e0 @e1) (aI @q57 @q9f)); (repeat' (first | refine go1 (k:=?_) | with_reducible refine Ny.of ?_ ?_ | (refine Hyp.of ?_; intro hc; (try simp only [hc]); (try simp only [Bh] at hc)))); all_goals clear hF))
  refine q05 [.sl 1 (q03 (l.drop (l.length / 2)))] (he := c2) (k:=?_)
  (focus (have hF := (aI (aI @e0 @e1) (aI @q57 @q9f)); (repeat' (first | refine go1 (k:=?_) | with_reducible refine Ny.of ?_ ?_ | (refine Hyp.of ?_; intro hc; (try simp only [hc]); (try simp only [Bh] at hc)))); all_goals clear hF))
  refine Run.while (σ := List Int × Nat × Nat) (fun q => ⟨tms [(3, .sl 1 (q03 a)), (4, .sl 1 (q03 b)), (5, .os 28 q.1.length), (6, .int .i64 q.2.1), (7, .int .i64 q.2.2)], mms [(28, .arr q.1.length 1 (q03 q.1))]⟩)
   (fun q => q.1.length = q.2.1 + q.2.2 ∧ q.2.1 ≤ a.length ∧ q.2.2 ≤ b.length ∧ q.1 ++ List.merge (a.drop q.2.1) (b.drop q.2.2) leI = List.merge a b leI) (fun q => a.length + b.length - q.1.length) ([], 0, 0) (have hW := True.intro; q0t) ⟨rfl, Nat.zero_le _, Nat.zero_le _, by simp⟩ ?_
  rintro ⟨s, i, j⟩ ⟨h1, h2, h3, h4⟩
  dsimp only at h1 h2 h3 h4
  unfold qgu
  have f1 := q0d a
  have f2 := q0d b
  have f3 := q0d s
  (focus (have hF := (aI (aI @f1 (aI @f2 @f3)) (aI @z0r (aI @q2d @Int.natCast_inj))); (repeat' (first | refine go1 (k:=?_) | with_reducible refine Ny.of ?_ ?_ | (refine Hyp.of ?_; intro hc; (try simp only [hc]); (try simp only [Bh] at hc)))); all_goals clear hF))
  ·(refine Fin.nextW (s ++ [a.getD i 0], i + 1, j) ?_ (have hW := True.intro; q0t); (try dsimp only))
   refine ⟨⟨(by first | omega | (simp only [List.length_append, List.length_cons, List.length_nil]; omega)), (by first | omega | (simp only [List.length_append, List.length_cons, List.length_nil]; omega)), h3, ?_⟩, (by first | omega | (simp only [List.length_append, List.length_cons, List.length_nil]; omega))⟩
   rw [← h4, qdl (i := i) (j := j) (by omega) (.inl hc) h3]; simp
  ·(refine Fin.nextW (s ++ [a.getD i 0], i + 1, j) ?_ (have hW := True.intro; q0t); (try dsimp only))
   refine ⟨⟨(by first | omega | (simp only [List.length_append, List.length_cons, List.length_nil]; omega)), (by first | omega | (simp only [List.length_append, List.length_cons, List.length_nil]; omega)), h3, ?_⟩, (by first | omega | (simp only [List.length_append, List.length_cons, List.length_nil]; omega))⟩
   rw [← h4, qdl (i := i) (j := j) (by omega) (.inr hc) h3]; simp
  ·(refine Fin.nextW (s ++ [b.getD j 0], i, j + 1) ?_ (have hW := True.intro; q0t); (try dsimp only))
   refine ⟨⟨(by first | omega | (simp only [List.length_append, List.length_cons, List.length_nil]; omega)), h2, (by first | omega | (simp only [List.length_append, List.length_cons, List.length_nil]; omega)), ?_⟩, (by first | omega | (simp only [List.length_append, List.length_cons, List.length_nil]; omega))⟩
   rw [← h4, qc1 (i := i) (j := j) (by omega) (.inr hc) h2]; simp
  ·(refine Fin.nextW (s ++ [b.getD j 0], i, j + 1) ?_ (have hW := True.intro; q0t); (try dsimp only))
   refine ⟨⟨(by first | omega | (simp only [List.length_append, List.length_cons, List.length_nil]; omega)), h2, (by first | omega | (simp only [List.length_append, List.length_cons, List.length_nil]; omega)), ?_⟩, (by first | omega | (simp only [List.length_append, List.length_cons, List.length_nil]; omega))⟩
   rw [← h4, qc1 (i := i) (j := j) (by omega) (.inl (by omega)) h2]; simp
  ·have hs : s = q61 l := by
    rw [← hm, ← h4, show i = a.length by omega, show j = b.length by omega, List.drop_length, List.drop_length]
    simp [List.merge]
   rw [← hs]
   exact stRet (.sl 1 (q03 s))

def qy1 : List SOp := [zO 2 (.alloc 25)]
instance : Live qy1 := ⟨[0]⟩
def qy0 : List SOp := [zO 3 (.alloc 25)]
instance : Live qy0 := ⟨[0,2]⟩
def qxz : List SOp := [zO 11 (.makeSlice 22 (.const (.int .i64 16)) (.const (.int .i64 16))),zG 4 11]
instance : Live qxz := ⟨[0,2,3]⟩
def qxy : List SOp := [zO 5 (.assign (.const (.int .i64 0)))]
instance : Live qxy := ⟨[0,2,3,4]⟩
def qxx : List SOp := [zO 12 (.move (.const (.int .i64 0)))]
instance : Live qxx := ⟨[0,2,3,4,5]⟩
def qxw : List SOp := [zO 13 (.binOp .lss 3 (.tmp 12) (.const (.int .i64 16)) 3)]
instance : Live qxw := ⟨[0,2,3,4,5,12]⟩
def qxv : List SOp := [zM 14 12,zG 6 14]
instance : Live qxv := ⟨[0,2,3,4,5,12]⟩
def qxu : List SOp := [zM 16 0,zM 17 6,zO 18 (.nilCheck (.tmp 16)),zI 19 175 18 17,zL 20 173 19,zO 21 (.call ⟨.value (.func 138),#[.tmp 20],#[173]⟩),zM 15 21,zX 22 15 0,zX 23 15 1,zG 7 22,zG 8 23]
instance : Live qxu := ⟨[0,2,3,4,5,6,12]⟩
def qxt : List SOp := [zM 24 4,zM 25 6,zM 26 7,zI 27 22 24 25,⟨none,.store 3 (.tmp 27) (.tmp 26),none⟩]
instance : Live qxt := ⟨[0,2,3,4,5,6,7,8,12]⟩
def qjc : List SOp := [zM 28 7,zO 29 (.binOp .gtr 3 (.tmp 28) (.const (.int .i64 0)) 3)]
instance : Live qjc := ⟨[0,2,3,4,5,6,7,8,12]⟩
def qjb : List SOp := [zM 30 6,zO 31 (.binOp .add 3 (.tmp 30) (.const (.int .i64 1)) 3),zG 5 31]
instance : Live qjb := ⟨[0,2,3,4,6,8,12]⟩
def qja : List SOp := [zM 32 8,zO 33 (.call ⟨.builtin .len,#[.tmp 32],#[173]⟩),zO 34 (.move (.const (.int .i64 0)))]
instance : Live qja := ⟨[0,2,3,4,5,6,8,12]⟩
def qj9 : List SOp := [zO 35 (.binOp .lss 3 (.tmp 34) (.tmp 33) 3)]
instance : Live qj9 := ⟨[0,2,3,4,5,6,12,32,33,34]⟩
def qj8 : List SOp := [zI 36 173 32 34,zL 37 177 36,zO 10 (.alloc 177),⟨none,.store 177 (.tmp 10) (.tmp 37),none⟩]
instance : Live qj8 := ⟨[0,2,3,4,5,6,12,32,33,34]⟩
def qj7 : List SOp := [zF 38 25 3 1,zL 39 23 38,zM 40 6,zF 41 177 10 0,zL 42 3 41,zF 43 177 10 1,zL 44 3 43,zO 45 (.build 82 #[(0,.tmp 40),(1,.tmp 42),(2,.tmp 44)]),zO 46 (.buildSlice 23 1 #[(0,.tmp 45)]),zO 47 (.call ⟨.builtin .append,#[.tmp 39,.tmp 46],#[23,23]⟩),zF 48 25 3 1,⟨none,.store 23 (.tmp 48) (.tmp 47),none⟩]
instance : Live qj7 := ⟨[0,2,3,4,5,6,10,12,32,33,34]⟩
def qj6 : List SOp := [zO 49 (.binOp .add 3 (.tmp 34) (.const (.int .i64 1)) 3),zM 34 49]
instance : Live qj6 := ⟨[0,2,3,4,5,6,12,32,33,34]⟩
def qj5 : List SOp := [zO 50 (.binOp .add 3 (.tmp 12) (.const (.int .i64 1)) 3),zM 12 50]
instance : Live qj5 := ⟨[0,2,3,4,5,12]⟩
def qj4 : List SOp := [zM 51 5,zO 52 (.binOp .gtr 3 (.tmp 51) (.const (.int .i64 0)) 3)]
instance : Live qj4 := ⟨[2,3,4,5]⟩
def qj3 : List SOp := [zM 53 4,zM 54 5,zO 55 (.slice 22 (.tmp 53) none (some (.tmp 54)) none),zO 56 (.call ⟨.value (.func 139),#[.tmp 55],#[22]⟩),zF 57 25 3 0,⟨none,.store 22 (.tmp 57) (.tmp 56),none⟩]
instance : Live qj3 := ⟨[2,3,4,5]⟩
def qj2 : List SOp := [zL 58 25 3,⟨none,.store 25 (.tmp 2) (.tmp 58),none⟩]
instance : Live qj2 := ⟨[2,3]⟩
def qh0 : SC :=
 (.seq (.ops false qj9) (.seq (.cond (.tmp 35) .skip (.exit 2)) (.seq (.block 3 (.seq (.ops false qj8) (.ops false qj7))) (.ops false qj6))))
def qh1 : SC :=
 (.seq (.ops false qxw) (.seq (.cond (.tmp 13) .skip (.exit 0)) (.seq (.block 1 (.seq (.ops false qxv) (.seq (.ops false qxu) (.seq (.ops false qxt) (.seq (.seq (.ops false qjc) (.cond (.tmp 29) (.ops false qjb) .skip)) (.seq (.ops false qja) (.block 2 (.loop qh0)))))))) (.ops false qj5))))
def t_k122 : SC :=
 (.seq (.ops false qy1) (.seq (.ops false qy0) (.seq (.ops false qxz) (.seq (.ops false qxy) (.seq (.seq (.ops false qxx) (.block 0 (.loop qh1))) (.seq (.seq (.ops false qj4) (.cond (.tmp 52) (.ops false qj3) .skip)) (.seq (.ops false qj2) .ret)))))))
theorem it_k122 : FnIs Tryz.prog 122 59 [.cell 2 25] t_k122 := ⟨Tryz.f122, _, Tryz.func122, rfl, rfl, rfl, rfl, by kernel_rfl⟩

theorem ev_k138 (l : List Rn) (hl : l.length ≤ 900000000) : Ev (En Tryz.prog rfl).P 138 [.sl 2 (q0f l)] (.ret (.tup [.int .i64 (q1r (q11 l)).1, .sl 2 (q0f (q1r (q11 l)).2)])) :=
 z27 l (q11 l) (by have := q4d l; omega) (zdq l hl)
def q5k (t : Tab) (r : Nat) : Int := (q1r (q11 (t.getD r []))).1
def q4a (t : Tab) (r : Nat) : List Rn := (q1r (q11 (t.getD r []))).2
def q3u (r : Nat) (x : Rn) : Sn := ((r : Int), x.1, x.2)
def q5q (t : Tab) (r : Nat) : List Sn := (q4a t r).map (q3u r)
def q19 (t : Tab) (n : Nat) : List Sn := (List.range n).flatMap (q5q t)
def q2v (t : Tab) (n : Nat) : Nat := (List.range n).foldl (fun a r => if 0 < q5k t r then r + 1 else a) 0
def q24 (t : Tab) (n : Nat) : List Int := (List.range n).map (q5k t)
def q9n (t : Tab) (n : Nat) : List Int := q24 t n ++ List.replicate (16 - n) 0
def q69 (t : Tab) : Pst := ⟨(q24 t 16).take (q2v t 16), q19 t 16⟩
theorem q98 (l : List Rn) : (q1r l).2.length ≤ l.length := by
 cases l with
 | nil => simp [q1r]
 | cons x l => simp only [q1r]; split <;> simp
theorem qhl {t : Tab} {n : Nat} (h : TabLe t n) (r : Nat) : (q4a t r).length ≤ n := by
 have h1 := q98 (q11 (t.getD r []))
 have h2 := q4d (t.getD r [])
 have h3 := h.2 r
 unfold q4a
 omega
theorem q4h (t : Tab) (n : Nat) : q19 t (n + 1) = q19 t n ++ q5q t n := by
 unfold q19
 rw [List.range_succ, List.flatMap_append]
 simp
theorem q9g {t : Tab} {n : Nat} (h : TabLe t n) : ∀ m, (q19 t m).length ≤ m * n
 | 0 => by simp [q19]
 | m + 1 => by
  rw [q4h, List.length_append, Nat.succ_mul]
  have h1 := q9g h m
  have h2 := qhl h m
  simp only [q5q, List.length_map]
  omega
theorem q6p (t : Tab) (n : Nat) : q2v t (n + 1) = if 0 < q5k t n then n + 1 else q2v t n := by
 unfold q2v
 rw [List.range_succ, List.foldl_append]
 rfl
theorem qai (t : Tab) : ∀ n, q2v t n ≤ n
 | 0 => Nat.le_refl _
 | n + 1 => by rw [q6p]; split; omega; have := qai t n; omega
theorem qc6 (t : Tab) (n : Nat) : q24 t (n + 1) = q24 t n ++ [q5k t n] := by
 unfold q24
 rw [List.range_succ, List.map_append]
 rfl
theorem q2c (t : Tab) (n : Nat) : (q24 t n).length = n := by simp [q24]
theorem qae (t : Tab) {n : Nat} (h : n ≤ 16) : (q9n t n).length = 16 := by
 simp [q9n, q2c]; omega
theorem qor (t : Tab) {n : Nat} (h : n < 16) : (q03 (q9n t n))[n]? = some (.int .i64 0) := by
 refine q0r ?_
 unfold q9n
 rw [List.getElem?_append_right (by rw [q2c]; exact Nat.le_refl _), q2c, Nat.sub_self, List.getElem?_replicate, if_pos (by omega)]
theorem qoq (t : Tab) {n : Nat} (h : n < 16) : (q03 (q9n t n)).set n (.int .i64 (q5k t n)) = q03 (q9n t (n + 1)) := by
 have e : (q9n t n).set n (q5k t n) = q9n t (n + 1) := by
  unfold q9n
  rw [List.set_append_right _ _ (by rw [q2c]; exact Nat.le_refl _), q2c, Nat.sub_self, show 16 - n = (16 - (n + 1)) + 1 by omega, List.replicate_succ, List.set_cons_zero, qc6, List.append_assoc]
  rfl
 rw [← e]
 simp [q03, encI, List.map_set]
theorem q1i (l : List Sn) (a b c : Int) : q0g l ++ [.agg [.int .i64 a, .int .i64 b, .int .i64 c]] = q0g (l ++ [(a, b, c)]) := by simp [q0g, encS]
def z3t (t : Tab) (r c : Nat) : List Sn := q19 t r ++ ((q4a t r).take c).map (q3u r)
theorem z3r (t : Tab) (r : Nat) : z3t t r 0 = q19 t r := by simp [z3t]
theorem z3s {t : Tab} {r c : Nat} {x : Rn} (hx : (q4a t r)[c]? = some x) : z3t t r (c + 1) = z3t t r c ++ [((r : Int), x.1, x.2)] := by
 unfold z3t
 rw [List.take_add_one, hx]
 simp [q3u]
theorem rowC_all (t : Tab) (r : Nat) : z3t t r (q4a t r).length = q19 t (r + 1) := by
 unfold z3t
 rw [q4h, List.take_length]
 rfl
theorem rowC_len (t : Tab) (r c : Nat) : (z3t t r c).length ≤ (q19 t r).length + (q4a t r).length := by
 simp only [z3t, List.length_append, List.length_map, List.length_take]
 omega
theorem ev_k122 (t : Tab) {n : Nat} (ht : TabLe t n) (hn : n ≤ 50000000) : Ev (En Tryz.prog rfl).P 122 [.sptr (q6h t)] (.ret (q10 (q69 t))) := by
 refine Ev.of_body it_k122 (by simp) (Run.start ?_)
 unfold t_k122
 have h16 : (q6h t).length = 16 := by rw [qlc, ht.1]
 (focus (have hF := @h16; (repeat' (first | refine go1 (k:=?_) | with_reducible refine Ny.of ?_ ?_ | (refine Hyp.of ?_; intro hc; (try simp only [hc]); (try simp only [Bh] at hc)))); all_goals clear hF))
 refine Run.wk (Wk.own_cells (k := 3) (cs' := [.own 1 [], .own 3 []]) rfl rfl ?_) ?_
 ·intro i x y hx hy
  match i with
  | 0 => simp at hx hy; subst hx; subst hy; exact .inr ⟨rfl, 1, rfl⟩
  | 1 => simp at hx hy; subst hx; subst hy; exact .inr ⟨rfl, 3, rfl⟩
  | i + 2 => simp at hx
 refine Run.while (σ := Nat) (fun r => ⟨tms [(0, .sptr (q6h t)), (2, .ptr 2 0), (3, .ptr 3 0), (4, .os 11 0), (5, .int .i64 (q2v t r)), (12, .int .i64 r)], mms [(2, .cells [.nil, .nil]), (3, .cells [.own 1 [], .own 3 (q0g (q19 t r))]), (11, .arr 0 1 (q03 (q9n t r)))]⟩)
  (fun r => r ≤ 16) (fun r => 16 - r) 0 (have hW := @q32; q0t) (Nat.zero_le _) ?_
 intro r hr
 have g0 : (q03 (q9n t r)).length = 16 := by rw [q0d, qae t hr]
 have hsz := qai t r
 unfold qh1
 by_cases hlt : r < 16
 ·have hrt : r < t.length := by rw [ht.1]; exact hlt
  have hq := ht.2 r
  have g1 := qlq (qld hrt)
  have g2 := qor t hlt
  have g3 := qoq t hlt
  have hcall := ev_k138 (t.getD r []) (by omega)
  have hrl := qhl ht r
  have hcl := q9g ht r
  have hcl2 : r * n ≤ 16 * n := Nat.mul_le_mul_right n hr
  have g4 := q33 (q4a t r)
  have hs1 := q6p t r
  change Ev _ _ _ (.ret (.tup [.int .i64 (q5k t r), .sl 2 (q0f (q4a t r))])) at hcall
  (focus (have hF := (aI (aI @h16 @g0) (aI @g1 @g2)); (repeat' (first | refine go1 (k:=?_) | with_reducible refine Ny.of ?_ ?_ | (refine Hyp.of ?_; intro hc; (try simp only [hc]); (try simp only [Bh] at hc)))); all_goals clear hF))
  refine q05 [.sl 2 (q0f (t.getD r []))] (he := hcall) (k:=?_)
  (focus (have hF := (aI (aI @h16 (aI @g0 @g1)) (aI @g2 (aI @g3 @g4))); (repeat' (first | refine go1 (k:=?_) | with_reducible refine Ny.of ?_ ?_ | (refine Hyp.of ?_; intro hc; (try simp only [hc]); (try simp only [Bh] at hc)))); all_goals clear hF))
  all_goals
   refine Run.while (σ := Nat) (fun c => ⟨tms [(0, .sptr (q6h t)), (2, .ptr 2 0), (3, .ptr 3 0), (4, .os 11 0), (5, .int .i64 (q2v t (r + 1))), (6, .int .i64 r), (12, .int .i64 r), (32, .sl 2 (q0f (q4a t r))), (33, .int .i64 (q4a t r).length), (34, .int .i64 c)], mms [(2, .cells [.nil, .nil]), (3, .cells [.own 1 [], .own 3 (q0g (z3t t r c))]), (11, .arr 0 1 (q03 (q9n t (r + 1))))]⟩)
    (fun c => c ≤ (q4a t r).length) (fun c => (q4a t r).length - c) 0 (have hW := (aI (aI @q32 @hs1) (aI @hc (aI @g3 @z3r))); q0t) (Nat.zero_le _) ?_
   intro c hcc
   unfold qh0
   by_cases hclt : c < (q4a t r).length
   ·obtain ⟨x, hx⟩ : ∃ x, (q4a t r)[c]? = some x := ⟨(q4a t r)[c], by simp [hclt]⟩
    have k1 : (q0f (q4a t r))[c]? = some (.agg [.int .i64 x.1, .int .i64 x.2]) := q8q hx
    have hnx := z3s hx
    have hcl3 := rowC_len t r c
    generalize z3t t r c = cl at hnx hcl3 ⊢
    have k2 := q14 cl
    (focus (have hF := (aI (aI @g4 @k1) (aI @k2 @q1i)); (repeat' (first | refine go1 (k:=?_) | with_reducible refine Ny.of ?_ ?_ | (refine Hyp.of ?_; intro hc; (try simp only [hc]); (try simp only [Bh] at hc)))); all_goals clear hF))
    (refine Fin.nextW (c + 1) ?_ (have hW := (aI @hnx @q32); q0t); (try dsimp only))
    omega
   ·rw [show c = (q4a t r).length by omega, rowC_all]
    (focus (have hF := @g4; (repeat' (first | refine go1 (k:=?_) | with_reducible refine Ny.of ?_ ?_ | (refine Hyp.of ?_; intro hc; (try simp only [hc]); (try simp only [Bh] at hc)))); all_goals clear hF))
    (refine Fin.nextW (r + 1) ?_ (have hW := @q32; q0t); (try dsimp only))
    omega
 ·have hre : r = 16 := by omega
  subst hre
  have hv : q9n t 16 = q24 t 16 := by simp [q9n]
  rw [hv] at g0 ⊢
  have hll := q2c t 16
  have hlz : ((q24 t 16).take (q2v t 16)).length ≤ 16 := by rw [List.length_take]; omega
  have hres : q69 t = ⟨(q24 t 16).take (q2v t 16), q19 t 16⟩ := rfl
  rw [hres]
  have hz : ¬ (0 < (q2v t 16 : Int)) → (q24 t 16).take (q2v t 16) = [] := fun h => by rw [show q2v t 16 = 0 by omega]; rfl
  refine Run.wk (Wk.freeze (k := 3) (cs := [.own 1 [], .own 3 (q0g (q19 t 16))]) rfl) ?_
  refine Run.wk (s' := ⟨tms [(0, .sptr (q6h t)), (2, .ptr 2 0), (3, .ptr 3 0), (4, .os 11 0), (5, .int .i64 (q2v t 16)), (12, .int .i64 16)], mms [(2, .cells [.nil, .nil]), (3, .cells [.sl 1 [], .sl 3 (q0g (q19 t 16))]), (11, .arr 0 1 (q03 (q24 t 16)))]⟩) (have hW := @q32; q0t) ?_
  (focus (have hF := (aI @g0 @q57); (repeat' (first | refine go1 (k:=?_) | with_reducible refine Ny.of ?_ ?_ | (refine Hyp.of ?_; intro hc; (try simp only [hc]); (try simp only [Bh] at hc)))); all_goals clear hF))
  ·refine q05 [.sl 1 (q03 ((q24 t 16).take (q2v t 16)))] (he := ev_k139 _ (by omega)) (k:=?_)
   (focus (have hF := @g0; (repeat' (first | refine go1 (k:=?_) | with_reducible refine Ny.of ?_ ?_ | (refine Hyp.of ?_; intro hc; (try simp only [hc]); (try simp only [Bh] at hc)))); all_goals clear hF))
   exact Fin.all rfl (by simp [q0i, AVal.stb, q01, q02, fzc, q74]) rfl
  ·have := hz hc
   rw [this]
   exact Fin.all rfl (by simp [q0i, AVal.stb, q01, q02, fzc, q74]) rfl

def z51 : List SOp := [zO 6 (.assign (.const (.int .i64 0)))]
instance : Live z51 := ⟨[0,1,2]⟩
def z4z : List SOp := [zM 8 2,zO 9 (.call ⟨.builtin .len,#[.tmp 8],#[23]⟩),zG 7 9]
instance : Live z4z := ⟨[0,1,2]⟩
def z4y : List SOp := [zM 10 7,zO 11 (.binOp .gtr 3 (.tmp 10) (.const (.int .i64 0)) 3),zM 12 11,⟨some 13,.move (.tmp 2),some ((some 12),true)⟩,⟨some 14,.move (.tmp 7),some ((some 12),true)⟩,⟨some 15,.binOp .sub 3 (.tmp 14) (.const (.int .i64 1)) 3,some ((some 12),true)⟩,⟨some 16,.indexAddr 23 (.tmp 13) (.tmp 15),some ((some 12),true)⟩,⟨some 17,.fieldAddr 82 (.tmp 16) 0,some ((some 12),true)⟩,⟨some 18,.load 3 (.tmp 17),some ((some 12),true)⟩,⟨some 19,.move (.tmp 1),some ((some 12),true)⟩,⟨some 20,.binOp .eql 3 (.tmp 18) (.tmp 19) 3,some ((some 12),true)⟩,zO 21 (.pick (.tmp 12) (.tmp 20) (.const (.bool false)))]
instance : Live z4y := ⟨[0,1,2,7]⟩
def z4x : List SOp := [zM 22 2,zM 23 7,zO 24 (.binOp .sub 3 (.tmp 23) (.const (.int .i64 1)) 3),zI 25 23 22 24,zF 26 82 25 2,zL 27 3 26,zO 28 (.binOp .add 3 (.tmp 27) (.const (.int .i64 2)) 3),zG 6 28]
instance : Live z4x := ⟨[2,7]⟩
def z4w : List SOp := [zM 29 1,zM 30 0,zO 31 (.call ⟨.builtin .len,#[.tmp 30],#[22]⟩),zO 32 (.binOp .lss 3 (.tmp 29) (.tmp 31) 3)]
instance : Live z4w := ⟨[0,1]⟩
def z4v : List SOp := [zM 33 0,zM 34 1,zI 35 22 33 34,zL 36 3 35,zO 37 (.binOp .add 3 (.tmp 36) (.const (.int .i64 2)) 3),zG 6 37]
instance : Live z4v := ⟨[0,1]⟩
def z4u : List SOp := [zO 6 (.assign (.const (.int .i64 2)))]
instance : Live z4u := ⟨[]⟩
def t_k93 : SC :=
 (.seq (.ops false z51) (.seq (.seq (.ops false z4z) (.seq (.ops false z4y) (.cond (.tmp 21) (.seq (.ops false z4x) .ret) .skip))) (.seq (.seq (.ops false z4w) (.cond (.tmp 32) (.seq (.ops false z4v) .ret) .skip)) (.seq (.ops false z4u) .ret))))
theorem it_k93 : FnIs Tryz.prog 93 38 [.tmp 6] t_k93 := ⟨Tryz.f93, _, Tryz.func93, rfl, rfl, rfl, rfl, by kernel_rfl⟩

def z7t : List SOp := [zO 2 (.alloc 25)]
instance : Live z7t := ⟨[0]⟩
def z7s : List SOp := [zO 3 (.alloc 25)]
instance : Live z7s := ⟨[0,2]⟩
def z7r : List SOp := [zM 7 0,zO 8 (.call ⟨.value (.func 104),#[.tmp 7,.const (.int .i64 16)],#[140,3]⟩),zO 9 (.move (.const (.int .i64 0)))]
instance : Live z7r := ⟨[0,2,3]⟩
def z7q : List SOp := [zO 10 (.binOp .lss 3 (.tmp 9) (.tmp 8) 3)]
instance : Live z7q := ⟨[0,2,3,8,9]⟩
def qng : List SOp := [zF 11 25 3 0,zL 12 22 11,zM 13 0,zO 14 (.call ⟨.value (.func 104),#[.tmp 13,.const (.int .i64 1000000000)],#[140,3]⟩),zO 15 (.buildSlice 22 1 #[(0,.tmp 14)]),zO 16 (.call ⟨.builtin .append,#[.tmp 12,.tmp 15],#[22,22]⟩),zF 17 25 3 0,⟨none,.store 22 (.tmp 17) (.tmp 16),none⟩]
instance : Live qng := ⟨[0,2,3,8,9]⟩
instance : Rd qng := ⟨fun j => false⟩
def z7p : List SOp := [zO 18 (.binOp .add 3 (.tmp 9) (.const (.int .i64 1)) 3),zM 9 18]
instance : Live z7p := ⟨[0,2,3,8,9]⟩
def z7o : List SOp := [zO 4 (.assign (.const (.int .i64 0)))]
instance : Live z7o := ⟨[0,2,3]⟩
def z7n : List SOp := [zM 19 0,zO 20 (.call ⟨.value (.func 105),#[.tmp 19,.const (.int .i64 3)],#[140,3]⟩),zO 21 (.move (.const (.int .i64 0)))]
instance : Live z7n := ⟨[0,2,3,4]⟩
def z7m : List SOp := [zO 22 (.binOp .lss 3 (.tmp 21) (.tmp 20) 3)]
instance : Live z7m := ⟨[0,2,3,4,20,21]⟩
def qri : List SOp := [zM 23 4,zM 24 0,zO 25 (.call ⟨.value (.func 104),#[.tmp 24,.const (.int .i64 16)],#[140,3]⟩),zO 26 (.binOp .add 3 (.tmp 23) (.tmp 25) 3),zG 4 26]
instance : Live qri := ⟨[0,2,3,4,20,21]⟩
def qrh : List SOp := [zM 27 4,zO 28 (.binOp .geq 3 (.tmp 27) (.const (.int .i64 16)) 3)]
instance : Live qrh := ⟨[0,2,3,4,20,21]⟩
def qrg : List SOp := [zM 29 0,zO 30 (.call ⟨.value (.func 106),#[.tmp 29,.const (.int .i64 8)],#[140,35]⟩)]
instance : Live qrg := ⟨[0,2,3,4,20,21]⟩
def qrf : List SOp := [zF 31 25 3 0,zL 32 22 31,zM 33 4,zF 34 25 3 1,zL 35 23 34,zO 36 (.call ⟨.value (.func 93),#[.tmp 32,.tmp 33,.tmp 35],#[22,3,23]⟩),zM 37 0,zO 38 (.call ⟨.value (.func 104),#[.tmp 37,.const (.int .i64 1000000000)],#[140,3]⟩),zO 39 (.binOp .add 3 (.tmp 36) (.tmp 38) 3),zG 5 39]
instance : Live qrf := ⟨[0,2,3,4,20,21]⟩
def qre : List SOp := [zM 40 5,zM 41 0,zO 42 (.call ⟨.value (.func 104),#[.tmp 41,.const (.int .i64 1000000000)],#[140,3]⟩),zO 43 (.binOp .add 3 (.tmp 40) (.tmp 42) 3),zG 6 43]
instance : Live qre := ⟨[0,2,3,4,5,20,21]⟩
def qrd : List SOp := [zM 44 6,zO 45 (.binOp .gtr 3 (.tmp 44) (.const (.int .i64 1000000000)) 3)]
instance : Live qrd := ⟨[0,2,3,4,5,6,20,21]⟩
def qrc : List SOp := [zM 46 0,zO 47 (.call ⟨.value (.func 106),#[.tmp 46,.const (.int .i64 8)],#[140,35]⟩)]
instance : Live qrc := ⟨[0,2,3,4,5,6,20,21]⟩
def qrb : List SOp := [zF 48 25 3 1,zL 49 23 48,zM 50 4,zM 51 5,zM 52 6,zO 53 (.build 82 #[(0,.tmp 50),(1,.tmp 51),(2,.tmp 52)]),zO 54 (.buildSlice 23 1 #[(0,.tmp 53)]),zO 55 (.call ⟨.builtin .append,#[.tmp 49,.tmp 54],#[23,23]⟩),zF 56 25 3 1,⟨none,.store 23 (.tmp 56) (.tmp 55),none⟩]
instance : Live qrb := ⟨[0,2,3,4,5,6,20,21]⟩
def qra : List SOp := [zO 57 (.binOp .add 3 (.tmp 21) (.const (.int .i64 1)) 3),zM 21 57]
instance : Live qra := ⟨[0,2,3,4,20,21]⟩
def qr9 : List SOp := [zL 58 25 3,⟨none,.store 25 (.tmp 2) (.tmp 58),none⟩]
instance : Live qr9 := ⟨[2,3]⟩
def qp7 : SC :=
 (.seq (.ops false z7q) (.seq (.cond (.tmp 10) .skip (.exit 0)) (.seq (.block 1 (.opsW [12, 14] qng)) (.ops false z7p))))
def qp6 : SC :=
 (.seq (.ops false z7m) (.seq (.cond (.tmp 22) .skip (.exit 2)) (.seq (.block 3 (.seq (.ops false qri) (.seq (.seq (.ops false qrh) (.cond (.tmp 28) (.ops false qrg) .skip)) (.seq (.ops false qrf) (.seq (.ops false qre) (.seq (.seq (.ops false qrd) (.cond (.tmp 45) (.ops false qrc) .skip)) (.ops false qrb))))))) (.ops false qra))))
def t_k60 : SC :=
 (.seq (.ops false z7t) (.seq (.ops false z7s) (.seq (.seq (.ops false z7r) (.block 0 (.loop qp7))) (.seq (.ops false z7o) (.seq (.seq (.ops false z7n) (.block 2 (.loop qp6))) (.seq (.ops false qr9) .ret))))))
theorem it_k60 : FnIs Tryz.prog 60 59 [.cell 2 25] t_k60 := ⟨Tryz.f60, _, Tryz.func60, rfl, rfl, rfl, rfl, by kernel_rfl⟩

theorem lift_ok {n : Nat} {B : Nat → Prop} {G : Gh} {s : AS} {a : Act} {w : World} (h : Rel n B G s a w) {k off d sz : Nat} {cs xs : List AVal} (hk : s.M k = some (.cells cs)) (hd : s.M d = none)
 (hc : cs[off]? = some (.own sz xs)) {u : Value} (hu : OwnAt (Dm s.M) G B w (.cell k off) sz xs u) (hcu : ∀ c el fr, w.heap[G.β k]? = some (.cells c el fr) → c[off]? = some u) :
 ∃ G', Adv G w G' w ∧ Rel n B G' ⟨s.T, ap s.M [(k, .cells (cs.set off (.os d 0))), (d, .arr 0 sz xs)]⟩ a w := by
 have hkd : d ≠ k := fun e => by subst e; rw [hk] at hd; cases hd
 have hu1 : u.oneCell' = true := by rcases hu with ⟨rfl, _⟩ | ⟨b, o, cap, c, el, rfl, _⟩ <;> rfl
 let G' : Gh := { β := G.β, hd := fun j e => if j = d ∧ e = 0 then u else G.hd j e, ow := fun b => if G.ow b = some (.cell k off) then some (.arr d) else G.ow b, hd1 := fun j e => by by_cases hc' : j = d ∧ e = 0 <;> simp [hc', hu1, G.hd1] }
 have e1 : ∀ b, G.ow b = none → G'.ow b = none := fun b hb => by simp [G', hb]
 have e2 : ∀ b key, G.ow b = some key → key ≠ .cell k off → G'.ow b = some key := fun b key hb hne => by simp [G', hb, hne]
 have hA : Adv G w G' w := ⟨⟨rfl, Nat.le_refl _⟩, rfl, rfl, Nat.le_refl _, fun b hb ho => ⟨rfl, e1 b ho⟩⟩
 have hM : ap s.M [(k, .cells (cs.set off (.os d 0))), (d, .arr 0 sz xs)] = upd (upd s.M k (some (.cells (cs.set off (.os d 0))))) d (some (.arr 0 sz xs)) := rfl
 have hD : ∀ j e, Dm s.M j e → Dm (upd (upd s.M k (some (.cells (cs.set off (.os d 0))))) d (some (.arr 0 sz xs))) j e := fun j e hj =>
  q35 (by rw [q0h _ _ hkd, hd]; trivial) (q35 (by rw [hk]; trivial) hj)
 have hG : ∀ j e, Dm s.M j e → G'.β j = G.β j ∧ G'.hd j e = G.hd j e := fun j e hj => by
  refine ⟨rfl, ?_⟩
  have : j ≠ d := fun e => by subst e; exact q5w hd hj
  simp [G', this]
 have hw : ∀ b, b < w.heap.size → ¬ B b → G.ow b = none → w.heap[b]? = w.heap[b]? ∧ ¬ B b ∧ G'.ow b = none := fun b _ hn ho => ⟨rfl, hn, e1 b ho⟩
 refine ⟨G', hA, ?_⟩
 rw [hM]
 refine ⟨h.size, h.defers, fun t => (h.temps t).mono hD hG hw, fun j blk hj => ?_, fun b hb => ⟨(h.fr b hb).1, e1 b (h.fr b hb).2⟩, fun b hb => ?_⟩
 ·by_cases hjd : j = d
  ·subst hjd
   simp only [q00, Option.some.injEq] at hj
   subst hj
   show OwnAt _ G' B w (.arr j) sz xs (G'.hd j 0)
   have hh : G'.hd j 0 = u := by simp [G']
   rw [hh]
   rcases hu with hu | ⟨b, o, cap, c, el, h1, h2, h3, h4, h5, h6, h7, h7', h8⟩
   ·exact .inl hu
   ·exact .inr ⟨b, o, cap, c, el, h1, h2, by simp [G', h3], h4, h5, h6, h7, h7', fun m x hx => let ⟨y, hy, hr⟩ := h8 m x hx; ⟨y, hy, hr.mono hD hG hw⟩⟩
  ·simp only [q0h _ _ hjd] at hj
   by_cases hjk : j = k
   ·subst hjk
    simp only [q00, Option.some.injEq] at hj
    subst hj
    obtain ⟨c, el, b1, b2, b3, b4, b5⟩ := h.mem j _ hk
    refine ⟨c, el, e2 _ _ b1 (by simp), b2, b3, by simpa using b4, fun i x hx => ?_⟩
    by_cases hio : off = i
    ·subst hio
     have hlt : off < cs.length := by
      rcases Nat.lt_or_ge off cs.length with h' | h'
      ·exact h'
      ·rw [List.getElem?_eq_none h'] at hc; cases hc
     obtain ⟨y, hy, _⟩ := b5 off _ hc
     simp only [List.getElem?_set_self hlt, Option.some.injEq] at hx
     subst hx
     have e0 := hcu _ _ _ b3
     rw [hy] at e0
     cases e0
     exact ⟨_, hy, .os d 0 (Dm_arr (q00 _ _ _) (Nat.le_refl _)) _ (by simp [G'])⟩
    ·rw [List.getElem?_set_ne hio] at hx
     obtain ⟨y, hy, hr⟩ := b5 i x hx
     refine ⟨y, hy, ?_⟩
     cases x with
     | own sz' xs' => exact OwnAt.mono hD hG hw (fun b _ hb2 hb3 => ⟨rfl, hb2, e2 _ _ hb3 (by simp; intro e; exact hio e.symm)⟩) hr
     | hole => trivial
     | _ => exact VR.mono hD hG hw hr
   ·simp only [q0h _ _ hjk] at hj
    refine (h.mem j blk hj).mono hD hG hw (fun b key hkey _ hb2 hb3 => ⟨rfl, hb2, e2 _ _ hb3 (fun e => ?_)⟩) (q90 hj)
    subst e
    exact hjk hkey.symm
 ·apply h.ol b
  intro hn
  exact hb (e1 b hn)
theorem Wk.lift {n : Nat} {T : q12} {M : Mem} {k d off sz : Nat} {cs xs : List AVal} (hk : M k = some (.cells cs)) (hd : M d = none) (hc : cs[off]? = some (.own sz xs)) :
 Wk n ⟨T, M⟩ ⟨T, upd (upd M k (some (.cells (cs.set off (.os d 0))))) d (some (.arr 0 sz xs))⟩ := by
 intro B G a w hR
 obtain ⟨c, el, b1, b2, b3, b4, b5⟩ := hR.mem k _ hk
 obtain ⟨u, hu, hr⟩ := b5 off _ hc
 obtain ⟨G', hA, hR'⟩ := lift_ok hR hk hd hc hr (fun c' el' fr h => by rw [b3] at h; cases h; exact hu)
 exact ⟨G', hR', hA⟩
def qg9 (vec : List Int) (rep : Nat) : Int := match vec[rep]? with | some n => n + 2 | none => 2
def q1e (vec : List Int) (rep : Nat) (cl : List Sn) : Int :=
 match cl.getLast? with
 | some s => if s.1 = rep then s.2.2 + 2 else qg9 vec rep
 | none => qg9 vec rep
theorem ev_k93 (vec : List Int) (rep : Nat) (cl : List Sn) (hv : vec.length ≤ 1000000000) (hc : cl.length ≤ 900000000000) (hr : rep ≤ 1000000) (hn : ∀ x ∈ vec, 0 ≤ x ∧ x ≤ 4000000000) (hl : ∀ s ∈ cl, 0 ≤ s.2.2 ∧ s.2.2 ≤ 4000000000) :
 Ev (En Tryz.prog rfl).P 93 [.sl 1 (q03 vec), .int .i64 (rep : Int), .sl 3 (q0g cl)] (.ret (.int .i64 (q1e vec rep cl))) := by
 refine Ev.of_body it_k93 (by simp) (Run.start ?_)
 unfold t_k93
 have e1 := q0d vec
 have e2 := q14 cl
 have low : ∀ {k : Kont} {M : Mem}, True := fun {_ _} => trivial
 by_cases h0 : cl.length = 0
 ·have hlen : ¬ (0 : Int) < (cl.length : Int) := by omega
  have hres : q1e vec rep cl = qg9 vec rep := by
   rw [List.length_eq_zero_iff] at h0
   subst h0
   rfl
  rw [hres]
  unfold qg9
  by_cases hlt : rep < vec.length
  ·have g1 : vec[rep]? = some (vec[rep]) := List.getElem?_eq_getElem hlt
   have g2 := q0r g1
   have hb := hn _ (List.getElem_mem hlt)
   rw [g1]
   simp only
   generalize vec[rep] = x at g2 hb ⊢
   have hlt2 : (rep : Int) < (vec.length : Int) := by omega
   have w1 : IntKind.i64.wrap (x + 2) = x + 2 := q0b (by omega)
   (focus (have hF := (aI (aI @e1 (aI @e2 @hlen)) (aI @hlt2 (aI @g2 @w1))); (repeat' (first | refine go1 (k:=?_) | with_reducible refine Ny.of ?_ ?_ | (refine Hyp.of ?_; intro hc; (try simp only [hc]); (try simp only [Bh] at hc)))); all_goals clear hF))
   exact Fin.tmp' rfl rfl
  ·rw [List.getElem?_eq_none (by omega)]
   have hlt2 : ¬ (rep : Int) < (vec.length : Int) := by omega
   (focus (have hF := (aI (aI @e1 @e2) (aI @hlen @hlt2)); (repeat' (first | refine go1 (k:=?_) | with_reducible refine Ny.of ?_ ?_ | (refine Hyp.of ?_; intro hc; (try simp only [hc]); (try simp only [Bh] at hc)))); all_goals clear hF))
   exact Fin.tmp' rfl rfl
 ·have hlen : (0 : Int) < (cl.length : Int) := by omega
  have hlt0 : cl.length - 1 < cl.length := by omega
  have g3 : cl[cl.length - 1]? = some (cl[cl.length - 1]) := List.getElem?_eq_getElem hlt0
  have g4 := q21 g3
  have hb3 := hl _ (List.getElem_mem hlt0)
  have hgl : cl.getLast? = some cl[cl.length - 1] := by rw [List.getLast?_eq_getElem?, g3]
  have w0 := qgd (i := cl.length) (by omega)
  unfold q1e
  rw [hgl]
  simp only
  generalize cl[cl.length - 1] = s at g4 hb3 ⊢
  obtain ⟨sr, sl, sh⟩ := s
  simp only at hb3 ⊢
  have g5 : (q0g cl)[cl.length - 1]? = some (.agg [.int .i64 sr, .int .i64 sl, .int .i64 sh]) := g4
  by_cases heq : sr = (rep : Int)
  ·rw [if_pos heq]
   have heq2 : (sr = (rep : Int)) = True := eq_true heq
   have w1 : IntKind.i64.wrap (sh + 2) = sh + 2 := q0b (by omega)
   (focus (have hF := (aI (aI @e1 (aI @e2 @hlen)) (aI (aI @w0 @g5) (aI @heq2 @w1))); (repeat' (first | refine go1 (k:=?_) | with_reducible refine Ny.of ?_ ?_ | (refine Hyp.of ?_; intro hc; (try simp only [hc]); (try simp only [Bh] at hc)))); all_goals clear hF))
   exact Fin.tmp' rfl rfl
  ·rw [if_neg heq]
   unfold qg9
   by_cases hlt : rep < vec.length
   ·have g1 : vec[rep]? = some (vec[rep]) := List.getElem?_eq_getElem hlt
    have g2 := q0r g1
    have hb := hn _ (List.getElem_mem hlt)
    rw [g1]
    simp only
    generalize vec[rep] = x at g2 hb ⊢
    have hlt2 : (rep : Int) < (vec.length : Int) := by omega
    have w1 : IntKind.i64.wrap (x + 2) = x + 2 := q0b (by omega)
    (focus (have hF := (aI (aI (aI @e1 @e2) (aI @hlen @hlt2)) (aI (aI @g2 @w1) (aI @w0 (aI @g5 @heq)))); (repeat' (first | refine go1 (k:=?_) | with_reducible refine Ny.of ?_ ?_ | (refine Hyp.of ?_; intro hc; (try simp only [hc]); (try simp only [Bh] at hc)))); all_goals clear hF))
    exact Fin.tmp' rfl rfl
   ·rw [List.getElem?_eq_none (by omega)]
    have hlt2 : ¬ (rep : Int) < (vec.length : Int) := by omega
    (focus (have hF := (aI (aI @e1 (aI @e2 @hlen)) (aI (aI @hlt2 @w0) (aI @g5 @heq))); (repeat' (first | refine go1 (k:=?_) | with_reducible refine Ny.of ?_ ?_ | (refine Hyp.of ?_; intro hc; (try simp only [hc]); (try simp only [Bh] at hc)))); all_goals clear hF))
    exact Fin.tmp' rfl rfl
def Rs.bind {α β : Type} (r : Rs α) (f : α → Nat → Rs β) : Rs β :=
 match r with
 | .ok (x, a) => f x a
 | .error e => .error e
theorem Rs.bind_ok {α β : Type} (x : α) (a : Nat) (f : α → Nat → Rs β) : Rs.bind (.ok (x, a)) f = f x a := rfl
theorem Rs.bind_error {α β : Type} (e : Nat × Nat) (f : α → Nat → Rs β) : Rs.bind (.error e) f = .error e := rfl
def qg8 (b : Bs) : (k : Nat) → List Int → Nat → Rs (List Int)
 | 0, acc, p => .ok (acc, p)
 | k + 1, acc, p => (q91 1000000000 b p).bind fun n a => qg8 b k (acc ++ [(n : Int)]) a
def q2z (vec : List Int) (b : Bs) : (k : Nat) → Nat → List Sn → Nat → Rs (List Sn)
 | 0, _, acc, p => .ok (acc, p)
 | k + 1, rep, acc, p => (q91 16 b p).bind fun s a1 => if 16 ≤ rep + s then .error (8, a1) else
  (q91 1000000000 b a1).bind fun n a2 => (q91 1000000000 b a2).bind fun m a3 =>
   if 1000000000 < q1e vec (rep + s) acc + (n : Int) + (m : Int) then .error (8, a3) else
    q2z vec b k (rep + s) (acc ++ [(((rep + s : Nat) : Int), q1e vec (rep + s) acc + (n : Int), q1e vec (rep + s) acc + (n : Int) + (m : Int))]) a3
def q1f (b : Bs) (p : Nat) : Rs Pst :=
 (q91 16 b p).bind fun n a => (qg8 b n [] a).bind fun vec a => (q3n 3 b a).bind fun m a => (q2z vec b m 0 [] a).bind fun cl a => .ok (⟨vec, cl⟩, a)

section
section
variable {E : Env} {n : Nat} {T : q12} {M : Mem} {bs : Bs} {r : Rs AVal} {v : Value} {rs : List ResultVar}
theorem FnRd.all {xs : List AVal} {x : AVal} {a : Nat} (hr : r = .ok (x, a)) (h : q1n KRd E.TE ⟨T, M⟩ rs = some xs) (hs : q0i xs = true) (hx : x = q75 xs)
 (h1 : M 900000 = some (.cells (rdC bs a 0)) := by with_unfolding_all rfl) (h2 : M 1900000 = some (nt v) := by with_unfolding_all rfl) : Fin E n (FnRd E.TE rs bs r v) .done .ret ⟨T, M⟩ :=
 ⟨x, a, hr, ⟨xs, h, hs, xs, q1p xs, hx⟩, h1, h2⟩
end
def qmh (l : List Int) : Prop := ∀ x ∈ l, 0 ≤ x ∧ x ≤ 1000000000
def zcp (l : List Sn) : Prop := ∀ s ∈ l, 0 ≤ s.2.2 ∧ s.2.2 ≤ 1000000000
theorem q4c {each : Nat} {b : Bs} {p n a : Nat} (he : 0 < each) (h : q3n each b p = .ok (n, a)) : n * each ≤ b.length - a ∧ a ≤ b.length := by
 unfold q3n at h
 split at h
 ·cases h
 ·rename_i n' a' h0
  split at h
  ·cases h
  ·rename_i hle
   simp only [Except.ok.injEq, Prod.mk.injEq] at h
   obtain ⟨rfl, rfl⟩ := h
   obtain ⟨_, _, q3, _⟩ := q0z h0
   refine ⟨?_, q3⟩
   have : n' ≤ (b.length - a') / each := by omega
   exact Nat.le_trans (Nat.mul_le_mul_right _ this) (Nat.div_mul_le_self _ _)
theorem q55 {vec : List Int} {rep : Nat} {cl : List Sn} (hv : qmh vec) (hc : zcp cl) : 2 ≤ q1e vec rep cl ∧ q1e vec rep cl ≤ 1000000002 := by
 have low : 2 ≤ qg9 vec rep ∧ qg9 vec rep ≤ 1000000002 := by
  unfold qg9
  cases h : vec[rep]? with
  | none => simp
  | some x =>
   have := hv x (List.mem_of_getElem? h)
   simp only
   omega
 unfold q1e
 cases h : cl.getLast? with
 | none => exact low
 | some s =>
  simp only
  split
  ·have := hc s (List.mem_of_getLast? h)
   omega
  ·exact low
theorem qds (b : Bs) (p : Nat) (hb : b.length ≤ 900000000000) (hp : p ≤ b.length) : EvR (En Tryz.prog rfl).P 60 [] b p ((q1f b p).map q10) := by
 refine EvR.of_body it_k60 (by simp) (fun v a h => by obtain ⟨x, _, rfl⟩ := Rs.map_ok h; exact q0c x) fun v => Run.start ?_
 unfold t_k60
 (focus (have hF := @q07; (repeat' (first | refine go1 (k:=?_) | with_reducible refine Ny.of ?_ ?_ | (refine Hyp.of ?_; intro hc; (try simp only [hc]); (try simp only [Bh] at hc)))); all_goals clear hF))
 generalize hr : q1f b p = r
 unfold q1f at hr
 refine q78 [.int .i64 16] (he := q60 16 b p hb hp) (kok := ?_) (kerr := ?_)
 rotate_left
 ·rintro e a h s' h1 h2
  have h := Rs.map_error h
  rw [h] at hr
  exact KQ.pan (FnRd.pan (by rw [← hr]; rfl) h1 h2)
 rintro _ a0 h0
 obtain ⟨n, h, rfl⟩ := Rs.map_ok h0
 obtain ⟨q1, q2, q3, q4⟩ := q0z h
 rw [h, Rs.bind_ok] at hr
 (focus (have hF := (aI @q07 @q3x); (repeat' (first | refine go1 (k:=?_) | with_reducible refine Ny.of ?_ ?_ | (refine Hyp.of ?_; intro hc; (try simp only [hc]); (try simp only [Bh] at hc)))); all_goals clear hF))
 refine Run.wk (Wk.own_cells (k := 3) (cs' := [.own 1 [], .own 3 []]) rfl rfl ?_) ?_
 ·intro i x y hx hy
  match i with
  | 0 => simp at hx hy; subst hx; subst hy; exact .inr ⟨rfl, 1, rfl⟩
  | 1 => simp at hx hy; subst hx; subst hy; exact .inr ⟨rfl, 3, rfl⟩
  | i + 2 => simp at hx
 refine Run.wk (Wk.lift (k := 3) (d := 100) (off := 0) rfl rfl rfl) ?_
 refine Run.wk (Wk.lift (k := 3) (d := 101) (off := 1) rfl rfl rfl) ?_
 refine Run.while (σ := Nat × List Int × Nat) (fun z => ⟨tms [(0, .ptr 900000 0), (2, .ptr 2 0), (3, .ptr 3 0), (8, .int .i64 (n : Int)), (9, .int .i64 (z.1 : Int))], mms [(2, .cells [.nil, .nil]), (3, .cells [.os 100 z.1, .os 101 0]), (100, .arr z.1 1 (q03 z.2.1)), (101, .arr 0 3 (q0g [])), (900000, .cells (rdC b z.2.2 0)), (1900000, nt v)]⟩)
  (fun z => z.1 ≤ n ∧ z.1 = z.2.1.length ∧ z.2.2 ≤ b.length ∧ qmh z.2.1 ∧ ((qg8 b (n - z.1) z.2.1 z.2.2).bind fun vec a => (q3n 3 b a).bind fun m a => (q2z vec b m 0 [] a).bind fun cl a => .ok (⟨vec, cl⟩, a)) = r) (fun z => n - z.1) (0, [], a0) (have hW := @q07; q0t) ⟨by omega, rfl, q3, by simp [qmh], hr⟩ ?_
 rintro ⟨i, acc, a⟩ ⟨hi, hia, ha, hv, hr⟩
 simp only at hi hia ha hv hr
 unfold qp7
 by_cases hlt : i < n
 ·have hlt2 : (i : Int) < (n : Int) := by omega
  obtain ⟨k, hk⟩ : ∃ k, n - i = k + 1 := ⟨n - i - 1, by omega⟩
  rw [hk, qg8] at hr
  have e1 := q0d acc
  (focus (have hF := (aI @q07 @hlt2); (repeat' (first | refine go1 (k:=?_) | with_reducible refine Ny.of ?_ ?_ | (refine Hyp.of ?_; intro hc; (try simp only [hc]); (try simp only [Bh] at hc)))); all_goals clear hF))
  ((with_reducible apply toW); refine stW (fun j => false) (k:=?_))
  (focus (have hF := @q07; (repeat' (first | refine go1 (k:=?_) | with_reducible refine Ny.of ?_ ?_ | (refine Hyp.of ?_; intro hc; (try simp only [hc]); (try simp only [Bh] at hc)))); all_goals clear hF))
  refine stRdW [.int .i64 1000000000] (he := q60 1000000000 b a hb ha) (kok := ?_) (kerr := ?_)
  rotate_left
  ·rintro e a h s' h1 h2
   have h := Rs.map_error h
   rw [h] at hr
   exact KQ.pan (LoopW.pan (KQ.pan (FnRd.pan (by rw [← hr]; rfl) h1 h2)))
  rintro _ a1 h0
  obtain ⟨m, h, rfl⟩ := Rs.map_ok h0
  obtain ⟨r1, r2, r3, r4⟩ := q0z h
  rw [h, Rs.bind_ok] at hr
  have w1 := q0u (i := i) (by omega)
  (focus (have hF := (aI (aI @q07 @q3x) (aI @e1 @w1)); (repeat' (first | refine go1 (k:=?_) | with_reducible refine Ny.of ?_ ?_ | (refine Hyp.of ?_; intro hc; (try simp only [hc]); (try simp only [Bh] at hc)))); all_goals clear hF))
  (refine Fin.nextW ((i + 1, acc ++ [(m : Int)], a1)) ?_ (have hW := (aI @q07 @q2d); q0t); (try dsimp only))
  exact ⟨⟨hlt, show i + 1 = (acc ++ [(m : Int)]).length by simp [hia], r3, fun x hx => by
   rcases List.mem_append.1 hx with hx | hx
   ·exact hv x hx
   ·simp at hx; subst hx; omega, by rw [show n - (i + 1) = k by omega]; exact hr⟩, show n - (i + 1) < n - i by omega⟩
 ·have hin : i = n := by omega
  subst hin
  have hlt2 : ¬ (i : Int) < (i : Int) := by omega
  rw [Nat.sub_self, qg8, Rs.bind_ok] at hr
  (focus (have hF := (aI @q07 @hlt2); (repeat' (first | refine go1 (k:=?_) | with_reducible refine Ny.of ?_ ?_ | (refine Hyp.of ?_; intro hc; (try simp only [hc]); (try simp only [Bh] at hc)))); all_goals clear hF))
  refine q78 [.int .i64 3] (he := qfw 3 (by omega) b a hb ha) (kok := ?_) (kerr := ?_)
  rotate_left
  ·rintro e a h s' h1 h2
   have h := Rs.map_error h
   rw [h] at hr
   exact KQ.pan (FnRd.pan (by rw [← hr]; rfl) h1 h2)
  rintro _ a1 h0
  obtain ⟨m, h, rfl⟩ := Rs.map_ok h0
  obtain ⟨r1, r2⟩ := q4c (by omega) h
  rw [h, Rs.bind_ok] at hr
  clear h h0
  (focus (have hF := (aI @q07 @q3x); (repeat' (first | refine go1 (k:=?_) | with_reducible refine Ny.of ?_ ?_ | (refine Hyp.of ?_; intro hc; (try simp only [hc]); (try simp only [Bh] at hc)))); all_goals clear hF))
  refine Run.while (σ := Nat × Nat × List Sn × Nat) (fun z => ⟨tms [(0, .ptr 900000 0), (2, .ptr 2 0), (3, .ptr 3 0), (4, .int .i64 (z.2.1 : Int)), (20, .int .i64 (m : Int)), (21, .int .i64 (z.1 : Int))], mms [(2, .cells [.nil, .nil]), (3, .cells [.os 100 i, .os 101 z.1]), (100, .arr i 1 (q03 acc)), (101, .arr z.1 3 (q0g z.2.2.1)), (900000, .cells (rdC b z.2.2.2 0)), (1900000, nt v)]⟩)
   (fun z => z.1 ≤ m ∧ z.1 = z.2.2.1.length ∧ z.2.2.2 ≤ b.length ∧ zcp z.2.2.1 ∧ z.2.1 < 16 ∧ ((q2z acc b (m - z.1) z.2.1 z.2.2.1 z.2.2.2).bind fun cl a => .ok (⟨acc, cl⟩, a)) = r) (fun z => m - z.1) (0, 0, [], a1) (have hW := @q07; q0t) ⟨by omega, rfl, r2, by simp [zcp], show (0 : Nat) < 16 by omega, hr⟩ ?_
  rintro ⟨j, rep, cl, a⟩ ⟨hj, hjl, ha, hc, hrep, hr⟩
  simp only at hj hjl ha hc hrep hr
  unfold qp6
  by_cases hlt : j < m
  ·have hlt2 : (j : Int) < (m : Int) := by omega
   obtain ⟨k, hk⟩ : ∃ k, m - j = k + 1 := ⟨m - j - 1, by omega⟩
   rw [hk, q2z] at hr
   have e1 := q0d acc
   have e2 := q14 cl
   (focus (have hF := (aI @q07 @hlt2); (repeat' (first | refine go1 (k:=?_) | with_reducible refine Ny.of ?_ ?_ | (refine Hyp.of ?_; intro hc; (try simp only [hc]); (try simp only [Bh] at hc)))); all_goals clear hF))
   refine q78 [.int .i64 16] (he := q60 16 b a hb ha) (kok := ?_) (kerr := ?_)
   rotate_left
   ·rintro e a h s' h1 h2
    have h := Rs.map_error h
    rw [h] at hr
    exact KQ.pan (LoopW.pan (KQ.pan (FnRd.pan (by rw [← hr]; rfl) h1 h2)))
   rintro _ a2 h0
   obtain ⟨s, h, rfl⟩ := Rs.map_ok h0
   obtain ⟨s1, s2, s3, s4⟩ := q0z h
   rw [h, Rs.bind_ok] at hr
   clear h h0
   have w1 : IntKind.i64.wrap ((rep : Int) + (s : Int)) = ((rep + s : Nat) : Int) := q4l (by omega)
   by_cases h16 : 16 ≤ rep + s
   ·rw [if_pos h16] at hr
    have h16' : (16 : Int) ≤ ((rep + s : Nat) : Int) := by omega
    (focus (have hF := (aI (aI @q07 @q3x) (aI @w1 @h16')); (repeat' (first | refine go1 (k:=?_) | with_reducible refine Ny.of ?_ ?_ | (refine Hyp.of ?_; intro hc; (try simp only [hc]); (try simp only [Bh] at hc)))); all_goals clear hF))
    refine q78 [.int .i64 8] (he := q9e 8 (by decide) b a2) (kok := ?_) (kerr := ?_)
    ·rintro _ _ h; cases h
    rintro _ _ h s' h1 h2
    cases h
    exact KQ.pan (LoopW.pan (KQ.pan (FnRd.pan (by rw [← hr]; rfl) h1 h2)))
   rw [if_neg h16] at hr
   have h16' : ¬ (16 : Int) ≤ ((rep + s : Nat) : Int) := by omega
   have hL := q55 (rep := rep + s) hv hc
   (focus (have hF := (aI (aI @q07 @q3x) (aI @w1 @h16')); (repeat' (first | refine go1 (k:=?_) | with_reducible refine Ny.of ?_ ?_ | (refine Hyp.of ?_; intro hc; (try simp only [hc]); (try simp only [Bh] at hc)))); all_goals clear hF))
   refine q73 (fun j => j == 100 || j == 101) (l := [.sl 1 (q03 acc), .int .i64 ((rep + s : Nat) : Int), .sl 3 (q0g cl)]) rfl (by simp [evs, ev, fz, fzc, upd, tms, mms]) (by simp [q0i, AVal.stb, q01, q02]) (ev_k93 acc (rep + s) cl (by omega) (by omega) (by omega) (fun x hx => by have := hv x hx; omega) (fun x hx => by have := hc x hx; omega)) rfl rfl ?_
   generalize q1e acc (rep + s) cl = L at hr hL ⊢
   (focus (have hF := @q07; (repeat' (first | refine go1 (k:=?_) | with_reducible refine Ny.of ?_ ?_ | (refine Hyp.of ?_; intro hc; (try simp only [hc]); (try simp only [Bh] at hc)))); all_goals clear hF))
   refine q78 [.int .i64 1000000000] (he := q60 1000000000 b a2 hb s3) (kok := ?_) (kerr := ?_)
   rotate_left
   ·rintro e a h s' h1 h2
    have h := Rs.map_error h
    rw [h] at hr
    exact KQ.pan (LoopW.pan (KQ.pan (FnRd.pan (by rw [← hr]; rfl) h1 h2)))
   rintro _ a3 h0
   obtain ⟨x, h, rfl⟩ := Rs.map_ok h0
   obtain ⟨x1, x2, x3, x4⟩ := q0z h
   rw [h, Rs.bind_ok] at hr
   clear h h0
   have w2 : IntKind.i64.wrap (L + (x : Int)) = L + (x : Int) := q0b (by omega)
   (focus (have hF := (aI @q07 (aI @q3x @w2)); (repeat' (first | refine go1 (k:=?_) | with_reducible refine Ny.of ?_ ?_ | (refine Hyp.of ?_; intro hc; (try simp only [hc]); (try simp only [Bh] at hc)))); all_goals clear hF))
   refine q78 [.int .i64 1000000000] (he := q60 1000000000 b a3 hb x3) (kok := ?_) (kerr := ?_)
   rotate_left
   ·rintro e a h s' h1 h2
    have h := Rs.map_error h
    rw [h] at hr
    exact KQ.pan (LoopW.pan (KQ.pan (FnRd.pan (by rw [← hr]; rfl) h1 h2)))
   rintro _ a4 h0
   obtain ⟨y, h, rfl⟩ := Rs.map_ok h0
   obtain ⟨y1, y2, y3, y4⟩ := q0z h
   rw [h, Rs.bind_ok] at hr
   clear h h0
   have w3 : IntKind.i64.wrap (L + (x : Int) + (y : Int)) = L + (x : Int) + (y : Int) := q0b (by omega)
   by_cases hbig : 1000000000 < L + (x : Int) + (y : Int)
   ·rw [if_pos hbig] at hr
    (focus (have hF := (aI (aI @q07 @q3x) (aI @w2 (aI @w3 @hbig))); (repeat' (first | refine go1 (k:=?_) | with_reducible refine Ny.of ?_ ?_ | (refine Hyp.of ?_; intro hc; (try simp only [hc]); (try simp only [Bh] at hc)))); all_goals clear hF))
    refine q78 [.int .i64 8] (he := q9e 8 (by decide) b a4) (kok := ?_) (kerr := ?_)
    ·rintro _ _ h; cases h
    rintro _ _ h s' h1 h2
    cases h
    exact KQ.pan (LoopW.pan (KQ.pan (FnRd.pan (by rw [← hr]; rfl) h1 h2)))
   rw [if_neg hbig] at hr
   have w4 := q0u (i := j) (by omega)
   (focus (have hF := (aI (aI @q07 (aI @q3x @w2)) (aI (aI @w3 @hbig) (aI @e2 @w4))); (repeat' (first | refine go1 (k:=?_) | with_reducible refine Ny.of ?_ ?_ | (refine Hyp.of ?_; intro hc; (try simp only [hc]); (try simp only [Bh] at hc)))); all_goals clear hF))
   (refine Fin.nextW ((j + 1, rep + s, cl ++ [(((rep + s : Nat) : Int), L + (x : Int), L + (x : Int) + (y : Int))], a4)) ?_ (have hW := (aI @q07 @q1i); q0t); (try dsimp only))
   exact ⟨⟨hlt, show j + 1 = (cl ++ [(((rep + s : Nat) : Int), L + (x : Int), L + (x : Int) + (y : Int))]).length by simp [hjl], y3, fun q hq => by
    rcases List.mem_append.1 hq with hq | hq
    ·exact hc q hq
    ·simp at hq; subst hq; simp only; omega, show rep + s < 16 by omega, by rw [show m - (j + 1) = k by omega]; exact hr⟩, show m - (j + 1) < m - j by omega⟩
  ·have hjm : j = m := by omega
   subst hjm
   have hlt2 : ¬ (j : Int) < (j : Int) := by omega
   rw [Nat.sub_self, q2z, Rs.bind_ok] at hr
   subst hr
   (focus (have hF := (aI @q07 @hlt2); (repeat' (first | refine go1 (k:=?_) | with_reducible refine Ny.of ?_ ?_ | (refine Hyp.of ?_; intro hc; (try simp only [hc]); (try simp only [Bh] at hc)))); all_goals clear hF))
   refine FnRd.all (xs := [q10 ⟨acc, cl⟩]) rfl ?_ (by simp [q0i, q0c]) rfl
   simp [q1n, q3a, qcs, zem, TD.isAgg, KRd, fzc, upd, tms, mms, q10]
end
theorem qhk : ∀ {t t' : List Int}, t.Pairwise (fun x y => x < y) → t'.Pairwise (fun x y => x < y) → (∀ m, cnt t m % 2 = 1 ↔ cnt t' m % 2 = 1) → t = t'
 | [], [], _, _, _ => rfl
 | [], y :: t', _, h2, h => by
  have := (h y).2
  rw [List.pairwise_cons] at h2
  rw [q1s, q34 fun x hx => h2.1 x hx, q5p] at this
  simp at this
 | x :: t, [], h1, _, h => by
  have := (h x).1
  rw [List.pairwise_cons] at h1
  rw [q1s, q34 fun y hy => h1.1 y hy, q5p] at this
  simp at this
 | x :: t, y :: t', h1, h2, h => by
  rw [List.pairwise_cons] at h1 h2
  have hxy : x = y := by
   rcases Int.lt_trichotomy x y with hl | he | hl
   ·have := (h x).1
    rw [q1s, q34 fun z hz => h1.1 z hz, q1s, q34 (l := t') fun z hz => by have := h2.1 z hz; omega, if_pos (Int.le_refl _), if_neg (by omega)] at this
    exact absurd (this rfl) (by decide)
   ·exact he
   ·have := (h y).2
    rw [q1s y, q34 fun z hz => h2.1 z hz, q1s, q34 (l := t) fun z hz => by have := h1.1 z hz; omega, if_pos (Int.le_refl _), if_neg (by omega)] at this
    exact absurd (this rfl) (by decide)
  subst hxy
  rw [qhk h1.2 h2.2 fun m => ?_]
  have := h m
  rw [q1s, q1s] at this
  split at this
  ·omega
  ·omega
theorem Turns.uniq {q : Int → Prop} {t t' : List Int} (h : Turns q t) (h' : Turns q t') : t = t' := qhk h.rise h'.rise fun m => by rw [← h.mem, ← h'.mem]
def q2w (c : List Rn) : List Int := c.flatMap fun r => [r.1, r.2 + 1]
theorem q48 (x : Rn) (c : List Rn) : q2w (x :: c) = x.1 :: (x.2 + 1) :: q2w c := rfl
theorem qgk {x : Rn} {c : List Rn} (h : Can (x :: c)) : ∀ y ∈ q2w c, x.2 + 1 < y := by
 intro y hy
 simp only [q2w, List.mem_flatMap, List.mem_cons, List.not_mem_nil, or_false] at hy
 obtain ⟨r, hr, hy⟩ := hy
 have h1 := (Can.cons_iff.1 h).2.1 r hr
 have h2 := h.2 r (by simp [hr])
 unfold qmx at h1
 unfold okR at h2
 omega
theorem qgj : ∀ {c : List Rn}, Can c → Turns (inR c) (q2w c)
 | [], _ => ⟨.nil, rfl, fun m => by simp [q2w, q5p, q4v]⟩
 | x :: c, h => by
  have ih := qgj h.tail
  have ha := qgk h
  have hx := (Can.cons_iff.1 h).1
  unfold okR at hx
  refine ⟨?_, ?_, fun m => ?_⟩
  ·rw [q48, List.pairwise_cons, List.pairwise_cons]
   refine ⟨fun y hy => ?_, fun y hy => ha y hy, ih.rise⟩
   rcases List.mem_cons.1 hy with rfl | hy
   ·omega
   ·have := ha y hy; omega
  ·rw [q48]
   have := ih.even
   simp only [List.length_cons]
   omega
  ·rw [q48, q1s, q1s, q1c, ih.mem]
   by_cases h1 : x.2 + 1 ≤ m
   ·rw [if_pos h1, if_pos (by omega)]
    constructor
    ·rintro (h | h)
     ·omega
     ·omega
    ·intro h; exact .inr (by omega)
   ·rw [if_neg h1, q34 (l := q2w c) fun y hy => by have := ha y hy; omega]
    by_cases h2 : x.1 ≤ m
    ·rw [if_pos h2]
     exact ⟨fun _ => rfl, fun _ => .inl (by omega)⟩
    ·rw [if_neg h2]
     constructor
     ·rintro (h | h)
      ·omega
      ·omega
     ·intro h; omega
theorem qda (c : List Rn) : (q2w c).length = 2 * c.length := by
 induction c with
 | nil => rfl
 | cons x c ih => rw [q48]; simp only [List.length_cons, ih]; omega
def q1a (l : List Rn) : List Int := q2w (q11 l)
theorem z32 {l : List Rn} {t : List Int} (h : Turns (inR (q0s l)) t) : t = q1a l :=
 h.uniq ((qgj (q2k l)).iff fun m => by rw [q8e, z0u])

def qyi : List SOp := [zO 4 (.assign (.const (.slice none 0 0)))]
instance : Live qyi := ⟨[0,1]⟩
def qyh : List SOp := [zO 5 (.assign (.const (.slice none 0 0))),zO 6 (.assign (.const (.slice none 0 0)))]
instance : Live qyh := ⟨[0,1]⟩
def qyg : List SOp := [zO 7 (.assign (.const (.int .i64 0)))]
instance : Live qyg := ⟨[0,1,5,6]⟩
def qyf : List SOp := [zM 14 7,zM 15 0,zO 16 (.call ⟨.builtin .len,#[.tmp 15],#[22]⟩),zO 17 (.binOp .lss 3 (.tmp 14) (.tmp 16) 3)]
instance : Live qyf := ⟨[0,1,5,6,7]⟩
def qye : List SOp := [zM 20 0,zM 21 7,zI 22 22 20 21,zL 23 3 22,zO 24 (.call ⟨.builtin .max,#[.tmp 23,.const (.int .i64 1)],#[3,3]⟩),zM 25 1,zM 26 7,zI 27 22 25 26,zL 28 3 27,zO 29 (.call ⟨.builtin .min,#[.tmp 28,.const (.int .i64 1000000000)],#[3,3]⟩),zG 8 24,zG 9 29]
instance : Live qye := ⟨[0,1,5,6,7]⟩
def qyd : List SOp := [zM 30 8,zM 31 9,zO 32 (.binOp .leq 3 (.tmp 30) (.tmp 31) 3)]
instance : Live qyd := ⟨[0,1,5,6,7,8,9]⟩
def qyc : List SOp := [zM 33 5,zM 34 8,zO 35 (.buildSlice 22 1 #[(0,.tmp 34)]),zO 36 (.call ⟨.builtin .append,#[.tmp 33,.tmp 35],#[22,22]⟩),zG 5 36]
instance : Live qyc := ⟨[0,1,5,6,7,8,9]⟩
def qyb : List SOp := [zM 37 6,zM 38 9,zO 39 (.binOp .add 3 (.tmp 38) (.const (.int .i64 1)) 3),zO 40 (.buildSlice 22 1 #[(0,.tmp 39)]),zO 41 (.call ⟨.builtin .append,#[.tmp 37,.tmp 40],#[22,22]⟩),zG 6 41]
instance : Live qyb := ⟨[0,1,5,6,7,9]⟩
def qya : List SOp := [zM 18 7,zO 19 (.binOp .add 3 (.tmp 18) (.const (.int .i64 1)) 3),zG 7 19]
instance : Live qya := ⟨[0,1,5,6,7]⟩
def qk0 : List SOp := [zM 42 5,zO 43 (.call ⟨.value (.func 137),#[.tmp 42],#[22]⟩),zG 5 43]
instance : Live qk0 := ⟨[5,6]⟩
def qjz : List SOp := [zM 44 6,zO 45 (.call ⟨.value (.func 137),#[.tmp 44],#[22]⟩),zG 6 45]
instance : Live qjz := ⟨[5,6]⟩
def qjy : List SOp := [zO 10 (.assign (.const (.slice none 0 0)))]
instance : Live qjy := ⟨[5,6]⟩
def qjx : List SOp := [zO 11 (.assign (.const (.int .i64 0))),zO 12 (.assign (.const (.int .i64 0)))]
instance : Live qjx := ⟨[5,6,10]⟩
def qjw : List SOp := [zO 13 (.assign (.const (.int .i64 0)))]
instance : Live qjw := ⟨[5,6,10,11,12]⟩
def qjv : List SOp := [zM 46 13,zM 47 5,zO 48 (.call ⟨.builtin .len,#[.tmp 47],#[22]⟩),zO 49 (.binOp .lss 3 (.tmp 46) (.tmp 48) 3),zM 50 49,⟨some 51,.move (.tmp 12),some ((some 50),false)⟩,⟨some 52,.move (.tmp 6),some ((some 50),false)⟩,⟨some 53,.call ⟨.builtin .len,#[.tmp 52],#[22]⟩,some ((some 50),false)⟩,⟨some 54,.binOp .lss 3 (.tmp 51) (.tmp 53) 3,some ((some 50),false)⟩,zO 55 (.pick (.tmp 50) (.const (.bool true)) (.tmp 54))]
instance : Live qjv := ⟨[5,6,10,11,12,13]⟩
def qju : List SOp := [zM 56 13,zM 57 5,zO 58 (.call ⟨.builtin .len,#[.tmp 57],#[22]⟩),zO 59 (.binOp .lss 3 (.tmp 56) (.tmp 58) 3),zM 60 59,⟨some 61,.move (.tmp 5),some ((some 60),true)⟩,⟨some 62,.move (.tmp 13),some ((some 60),true)⟩,⟨some 63,.indexAddr 22 (.tmp 61) (.tmp 62),some ((some 60),true)⟩,⟨some 64,.load 3 (.tmp 63),some ((some 60),true)⟩,⟨some 65,.move (.tmp 6),some ((some 60),true)⟩,⟨some 66,.move (.tmp 12),some ((some 60),true)⟩,⟨some 67,.indexAddr 22 (.tmp 65) (.tmp 66),some ((some 60),true)⟩,⟨some 68,.load 3 (.tmp 67),some ((some 60),true)⟩,⟨some 69,.binOp .leq 3 (.tmp 64) (.tmp 68) 3,some ((some 60),true)⟩,zO 70 (.pick (.tmp 60) (.tmp 69) (.const (.bool false)))]
instance : Live qju := ⟨[5,6,10,11,12,13]⟩
def qjt : List SOp := [zM 71 11,zO 72 (.binOp .eql 3 (.tmp 71) (.const (.int .i64 0)) 3)]
instance : Live qjt := ⟨[5,6,10,11,12,13]⟩
def qjs : List SOp := [zM 73 10,zM 74 5,zM 75 13,zI 76 22 74 75,zL 77 3 76,zO 78 (.buildSlice 22 1 #[(0,.tmp 77)]),zO 79 (.call ⟨.builtin .append,#[.tmp 73,.tmp 78],#[22,22]⟩),zG 10 79]
instance : Live qjs := ⟨[5,6,10,11,12,13]⟩
def qjr : List SOp := [zM 80 11,zO 81 (.binOp .add 3 (.tmp 80) (.const (.int .i64 1)) 3),zG 11 81]
instance : Live qjr := ⟨[5,6,10,11,12,13]⟩
def qjq : List SOp := [zM 82 13,zO 83 (.binOp .add 3 (.tmp 82) (.const (.int .i64 1)) 3),zG 13 83]
instance : Live qjq := ⟨[5,6,10,11,12,13]⟩
def qjp : List SOp := [zM 84 11,zO 85 (.binOp .sub 3 (.tmp 84) (.const (.int .i64 1)) 3),zG 11 85]
instance : Live qjp := ⟨[5,6,10,11,12,13]⟩
def qjo : List SOp := [zM 86 11,zO 87 (.binOp .eql 3 (.tmp 86) (.const (.int .i64 0)) 3)]
instance : Live qjo := ⟨[5,6,10,11,12,13]⟩
def qjn : List SOp := [zM 88 10,zM 89 6,zM 90 12,zI 91 22 89 90,zL 92 3 91,zO 93 (.buildSlice 22 1 #[(0,.tmp 92)]),zO 94 (.call ⟨.builtin .append,#[.tmp 88,.tmp 93],#[22,22]⟩),zG 10 94]
instance : Live qjn := ⟨[5,6,10,11,12,13]⟩
def qjm : List SOp := [zM 95 12,zO 96 (.binOp .add 3 (.tmp 95) (.const (.int .i64 1)) 3),zG 12 96]
instance : Live qjm := ⟨[5,6,10,11,12,13]⟩
def qjl : List SOp := [zM 97 10,zG 4 97]
instance : Live qjl := ⟨[10]⟩
def qh3 : SC :=
 (.seq (.seq (.ops false qyf) (.cond (.tmp 17) .skip (.exit 0))) (.seq (.block 1 (.seq (.ops true qye) (.seq (.ops false qyd) (.cond (.tmp 32) (.seq (.ops false qyc) (.ops false qyb)) .skip)))) (.ops false qya)))
def qh2 : SC :=
 (.seq (.seq (.ops false qjv) (.cond (.tmp 55) .skip (.exit 2))) (.block 3 (.seq (.ops true qju) (.cond (.tmp 70) (.seq (.seq (.ops false qjt) (.cond (.tmp 72) (.ops false qjs) .skip)) (.seq (.ops false qjr) (.ops false qjq))) (.seq (.ops false qjp) (.seq (.seq (.ops false qjo) (.cond (.tmp 87) (.ops false qjn) .skip)) (.ops false qjm)))))))
def t_k120 : SC :=
 (.seq (.ops false qyi) (.seq (.ops false qyh) (.seq (.seq (.ops false qyg) (.block 0 (.loop qh3))) (.seq (.ops false qk0) (.seq (.ops false qjz) (.seq (.ops false qjy) (.seq (.ops false qjx) (.seq (.seq (.ops false qjw) (.block 2 (.loop qh2))) (.seq (.ops false qjl) .ret)))))))))
theorem it_k120 : FnIs Tryz.prog 120 98 [.tmp 4] t_k120 := ⟨Tryz.f120, _, Tryz.func120, rfl, rfl, rfl, rfl, by kernel_rfl⟩

def los (l : List Rn) : List Int := l.map fun r => r.1
def his (l : List Rn) : List Int := l.map fun r => r.2
def qmd (l : List Rn) : List Int := l.map fun r => r.2 + 1
theorem los_at {l : List Rn} {i : Nat} {r : Rn} (h : l[i]? = some r) : (q03 (los l))[i]? = some (.int .i64 r.1) := by simp [q03, los, h, encI]
theorem his_at {l : List Rn} {i : Nat} {r : Rn} (h : l[i]? = some r) : (q03 (his l))[i]? = some (.int .i64 r.2) := by simp [q03, his, h, encI]
theorem qe0 {l : List Rn} {i : Nat} {r : Rn} (h : l[i]? = some r) : q0s (l.take (i + 1)) = q0s (l.take i) ++ q0s [r] := by
 rw [List.take_add_one, h, q4q]
 rfl
theorem zec {r : Rn} (h : max r.1 1 ≤ min r.2 1000000000) : q0s [r] = [(max r.1 1, min r.2 1000000000)] := by rw [q6y, if_pos (show (q4x r).1 ≤ (q4x r).2 from h)]; rfl
theorem z2d {r : Rn} (h : ¬ max r.1 1 ≤ min r.2 1000000000) : q0s [r] = [] := by rw [q6y, if_neg (show ¬ (q4x r).1 ≤ (q4x r).2 from h)]; rfl
theorem ev_k120 (l : List Rn) (hl : l.length ≤ 900000000) : Ev (En Tryz.prog rfl).P 120 [.sl 1 (q03 (los l)), .sl 1 (q03 (his l))] (.ret (.sl 1 (q03 (q1a l)))) := by
 refine Ev.of_body it_k120 (by simp) (Run.start ?_)
 unfold t_k120
 have e0 : (q03 (los l)).length = l.length := by simp [q03, los]
 have e1 : (q03 (his l)).length = l.length := by simp [q03, his]
 (focus (have hF := @e0; (repeat' (first | refine go1 (k:=?_) | with_reducible refine Ny.of ?_ ?_ | (refine Hyp.of ?_; intro hc; (try simp only [hc]); (try simp only [Bh] at hc)))); all_goals clear hF))
 refine Run.wk (Wk.trans (Wk.own_nil 5 36 1 rfl rfl) (Wk.own_nil 6 41 1 rfl rfl)) ?_
 refine Run.while (σ := Nat) (fun i => ⟨tms [(0, .sl 1 (q03 (los l))), (1, .sl 1 (q03 (his l))), (5, .os 36 (q0s (l.take i)).length), (6, .os 41 (q0s (l.take i)).length), (7, .int .i64 i)], mms [(36, .arr (q0s (l.take i)).length 1 (q03 (los (q0s (l.take i))))), (41, .arr (q0s (l.take i)).length 1 (q03 (qmd (q0s (l.take i)))))]⟩)
  (fun i => i ≤ l.length) (fun i => l.length - i) 0 (have hW := True.intro; q0t) (Nat.zero_le _) ?_
 intro i hi
 have hcl := q8t (l.take i)
 have hcl2 : (l.take i).length ≤ l.length := by rw [List.length_take]; omega
 have e2 : (q03 (los (q0s (l.take i)))).length = (q0s (l.take i)).length := by simp [q03, los]
 have e3 : (q03 (qmd (q0s (l.take i)))).length = (q0s (l.take i)).length := by simp [q03, qmd]
 unfold qh3
 by_cases hlt : i < l.length
 ·obtain ⟨r, hr⟩ : ∃ r, l[i]? = some r := ⟨l[i], by simp [hlt]⟩
  have e4 := los_at hr
  have e5 := his_at hr
  (focus (have hF := (aI (aI @e0 (aI @e1 @e2)) (aI (aI @e3 @e4) (aI @e5 @q2d))); (repeat' (first | refine go1 (k:=?_) | with_reducible refine Ny.of ?_ ?_ | (refine Hyp.of ?_; intro hc; (try simp only [hc]); (try simp only [Bh] at hc)))); all_goals clear hF))
  ·have hk := (qe0 hr).trans (by rw [zec hc])
   (refine Fin.nextW (i + 1) ?_ (Wk.toL _ _ (by repeat (first | exact trivial | refine ⟨rfl, ?_⟩ | (refine ⟨by simp [↓q7g, ↓q49, ↓q6b, ↓NoM', hk, los, qmd], ?_⟩))) (by repeat (first | exact trivial | refine ⟨rfl, ?_⟩ | (refine ⟨by simp [↓q7g, ↓q49, ↓q6b, ↓NoM', hk, los, qmd], ?_⟩))) (by repeat (first | exact trivial | (refine ⟨?_, ?_⟩; focus (first | rfl | (apply q27; simp only [q0i, AVal.stb, q01, q09, q17, q02, q0c, q0k, q0e, hk, los, qmd, Bool.and_true, Bool.true_and, Bool.and_self]; done))))) (by repeat (first | exact trivial | (refine ⟨?_, ?_⟩; focus (first | rfl | (apply arr_no; simp only [q0i, AVal.stb, q01, q09, q17, q02, q0c, q0k, q0e, hk, los, qmd, Bool.and_true, Bool.true_and, Bool.and_self]; done) | exact q4w _ _ | exact z0p _ _ | exact z0s _ _ | (apply z0x; simp only [q0i, AVal.stb, q01, q09, q17, q02, q0c, q0k, q0e, hk, los, qmd, Bool.and_true, Bool.true_and, Bool.and_self]; done) | (apply z0w; simp only [qof, z0y, List.all_cons, List.all_nil, q0i, AVal.stb, q01, q09, q17, q02, q0c, q0k, q0e, hk, los, qmd, Bool.and_true, Bool.true_and, Bool.and_self]; done) | (simp [ABlk.no, AVal.noC, AVal.no, AVal.stb, q0i, q01, q09, q17, q02, q0c, q0k, q0e, hk, los, qmd]; done)))))); (try dsimp only))
   omega
  ·have hk := (qe0 hr).trans (by rw [z2d hc, List.append_nil])
   (refine Fin.nextW (i + 1) ?_ (have hW := @hk; q0t); (try dsimp only))
   omega
 ·have hil : i = l.length := by omega
  subst hil
  rw [List.take_length] at *
  (focus (have hF := (aI (aI @e0 @e1) (aI @e2 @e3)); (repeat' (first | refine go1 (k:=?_) | with_reducible refine Ny.of ?_ ?_ | (refine Hyp.of ?_; intro hc; (try simp only [hc]); (try simp only [Bh] at hc)))); all_goals clear hF))
  have hin := q81 (los (q0s l))
  have hout := q81 (qmd (q0s l))
  have hs : Sweep (q0s l) (q61 (los (q0s l))) (q61 (qmd (q0s l))) := Sweep.of l
  have hl1 : (los (q0s l)).length = (q0s l).length := by simp [los]
  have hl2 : (qmd (q0s l)).length = (q0s l).length := by simp [qmd]
  refine z3c (fun j => j == 36) [.sl 1 (q03 (los (q0s l)))] (he := zdt _ (by omega)) (k:=?_)
  (focus (have hF := (aI (aI @e0 @e1) (aI @e2 @e3)); (repeat' (first | refine go1 (k:=?_) | with_reducible refine Ny.of ?_ ?_ | (refine Hyp.of ?_; intro hc; (try simp only [hc]); (try simp only [Bh] at hc)))); all_goals clear hF))
  refine z3c (fun j => j == 41) [.sl 1 (q03 (qmd (q0s l)))] (he := zdt _ (by omega)) (k:=?_)
  (focus (have hF := (aI (aI @e0 @e1) (aI @e2 @e3)); (repeat' (first | refine go1 (k:=?_) | with_reducible refine Ny.of ?_ ?_ | (refine Hyp.of ?_; intro hc; (try simp only [hc]); (try simp only [Bh] at hc)))); all_goals clear hF))
  generalize q61 (los (q0s l)) = ins at *
  generalize q61 (qmd (q0s l)) = outs at *
  refine Run.wk (Wk.own_nil 10 79 1 rfl rfl) ?_
  refine Run.while (σ := Sw) (fun s => ⟨tms [(5, .sl 1 (q03 ins)), (6, .sl 1 (q03 outs)), (10, .os 79 s.t.length), (11, .int .i64 s.deep), (12, .int .i64 s.j), (13, .int .i64 s.i)], mms [(79, .arr s.t.length 1 (q03 s.t))]⟩)
   (fun s => SwI ins outs s ∧ s.j ≤ outs.length ∧ s.t.length ≤ s.i + s.j) (fun s => (ins.length - s.i) + (outs.length - s.j)) ⟨[], 0, 0, 0⟩ (have hW := True.intro; q0t) ⟨SwI.start, Nat.zero_le _, Nat.zero_le _⟩ ?_
  rintro ⟨t, deep, i, j⟩ ⟨hI, hj, ht⟩
  have hd := hI.d
  have hij := hI.ij
  have hii := hI.i
  have e4 := q0d ins
  have e5 := q0d outs
  have e6 := q0d t
  dsimp only at hd hij hii hj ht ⊢
  have hlen := hs.len
  have stepIn := fun h => hI.stepIn hs.len (Srt.of hs.si) (Srt.of hs.so) hs.lt h
  have stepOut := fun h h' => hI.stepOut hs.len (Srt.of hs.si) (Srt.of hs.so) hs.lt h h'
  unfold swIn at stepIn
  unfold swOut at stepOut
  unfold qe9 at stepIn stepOut
  dsimp only at stepIn stepOut
  unfold qh2
  (focus (have hF := (aI (aI @e4 @e5) (aI @e6 (aI @z0r @q2d))); (repeat' (first | refine go1 (k:=?_) | with_reducible refine Ny.of ?_ ?_ | (refine Hyp.of ?_; intro hc; (try simp only [hc]); (try simp only [Bh] at hc)))); all_goals clear hF))
  ·have q := stepIn ⟨by omega, by assumption⟩
   rw [if_pos hc] at q
   (refine Fin.nextW (⟨t ++ [ins.getD i 0], deep + 1, i + 1, j⟩) ?_ (have hW := True.intro; q0t); (try dsimp only))
   exact ⟨⟨q, hj, (by first | omega | (simp only [List.length_append, List.length_cons, List.length_nil]; omega))⟩, (by first | omega | (simp only [List.length_append, List.length_cons, List.length_nil]; omega))⟩
  ·have q := stepIn ⟨by omega, by assumption⟩
   rw [if_neg hc] at q
   (refine Fin.nextW (⟨t, deep + 1, i + 1, j⟩) ?_ (have hW := True.intro; q0t); (try dsimp only))
   exact ⟨⟨q, hj, (by first | omega | (simp only [List.length_append, List.length_cons, List.length_nil]; omega))⟩, (by first | omega | (simp only [List.length_append, List.length_cons, List.length_nil]; omega))⟩
  ·have q := (stepOut (by omega) (by omega)).1
   rw [if_pos hc] at q
   (refine Fin.nextW (⟨t ++ [outs.getD j 0], deep - 1, i, j + 1⟩) ?_ (have hW := True.intro; q0t); (try dsimp only))
   exact ⟨⟨q, (by first | omega | (simp only [List.length_append, List.length_cons, List.length_nil]; omega)), (by first | omega | (simp only [List.length_append, List.length_cons, List.length_nil]; omega))⟩, (by first | omega | (simp only [List.length_append, List.length_cons, List.length_nil]; omega))⟩
  ·have q := (stepOut (by omega) (by omega)).1
   rw [if_neg hc] at q
   (refine Fin.nextW (⟨t, deep - 1, i, j + 1⟩) ?_ (have hW := True.intro; q0t); (try dsimp only))
   exact ⟨⟨q, (by first | omega | (simp only [List.length_append, List.length_cons, List.length_nil]; omega)), (by first | omega | (simp only [List.length_append, List.length_cons, List.length_nil]; omega))⟩, (by first | omega | (simp only [List.length_append, List.length_cons, List.length_nil]; omega))⟩
  ·have q := (stepOut (by omega) (by omega)).1
   rw [if_pos hc] at q
   (refine Fin.nextW (⟨t ++ [outs.getD j 0], deep - 1, i, j + 1⟩) ?_ (have hW := True.intro; q0t); (try dsimp only))
   exact ⟨⟨q, (by first | omega | (simp only [List.length_append, List.length_cons, List.length_nil]; omega)), (by first | omega | (simp only [List.length_append, List.length_cons, List.length_nil]; omega))⟩, (by first | omega | (simp only [List.length_append, List.length_cons, List.length_nil]; omega))⟩
  ·have q := (stepOut (by omega) (by omega)).1
   rw [if_neg hc] at q
   (refine Fin.nextW (⟨t, deep - 1, i, j + 1⟩) ?_ (have hW := True.intro; q0t); (try dsimp only))
   exact ⟨⟨q, (by first | omega | (simp only [List.length_append, List.length_cons, List.length_nil]; omega)), (by first | omega | (simp only [List.length_append, List.length_cons, List.length_nil]; omega))⟩, (by first | omega | (simp only [List.length_append, List.length_cons, List.length_nil]; omega))⟩
  ·have hq := hs.turns hI (show i = ins.length by omega) (show j = ins.length by omega)
   have hqt : t = q1a l := z32 hq.1
   rw [← hqt]
   exact stRet (.sl 1 (q03 t))

def z96 : List SOp := [zO 1 (.box 25 (.tmp 0)),zO 2 (.alloc 88)]
instance : Live z96 := ⟨[0]⟩
def z95 : List SOp := [zL 3 25 1,zO 4 (.buildSlice 128 1 #[(0,.tmp 3)]),zO 5 (.call ⟨.value (.func 88),#[.tmp 4],#[128]⟩),⟨none,.store 88 (.tmp 2) (.tmp 5),none⟩]
instance : Live z95 := ⟨[1,2]⟩
def t_k44 : SC :=
 (.seq (.ops false z96) (.seq (.ops false z95) .ret))
theorem it_k44 : FnIs Tryz.prog 44 6 [.cell 2 88] t_k44 := ⟨Tryz.f44, _, Tryz.func44, rfl, rfl, rfl, rfl, by kernel_rfl⟩

def q0y (t : List (List Int)) : List AVal := t.map fun l => .sl 1 (q03 l)
theorem q46 (t : List (List Int)) : q0i (q0y t) = true := by
 refine qbd fun x hx => ?_
 obtain ⟨l, _, rfl⟩ := List.mem_map.1 hx
 exact q01 l
theorem q6v (t : List (List Int)) : (q0y t).all AVal.one = true := by
 rw [List.all_eq_true]
 intro x hx
 obtain ⟨l, _, rfl⟩ := List.mem_map.1 hx
 rfl
theorem qlf (M : Mem) (t : List (List Int)) : (q0y t).map (fzc q74 M) = q0y t := by
 simp [q0y, fzc]
theorem zdn (p : Pst) (t : List (List Int)) (ht : t.length = 16) (hM : Ev (En Tryz.prog rfl).P 88 [.sl 2 (q42 [p])] (.ret (.agg (q0y t)))) : Ev (En Tryz.prog rfl).P 44 [q10 p] (.ret (.agg (q0y t))) := by
 refine Ev.of_body it_k44 (by simp) (Run.start ?_)
 have hpx : q10 p = .agg [.sl 1 (q03 p.vec), .sl 3 (q0g p.cloud)] := rfl
 have e0 : (q0y t).length = 16 := by simp [q0y, ht]
 have e1 := q6v t
 unfold t_k44
 rw [hpx]
 (focus (have hF := True.intro; (repeat' (first | refine go0 (k:=?_) | fail)); all_goals clear hF))
 refine q4r (l := [.sl 2 (q42 [p])]) rfl rfl (by simp [q0i, AVal.stb, q0k]) hM ?_
 (focus (have hF := (aI @e0 @e1); (repeat' (first | refine go0 (k:=?_) | fail)); all_goals clear hF))
 refine Fin.all (xs := [.agg (q0y t)]) ?_ (by simp [q0i, AVal.stb, q46]) rfl
 have htk : (q0y t).take 16 = q0y t := List.take_of_length_le (by omega)
 simp [q4o, q86, qcs, TE_88, TD.isAgg, upd, tms, mms, e0, htk, qlf]

end Go.Proofs.YtkionmommpgcmaaGreat.Avm
