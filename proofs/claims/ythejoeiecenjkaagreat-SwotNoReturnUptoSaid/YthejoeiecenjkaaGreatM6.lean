/- Part 6 of the proof: lemmas. -/
import Derived.Test.YthejoeiecenjkaaGreatM5
import Derived.Test.YthejoeiecenjkaaGreatProg
import Derived.KernelRfl
set_option maxRecDepth 100000
set_option maxHeartbeats 4000000
set_option linter.unusedVariables false
set_option linter.unusedSimpArgs false
set_option linter.unusedSectionVars false
set_option linter.defProp false
namespace Go.Proofs.YthejoeiecenjkaaGreat.Avm
open Go.Proofs
def zhl : List SOp := [⟨some 2,.alloc 26,none⟩,⟨some 3,.assign (.const (.int .i64 0)),none⟩]
instance : Live zhl := ⟨[0]⟩
def zhk : List SOp := [⟨some 7,.move (.tmp 0),none⟩,⟨some 8,.call ⟨.value (.func 53),#[.tmp 7],#[22]⟩,none⟩,⟨some 9,.binOp .neq 32 (.tmp 8) (.const (.int .i64 0)) 32,none⟩]
instance : Live zhk := ⟨[0,2]⟩
def zhj : List SOp := [⟨some 10,.build 26 #[],none⟩,⟨none,.store 26 (.tmp 2) (.tmp 10),none⟩,⟨some 3,.assign (.const (.int .i64 1)),none⟩]
instance : Live zhj := ⟨[2]⟩
def zhi : List SOp := [⟨some 11,.move (.tmp 0),none⟩,⟨some 12,.call ⟨.builtin .len,#[.tmp 11],#[22]⟩,none⟩,⟨some 13,.makeSlice 38 (.tmp 12) (.tmp 12),none⟩,⟨some 4,.assign (.tmp 13),none⟩]
instance : Live zhi := ⟨[0,2]⟩
def zhh : List SOp := [⟨some 14,.move (.tmp 0),none⟩,⟨some 15,.call ⟨.builtin .len,#[.tmp 14],#[22]⟩,none⟩,⟨some 16,.move (.const (.int .i64 0)),none⟩]
instance : Live zhh := ⟨[0,2,4]⟩
def zhg : List SOp := [⟨some 17,.binOp .lss 3 (.tmp 16) (.tmp 15) 3,none⟩]
instance : Live zhg := ⟨[2,4,14,15,16]⟩
def zhf : List SOp := [⟨some 18,.move (.tmp 16),none⟩,⟨some 19,.indexAddr 22 (.tmp 14) (.tmp 16),none⟩,⟨some 20,.load 62 (.tmp 19),none⟩,⟨some 6,.alloc 62,none⟩,⟨some 5,.assign (.tmp 18),none⟩,⟨none,.store 62 (.tmp 6) (.tmp 20),none⟩]
instance : Live zhf := ⟨[2,4,14,15,16]⟩
def zhe : List SOp := [⟨some 21,.move (.tmp 4),none⟩,⟨some 22,.move (.tmp 5),none⟩,⟨some 23,.fieldAddr 62 (.tmp 6) 0,none⟩,⟨some 24,.load 41 (.tmp 23),none⟩,⟨some 25,.indexAddr 38 (.tmp 21) (.tmp 22),none⟩,⟨none,.store 41 (.tmp 25) (.tmp 24),none⟩]
instance : Live zhe := ⟨[2,4,5,6,14,15,16]⟩
def zhd : List SOp := [⟨some 26,.binOp .add 3 (.tmp 16) (.const (.int .i64 1)) 3,none⟩,⟨some 16,.move (.tmp 26),none⟩]
instance : Live zhd := ⟨[2,4,14,15,16]⟩
def quh : List SOp := [⟨some 27,.move (.tmp 4),none⟩,⟨some 28,.call ⟨.value (.func 94),#[.tmp 27],#[38]⟩,none⟩,⟨none,.store 26 (.tmp 2) (.tmp 28),none⟩,⟨some 3,.assign (.const (.int .i64 0)),none⟩]
instance : Live quh := ⟨[2,4]⟩
def qss : SC :=
 (.seq (.ops false zhg) (.seq (.cond (.tmp 17) .skip (.exit 0)) (.seq (.block 1 (.seq (.ops false zhf) (.ops false zhe))) (.ops false zhd))))
def t_k47 : SC :=
 (.seq (.ops false zhl) (.seq (.seq (.ops false zhk) (.cond (.tmp 9) (.seq (.ops false zhj) .ret) .skip)) (.seq (.ops false zhi) (.seq (.seq (.ops false zhh) (.block 0 (.loop qss))) (.seq (.ops false quh) .ret)))))
theorem it_k47 : FnIs Tryz.prog 47 29 [.cell 2 26, .tmp 3] t_k47 := ⟨Tryz.f47, _, Tryz.func47, rfl, rfl, rfl, rfl, by kernel_rfl⟩

def zhc : List SOp := [⟨some 1,.box 31 (.tmp 0),none⟩,⟨some 2,.alloc 31,none⟩]
instance : Live zhc := ⟨[0]⟩
def zhb : List SOp := [⟨some 6,.fieldAddr 31 (.tmp 1) 0,none⟩,⟨some 7,.load 22 (.tmp 6),none⟩,⟨some 8,.call ⟨.value (.func 63),#[.tmp 7],#[22]⟩,none⟩,⟨some 9,.fieldAddr 31 (.tmp 1) 1,none⟩,⟨some 10,.load 26 (.tmp 9),none⟩,⟨some 11,.call ⟨.value (.func 64),#[.tmp 10],#[26]⟩,none⟩,⟨some 12,.fieldAddr 31 (.tmp 1) 2,none⟩,⟨some 13,.load 27 (.tmp 12),none⟩,⟨some 14,.call ⟨.value (.func 95),#[.tmp 13],#[27]⟩,none⟩,⟨some 15,.build 31 #[(0,.tmp 8),(1,.tmp 11),(2,.tmp 14)],none⟩,⟨some 3,.alloc 31,none⟩,⟨none,.store 31 (.tmp 3) (.tmp 15),none⟩]
instance : Live zhb := ⟨[1,2]⟩
def zha : List SOp := [⟨some 16,.fieldAddr 31 (.tmp 3) 2,none⟩,⟨some 17,.load 27 (.tmp 16),none⟩,⟨some 18,.call ⟨.builtin .len,#[.tmp 17],#[27]⟩,none⟩,⟨some 19,.move (.const (.int .i64 0)),none⟩]
instance : Live zha := ⟨[2,3]⟩
def zh9 : List SOp := [⟨some 20,.binOp .lss 3 (.tmp 19) (.tmp 18) 3,none⟩]
instance : Live zh9 := ⟨[2,3,17,18,19]⟩
def zh8 : List SOp := [⟨some 21,.move (.tmp 19),none⟩,⟨some 22,.indexAddr 27 (.tmp 17) (.tmp 19),none⟩,⟨some 23,.load 91 (.tmp 22),none⟩,⟨some 5,.alloc 91,none⟩,⟨some 4,.assign (.tmp 21),none⟩,⟨none,.store 91 (.tmp 5) (.tmp 23),none⟩]
instance : Live zh8 := ⟨[2,3,17,18,19]⟩
def zh7 : List SOp := [⟨some 24,.fieldAddr 31 (.tmp 3) 2,none⟩,⟨some 25,.load 27 (.tmp 24),none⟩,⟨some 26,.move (.tmp 4),none⟩,⟨some 27,.fieldAddr 91 (.tmp 5) 1,none⟩,⟨some 28,.load 26 (.tmp 27),none⟩,⟨some 29,.call ⟨.value (.func 64),#[.tmp 28],#[26]⟩,none⟩,⟨some 30,.indexAddr 27 (.tmp 25) (.tmp 26),none⟩,⟨some 31,.fieldAddr 91 (.tmp 30) 1,none⟩,⟨none,.store 26 (.tmp 31) (.tmp 29),none⟩]
instance : Live zh7 := ⟨[2,3,4,5,17,18,19]⟩
def zh6 : List SOp := [⟨some 32,.binOp .add 3 (.tmp 19) (.const (.int .i64 1)) 3,none⟩,⟨some 19,.move (.tmp 32),none⟩]
instance : Live zh6 := ⟨[2,3,17,18,19]⟩
def zh5 : List SOp := [⟨some 33,.load 31 (.tmp 3),none⟩,⟨none,.store 31 (.tmp 2) (.tmp 33),none⟩]
instance : Live zh5 := ⟨[2,3]⟩
def qsr : SC :=
 (.seq (.ops false zh9) (.seq (.cond (.tmp 20) .skip (.exit 0)) (.seq (.block 1 (.seq (.ops false zh8) (.ops true zh7))) (.ops false zh6))))
def t_k48 : SC :=
 (.seq (.ops false zhc) (.seq (.ops true zhb) (.seq (.seq (.ops false zha) (.block 0 (.loop qsr))) (.seq (.ops false zh5) .ret))))
theorem it_k48 : FnIs Tryz.prog 48 34 [.cell 2 31] t_k48 := ⟨Tryz.f48, _, Tryz.func48, rfl, rfl, rfl, rfl, by kernel_rfl⟩

def q36 (s : Swt) : AVal := .agg [.sl 4 (q0e s.live), .sl 1 (q05 s.past.vec), .sl 3 (q0c s.past.cloud), .sl 3 (q09 s.defer)]
def encF (f : Fct) : AVal := .agg [.sl 4 (q0e f.adds), .sl 1 (q05 f.gone.vec), .sl 3 (q0c f.gone.cloud), .sl 3 (q09 f.recs)]
theorem q96 (a : List Ent) (v : List Int) (c : List Sn) (r : List Rec) : q0j [AVal.sl 4 (q0e a), .sl 1 (q05 v), .sl 3 (q0c c), .sl 3 (q09 r)] = true := by simp [q0j, AVal.stb, q03, q04, q02, q06]
theorem q66 (s : Swt) : (q36 s).stb = true := q96 _ _ _ _
theorem encF_stb (s : Fct) : (encF s).stb = true := q96 _ _ _ _
theorem qk2 : (∀ e, (q93 e).stb = true) ∧ (∀ r, (q5n r).stb = true) ∧ (∀ l, q0j (q0e l) = true) ∧ (∀ l, q0j (q09 l) = true) ∧ (∀ s, (q36 s).stb = true) ∧ (∀ s, (encF s).stb = true) := ⟨qah, qi7, q06, q02, q66, encF_stb⟩
theorem Wk.cells_nil {n : Nat} {T : q1x} {M : Mem} {k : Nat} {cs ds : List AVal} (hk : M k = some (.cells cs)) (h : qt2 cs ds) : Wk n ⟨T, M⟩ ⟨T, upd M k (some (.cells ds))⟩ := by
 intro B G a w hR
 obtain ⟨c, el, b1, b2, b3, b4, b5⟩ := hR.mem k _ hk
 have hD : ∀ j e, Dm M j e → Dm (upd M k (some (.cells ds))) j e := fun j e => q5t (by rw [hk]; trivial)
 have hw : ∀ b, b < w.heap.size → ¬ B b → G.ow b = none → w.heap[b]? = w.heap[b]? ∧ ¬ B b ∧ G.ow b = none := fun b _ hn ho => ⟨rfl, hn, ho⟩
 refine ⟨G, hR.update (.refl G w) k (.cells ds) (by show za9 (M k) _; rw [hk]; trivial) (fun _ _ _ => ⟨rfl, rfl⟩) (fun b key _ _ ho _ => ⟨rfl, ho⟩) (fun b hb => hR.ol b hb) ?_, .refl G w⟩
 refine ⟨c, el, b1, b2, b3, by rw [b4, qgp h], fun i y hy => ?_⟩
 obtain ⟨x, hx, hs⟩ := qgq h hy
 obtain ⟨u, hu, hr⟩ := b5 i x hx
 refine ⟨u, hu, ?_⟩
 rcases hs with rfl | ⟨rfl, sz, rfl⟩
 ·cases x with
  | own sz' xs' => exact OwnAt.mono hD (fun _ _ _ => ⟨rfl, rfl⟩) hw (fun b _ hb2 hb3 => ⟨rfl, hb2, hb3⟩) hr
  | hole => trivial
  | _ => exact VR.mono hD (fun _ _ _ => ⟨rfl, rfl⟩) hw hr
 ·have hr : VR (Dm M) G B w .nil u := hr
  cases hr
  exact .slnil sz
theorem sub4 : qt2 [.nil, .nil, .nil, .nil] [.sl 4 [], .sl 1 [], .sl 3 [], .sl 3 []] := ⟨.inr ⟨rfl, 4, rfl⟩, .inr ⟨rfl, 1, rfl⟩, .inr ⟨rfl, 3, rfl⟩, .inr ⟨rfl, 3, rfl⟩, trivial⟩
theorem sub2 : qt2 [.nil, .nil] [.sl 1 [], .sl 3 []] := ⟨.inr ⟨rfl, 1, rfl⟩, .inr ⟨rfl, 3, rfl⟩, trivial⟩
theorem qrk (l : List Ent) (hl : l.length ≤ 100000000) : Ev (En Tryz.prog rfl).P 63 [.sl 4 (q0e l)] (.ret (.sl 4 (q0e l))) := by
 refine Ev.of_body it_k63 (by simp) (Run.start ?_)
 unfold t_k63
 cases l with
 | nil =>
  have e0 : q0e [] = [] := rfl
  rw [e0]
  (have hF := True.intro; refine q1l (k:=?_); clear hF)
  refine q4n (Hook.nil_eq (En Tryz.prog rfl).hT (sz := 4) TE_22 (by simp only [opS, opA, ev, cst, upd, evs, evp, q8t, qe2, NoM, qby, qig, En_P, Option.getD, Option.map_some, Option.map_none, List.map_cons, List.map_nil, List.getElem?_cons_zero, List.getElem?_cons_succ, List.getElem?_nil, List.all_cons, List.all_nil, List.length_cons, List.length_nil, List.take_succ_cons, List.take_zero, List.drop_succ_cons, List.drop_zero, List.set_cons_zero, List.set_cons_succ, List.cons_append, List.nil_append, List.append_nil, List.toList_toArray, q7g, boxA, qa2, q6n, q3v, q7y, qbt, q1k, q7v, qbs, q8u, q9v, q5b, z7y, q89, q7q, zb0, qpg, qqy, zac, zad, qor, unA, qej, zae, q2v, mmA, q5z, q2c, q5r, qii, q24, zab, q1y, TyI.zeros, TyI.zeroElem, TyI.okElem, TD.isAgg, Value.cells, AVal.known, AVal.cells, AVal.one, AVal.plain, q0l, AVal.withCells, reduceCtorEq, ↓reduceIte, if_true, if_false, Bool.false_eq_true, false_implies, true_implies, implies_true, true_and, and_true, and_self, ne_eq, not_true, not_false_iff, Bool.and_true, Bool.true_and, Bool.and_false, Bool.false_and, Bool.or_true, Bool.true_or, Bool.or_false, Bool.false_or, Bool.not_true, Bool.not_false, beq_self_eq_true, Nat.reduceAdd, Nat.reduceMul, Nat.reduceLeDiff, Nat.reduceEqDiff, Nat.reduceBEq, Nat.mul_one, Nat.le_refl, Nat.zero_add, Nat.add_zero, Option.isSome_some, decide_true, decide_false, q7r, q9w, List.replicate_succ, List.replicate_zero, List.flatMap_cons, List.flatMap_nil, flat, tms, mms, Array.size_empty, z9t, qij, q6i, Op.operands, AVal.at, AVal.atR, q6g, qeo, qrs, Option.map_some, List.contains_cons, List.contains_nil, List.isEmpty_nil, List.isEmpty_cons, Int.toNat_natCast, Int.natCast_nonneg, Int.reduceLE, Int.reduceLT, Int.reduceToNat, Nat.reduceLT, Nat.reduceSub, Int.reduceNeg, Int.reduceEq])) ?_
  rintro v M' ⟨rfl, b, rfl⟩
  dsimp only [AS.put]
  (have hF := True.intro; refine q1l (k:=?_); clear hF)
  refine Run.cond _ rfl (fun hc => ?_) (fun hc => ?_)
  ·(have hF := True.intro; refine q1l (k:=?_); clear hF)
   exact Fin.nil rfl
  ·(have hF := True.intro; refine q1l (k:=?_); clear hF)
   exact Fin.tmp' rfl rfl
 | cons x l =>
  have e1 : q0e (x :: l) = q93 x :: q0e l := rfl
  have e2 : (q0e l).length = l.length := q0m l
  have hl2 : l.length + 1 ≤ 100000000 := by simpa using hl
  rw [e1]
  (have hF := @e2; refine q01 (k:=?_); clear hF)
  exact Fin.tmp' rfl (q06 (x :: l))
theorem qrj (l : List Rec) (hl : l.length ≤ 100000000) : EvFresh (En Tryz.prog rfl).P 95 [.sl 3 (q09 l)] 3 (q09 l) := by
 refine EvFresh.of_body it_k95 (by simp) (AW.wkEnd (Run.start ?_))
 unfold t_k95
 cases l with
 | nil =>
  have e0 : q09 [] = [] := rfl
  rw [e0]
  (have hF := True.intro; refine q1l (k:=?_); clear hF)
  refine q4n (Hook.nil_eq (En Tryz.prog rfl).hT (sz := 3) TE_27 (by simp only [opS, opA, ev, cst, upd, evs, evp, q8t, qe2, NoM, qby, qig, En_P, Option.getD, Option.map_some, Option.map_none, List.map_cons, List.map_nil, List.getElem?_cons_zero, List.getElem?_cons_succ, List.getElem?_nil, List.all_cons, List.all_nil, List.length_cons, List.length_nil, List.take_succ_cons, List.take_zero, List.drop_succ_cons, List.drop_zero, List.set_cons_zero, List.set_cons_succ, List.cons_append, List.nil_append, List.append_nil, List.toList_toArray, q7g, boxA, qa2, q6n, q3v, q7y, qbt, q1k, q7v, qbs, q8u, q9v, q5b, z7y, q89, q7q, zb0, qpg, qqy, zac, zad, qor, unA, qej, zae, q2v, mmA, q5z, q2c, q5r, qii, q24, zab, q1y, TyI.zeros, TyI.zeroElem, TyI.okElem, TD.isAgg, Value.cells, AVal.known, AVal.cells, AVal.one, AVal.plain, q0l, AVal.withCells, reduceCtorEq, ↓reduceIte, if_true, if_false, Bool.false_eq_true, false_implies, true_implies, implies_true, true_and, and_true, and_self, ne_eq, not_true, not_false_iff, Bool.and_true, Bool.true_and, Bool.and_false, Bool.false_and, Bool.or_true, Bool.true_or, Bool.or_false, Bool.false_or, Bool.not_true, Bool.not_false, beq_self_eq_true, Nat.reduceAdd, Nat.reduceMul, Nat.reduceLeDiff, Nat.reduceEqDiff, Nat.reduceBEq, Nat.mul_one, Nat.le_refl, Nat.zero_add, Nat.add_zero, Option.isSome_some, decide_true, decide_false, q7r, q9w, List.replicate_succ, List.replicate_zero, List.flatMap_cons, List.flatMap_nil, flat, tms, mms, Array.size_empty, z9t, qij, q6i, Op.operands, AVal.at, AVal.atR, q6g, qeo, qrs, Option.map_some, List.contains_cons, List.contains_nil, List.isEmpty_nil, List.isEmpty_cons, Int.toNat_natCast, Int.natCast_nonneg, Int.reduceLE, Int.reduceLT, Int.reduceToNat, Nat.reduceLT, Nat.reduceSub, Int.reduceNeg, Int.reduceEq])) ?_
  rintro v M' ⟨rfl, b, rfl⟩
  dsimp only [AS.put]
  (have hF := True.intro; refine q1l (k:=?_); clear hF)
  refine Run.cond _ rfl (fun hc => ?_) (fun hc => ?_)
  ·(have hF := True.intro; refine q1l (k:=?_); clear hF)
   exact Fin.done ⟨_, Wk.own_nil 2 99 3 rfl rfl, 99, 0, rfl, rfl, rfl⟩
  ·(have hF := True.intro; refine q1l (k:=?_); clear hF)
   exact Fin.done ⟨_, Wk.refl _ _, _, _, rfl, rfl, rfl⟩
 | cons x l =>
  have e1 : q09 (x :: l) = q5n x :: q09 l := rfl
  have e2 : (q09 l).length = l.length := q0p l
  have hl2 : l.length + 1 ≤ 100000000 := by simpa using hl
  rw [e1]
  (have hF := @e2; refine q01 (k:=?_); clear hF)
  exact Fin.done ⟨_, Wk.refl _ _, _, _, rfl, rfl, q02 (x :: l)⟩
theorem zls {l : List Rec} {i : Nat} {r : Rec} (h : l[i]? = some r) : (q09 l).set i (.agg [.str r.sku, .sl 1 (q05 r.past.vec), .sl 3 (q0c r.past.cloud)]) = q09 l := by
 have hi : i < l.length := by
  rcases Nat.lt_or_ge i l.length with h' | h'
  ·exact h'
  ·rw [List.getElem?_eq_none h'] at h; cases h
 have e : l.set i r = l := by
  rw [List.getElem?_eq_getElem hi] at h
  rw [← Option.some.inj h, List.set_getElem_self]
 have e2 : (q09 l).set i (q5n r) = q09 (l.set i r) := by unfold q09; rw [List.map_set]
 rw [e] at e2
 exact e2
theorem ev_k48 (s : Swt) (hw : wtS s ≤ 30000000) (hc : CanP s.past) (hr : ∀ r ∈ s.defer, qgi r) : Ev (En Tryz.prog rfl).P 48 [q36 s] (.ret (q36 s)) := by
 refine Ev.of_body it_k48 (by simp) (Run.start ?_)
 unfold t_k48 q36
 have hS := qk2
 have hcs := q96 s.live s.past.vec s.past.cloud s.defer
 have hlen := q8b s.defer
 have hww := hw
 unfold wtS at hww
 have c1 := qrk s.live (by omega)
 have c2 := qfz s.past (by omega)
 have c3 := qrj s.defer (by omega)
 have hn : q1a s.past = s.past := hc
 rw [hn] at c2
 have eK := q0p s.defer
 (have hF := @hcs; refine q01 (k:=?_); clear hF)
 refine q00 [.sl 4 (q0e s.live)] (he := c1) (k:=?_)
 (have hF := @hcs; refine q01 (k:=?_); clear hF)
 refine q00 [q0h s.past] (he := c2) (k:=?_)
 unfold q0h
 (have hF := @hcs; refine q01 (k:=?_); clear hF)
 refine stFresh [.sl 3 (q09 s.defer)] (he := c3) (k:=?_)
 (have hF := (aI @hcs @eK); refine q01 (k:=?_); clear hF)
 have hoff : ∀ a b c, qqw [(2, a), (3, b), (14, c)] 14 = false := fun _ _ _ => rfl
 refine Run.while (σ := Nat) (fun i => ⟨tms [(2, .ptr 2 0), (3, .ptr 3 0), (17, .os 14 0), (18, .int .i64 (s.defer.length : Int)), (19, .int .i64 (i : Int))], mms [(2, .cells [.nil, .nil, .nil, .nil]), (3, .cells [.sl 4 (q0e s.live), .sl 1 (q05 s.past.vec), .sl 3 (q0c s.past.cloud), .os 14 0]), (14, .arr 0 3 (q09 s.defer))]⟩)
  (fun i => i ≤ s.defer.length) (fun i => s.defer.length - i) 0 (have hW := (aI @q06 (aI @q02 @hoff)); q0f) (Nat.zero_le _) ?_
 intro i hi
 unfold qsr
 by_cases hlt : i < s.defer.length
 ·obtain ⟨r, hrr⟩ : ∃ r, s.defer[i]? = some r := ⟨s.defer[i], by simp [hlt]⟩
  have g1 := q15 hrr
  have hrl := List.mem_of_getElem? hrr
  have hwr := qin hrl
  unfold wtK at hwr
  have c4 := qfz r.past (by omega)
  have hn2 : q1a r.past = r.past := hr r hrl
  rw [hn2] at c4
  have hput := zls hrr
  (have hF := (aI @eK @g1); refine q01 (k:=?_); clear hF)
  refine q00 [q0h r.past] (he := c4) (k:=?_)
  unfold q0h
  (have hF := (aI @eK @g1); refine q01 (k:=?_); clear hF)
  (refine Fin.nextW (i + 1) ?_ (have hW := (aI (aI @q06 @q02) (aI @hput @hoff)); q0f); (try dsimp only))
  omega
 ·(have hF := @eK; refine q01 (k:=?_); clear hF)
  exact Fin.all (xs := [q36 s]) (by with_unfolding_all rfl) (by simp [q0j, q66]) rfl
theorem zlo (l : List Rn) (i : Nat) (a b : Int) : (q08 l).set i (.agg [.int .i64 a, .int .i64 b]) = q08 (l.set i (a, b)) := by
 unfold q08
 rw [List.map_set]
 rfl




def q7x (l : List Ent) (i : Nat) : List Rn := (l.take i).map Ent.dot ++ List.replicate (l.length - i) (0, 0)
theorem z9d (l : List Ent) : q7x l 0 = List.replicate l.length (0, 0) := by simp [q7x]
theorem zl1 {l : List Ent} {i : Nat} (h : i ≤ l.length) : (q7x l i).length = l.length := by simp [q7x]; omega
theorem zl2 (l : List Ent) : q7x l l.length = l.map Ent.dot := by simp [q7x]
theorem zl0 {l : List Ent} {i : Nat} {e : Ent} (h : l[i]? = some e) : (q7x l i).set i e.dot = q7x l (i + 1) := by
 have hi : i < l.length := by
  rcases Nat.lt_or_ge i l.length with h' | h'
  ·exact h'
  ·rw [List.getElem?_eq_none h'] at h; cases h
 unfold q7x
 rw [List.set_append_right _ _ (by simp; omega), List.take_add_one, h, List.map_append, List.append_assoc]
 congr 1
 have : l.length - i = l.length - (i + 1) + 1 := by omega
 rw [this, List.replicate_succ]
 simp [show i - min i l.length = 0 by omega]
theorem zlp (n : Nat) : List.replicate n (AVal.agg [.int .i64 0, .int .i64 0]) = q08 (List.replicate n (0, 0)) := by simp [q08, q37]
theorem ev_k47 (l : List Ent) (hl : l.length ≤ 10000000) : Ev (En Tryz.prog rfl).P 47 [.sl 4 (q0e l)] (.ret (.tup [q0h (if q7k l = true then q4y l else ⟨[], []⟩), .int .i64 (if q7k l = true then 0 else 1)])) := by
 refine Ev.of_body it_k47 (by simp) (AW.wkEnd (Run.start ?_))
 unfold t_k47
 have e1 := q0m l
 have hS := qk2
 have c1 := qpd l (by omega)
 by_cases hf : q7k l = true
 case' neg =>
  rw [if_neg hf] at c1
  rw [if_neg hf, if_neg hf]
  (have hF := @e1; refine q01 (k:=?_); clear hF)
  refine q00 [.sl 4 (q0e l)] (he := c1) (k:=?_)
  (have hF := @e1; refine q01 (k:=?_); clear hF)
  exact Fin.done ⟨_, Wk.cells_nil (k := 2) rfl sub2, _, by with_unfolding_all rfl, rfl, _, q3a _, rfl⟩
 case' pos =>
  rw [if_pos hf] at c1
  rw [if_pos hf, if_pos hf]
  have hz := z9d l
  have er := zlp l.length
  (have hF := (aI @e1 @er); refine q01 (k:=?_); clear hF)
  refine q00 [.sl 4 (q0e l)] (he := c1) (k:=?_)
  (have hF := (aI @e1 @er); refine q01 (k:=?_); clear hF)
  rw [← hz]
  refine Run.while (σ := Nat) (fun i => ⟨tms [(2, .ptr 2 0), (4, .os 13 0), (14, .sl 4 (q0e l)), (15, .int .i64 (l.length : Int)), (16, .int .i64 (i : Int))], mms [(2, .cells [.nil, .nil]), (13, .arr 0 2 (q08 (q7x l i)))]⟩)
   (fun i => i ≤ l.length) (fun i => l.length - i) 0 (have hW := @q06; q0f) (Nat.zero_le _) ?_
  intro i hi
  unfold qss
  by_cases hlt : i < l.length
  ·obtain ⟨e, he⟩ : ∃ e, l[i]? = some e := ⟨l[i], by simp [hlt]⟩
   have g1 := q0u he
   have hfs := zl0 he
   have hfl := zl1 hi
   have e3 := q0x (q7x l i)
   rw [hfl] at e3
   obtain ⟨d0, hd0⟩ : ∃ d, (q7x l i)[i]? = some d := ⟨(q7x l i)[i]'(by omega), by simp [show i < (q7x l i).length by omega]⟩
   have g2 : (q08 (q7x l i))[i]? = some (.agg [.int .i64 d0.1, .int .i64 d0.2]) := q3d hd0
   have hst : (q08 (q7x l i)).set i (.agg [.int .i64 e.rep, .int .i64 e.num]) = q08 (q7x l (i + 1)) := by rw [← hfs]; exact zlo _ _ _ _
   (have hF := (aI (aI @e1 @e3) (aI @g1 @g2)); refine q01 (k:=?_); clear hF)
   (refine Fin.nextW (i + 1) ?_ (have hW := (aI @q06 @hst); q0f); (try dsimp only))
   omega
  ·have hie : i = l.length := by omega
   subst hie
   rw [zl2]
   have c2 := ev_k94 (l.map Ent.dot) (by simp; omega)
   (have hF := @e1; refine q01 (k:=?_); clear hF)
   refine qt3 (fun j => j == 13) [.sl 2 (q08 (l.map Ent.dot))] (he := c2) (k:=?_)
   (have hF := @e1; refine q01 (k:=?_); clear hF)
   exact Fin.done ⟨_, Wk.refl _ _, [q0h (q4y l), .int .i64 0], by with_unfolding_all rfl, by simp [q0j, q0s, AVal.stb], _, q3a _, rfl⟩
open Classical in
noncomputable def formF (f : Fct) : Bool := decide (FormF f)
theorem q27 {s : Swt} {W : Nat} (h : wtS s ≤ W) : s.live.length ≤ W ∧ wt s.past ≤ W ∧ s.defer.length ≤ W ∧ q6m s.defer ≤ W ∧ ∀ r ∈ s.defer, wt r.past ≤ W := by
 unfold wtS at h
 have := q8b s.defer
 exact ⟨by omega, by omega, by omega, by omega, fun r hr => by have := qin hr; unfold wtK at this; omega⟩
theorem z7p (l : List Ent) : wt (q4y l) ≤ 16 + l.length := by
 have := ofP_wt (l.map Ent.dot)
 rw [List.length_map] at this
 exact this
open Classical in
noncomputable def evtS (f : Fct) : Swt := if evErr f = 0 then evS f else noS

def z41 : List SOp := [⟨some 1,.box 62 (.tmp 0),none⟩,⟨some 2,.assign (.const (.bool false)),none⟩]
instance : Live z41 := ⟨[0]⟩
def z40 : List SOp := [⟨some 3,.fieldAddr 62 (.tmp 1) 0,none⟩,⟨some 4,.load 41 (.tmp 3),none⟩,⟨some 5,.call ⟨.value (.func 111),#[.tmp 4],#[41]⟩,none⟩,⟨some 6,.move (.tmp 5),none⟩,⟨some 7,.fieldAddr 62 (.tmp 1) 1,some ((some 6),true)⟩,⟨some 8,.load 9 (.tmp 7),some ((some 6),true)⟩,⟨some 9,.call ⟨.value (.func 146),#[.tmp 8],#[9]⟩,some ((some 6),true)⟩,⟨some 10,.pick (.tmp 6) (.tmp 9) (.const (.bool false)),none⟩,⟨some 11,.move (.tmp 10),none⟩,⟨some 12,.fieldAddr 62 (.tmp 1) 2,some ((some 11),true)⟩,⟨some 13,.load 3 (.tmp 12),some ((some 11),true)⟩,⟨some 14,.binOp .geq 3 (.tmp 13) (.const (.int .i64 1)) 3,some ((some 11),true)⟩,⟨some 15,.pick (.tmp 11) (.tmp 14) (.const (.bool false)),none⟩,⟨some 16,.move (.tmp 15),none⟩,⟨some 17,.fieldAddr 62 (.tmp 1) 2,some ((some 16),true)⟩,⟨some 18,.load 3 (.tmp 17),some ((some 16),true)⟩,⟨some 19,.binOp .leq 3 (.tmp 18) (.const (.int .i64 1000000)) 3,some ((some 16),true)⟩,⟨some 20,.pick (.tmp 16) (.tmp 19) (.const (.bool false)),none⟩,⟨some 2,.assign (.tmp 20),none⟩]
instance : Live z40 := ⟨[1]⟩
def t_k115 : SC :=
 (.seq (.ops false z41) (.seq (.ops false z40) .ret))
theorem it_k115 : FnIs Tryz.prog 115 21 [.tmp 2] t_k115 := ⟨Tryz.f115, _, Tryz.func115, rfl, rfl, rfl, rfl, by kernel_rfl⟩

def z3z : List SOp := [⟨some 2,.box 41 (.tmp 0),none⟩,⟨some 3,.box 41 (.tmp 1),none⟩,⟨some 4,.assign (.const (.bool false)),none⟩]
instance : Live z3z := ⟨[0,1]⟩
def z3y : List SOp := [⟨some 5,.fieldAddr 41 (.tmp 2) 0,none⟩,⟨some 6,.load 3 (.tmp 5),none⟩,⟨some 7,.fieldAddr 41 (.tmp 3) 0,none⟩,⟨some 8,.load 3 (.tmp 7),none⟩,⟨some 9,.binOp .lss 3 (.tmp 6) (.tmp 8) 3,none⟩,⟨some 10,.move (.tmp 9),none⟩,⟨some 11,.fieldAddr 41 (.tmp 2) 0,some ((some 10),false)⟩,⟨some 12,.load 3 (.tmp 11),some ((some 10),false)⟩,⟨some 13,.fieldAddr 41 (.tmp 3) 0,some ((some 10),false)⟩,⟨some 14,.load 3 (.tmp 13),some ((some 10),false)⟩,⟨some 15,.binOp .eql 3 (.tmp 12) (.tmp 14) 3,some ((some 10),false)⟩,⟨some 16,.move (.tmp 15),some ((some 10),false)⟩,⟨some 17,.fieldAddr 41 (.tmp 2) 1,some ((some 16),true)⟩,⟨some 18,.load 3 (.tmp 17),some ((some 16),true)⟩,⟨some 19,.fieldAddr 41 (.tmp 3) 1,some ((some 16),true)⟩,⟨some 20,.load 3 (.tmp 19),some ((some 16),true)⟩,⟨some 21,.binOp .lss 3 (.tmp 18) (.tmp 20) 3,some ((some 16),true)⟩,⟨some 22,.pick (.tmp 16) (.tmp 21) (.const (.bool false)),some ((some 10),false)⟩,⟨some 23,.pick (.tmp 10) (.const (.bool true)) (.tmp 22),none⟩,⟨some 4,.assign (.tmp 23),none⟩]
instance : Live z3y := ⟨[2,3]⟩
def t_k116 : SC :=
 (.seq (.ops false z3z) (.seq (.ops false z3y) .ret))
theorem it_k116 : FnIs Tryz.prog 116 24 [.tmp 4] t_k116 := ⟨Tryz.f116, _, Tryz.func116, rfl, rfl, rfl, rfl, by kernel_rfl⟩

def zdy : List SOp := [⟨some 2,.assign (.const (.bool false)),none⟩]
instance : Live zdy := ⟨[0]⟩
def zdx : List SOp := [⟨some 3,.assign (.const (.int .i64 0)),none⟩]
instance : Live zdx := ⟨[0]⟩
def zdw : List SOp := [⟨some 4,.move (.tmp 3),none⟩,⟨some 5,.move (.tmp 0),none⟩,⟨some 6,.call ⟨.builtin .len,#[.tmp 5],#[22]⟩,none⟩,⟨some 7,.binOp .lss 3 (.tmp 4) (.tmp 6) 3,none⟩]
instance : Live zdw := ⟨[0,3]⟩
def zdv : List SOp := [⟨some 10,.move (.tmp 0),none⟩,⟨some 11,.move (.tmp 3),none⟩,⟨some 12,.indexAddr 22 (.tmp 10) (.tmp 11),none⟩,⟨some 13,.load 62 (.tmp 12),none⟩,⟨some 14,.call ⟨.value (.func 115),#[.tmp 13],#[62]⟩,none⟩,⟨some 15,.unOp .not 4 (.tmp 14),none⟩,⟨some 16,.move (.tmp 15),none⟩,⟨some 17,.move (.tmp 3),some ((some 16),false)⟩,⟨some 18,.binOp .gtr 3 (.tmp 17) (.const (.int .i64 0)) 3,some ((some 16),false)⟩,⟨some 19,.move (.tmp 18),some ((some 16),false)⟩,⟨some 20,.move (.tmp 0),some ((some 19),true)⟩,⟨some 21,.move (.tmp 3),some ((some 19),true)⟩,⟨some 22,.binOp .sub 3 (.tmp 21) (.const (.int .i64 1)) 3,some ((some 19),true)⟩,⟨some 23,.indexAddr 22 (.tmp 20) (.tmp 22),some ((some 19),true)⟩,⟨some 24,.fieldAddr 62 (.tmp 23) 0,some ((some 19),true)⟩,⟨some 25,.load 41 (.tmp 24),some ((some 19),true)⟩,⟨some 26,.move (.tmp 0),some ((some 19),true)⟩,⟨some 27,.move (.tmp 3),some ((some 19),true)⟩,⟨some 28,.indexAddr 22 (.tmp 26) (.tmp 27),some ((some 19),true)⟩,⟨some 29,.fieldAddr 62 (.tmp 28) 0,some ((some 19),true)⟩,⟨some 30,.load 41 (.tmp 29),some ((some 19),true)⟩,⟨some 31,.call ⟨.value (.func 116),#[.tmp 25,.tmp 30],#[41,41]⟩,some ((some 19),true)⟩,⟨some 32,.unOp .not 4 (.tmp 31),some ((some 19),true)⟩,⟨some 33,.pick (.tmp 19) (.tmp 32) (.const (.bool false)),some ((some 16),false)⟩,⟨some 34,.pick (.tmp 16) (.const (.bool true)) (.tmp 33),none⟩]
instance : Live zdv := ⟨[0,3]⟩
def zdu : List SOp := [⟨some 2,.assign (.const (.bool false)),none⟩]
instance : Live zdu := ⟨[]⟩
def zdt : List SOp := [⟨some 8,.move (.tmp 3),none⟩,⟨some 9,.binOp .add 3 (.tmp 8) (.const (.int .i64 1)) 3,none⟩,⟨some 3,.assign (.tmp 9),none⟩]
instance : Live zdt := ⟨[0,3]⟩
def zds : List SOp := [⟨some 2,.assign (.const (.bool true)),none⟩]
instance : Live zds := ⟨[]⟩
def qsi : SC :=
 (.seq (.seq (.ops false zdw) (.cond (.tmp 7) .skip (.exit 0))) (.seq (.block 1 (.seq (.ops true zdv) (.cond (.tmp 34) (.seq (.ops false zdu) .ret) .skip))) (.ops false zdt)))
def t_k67 : SC :=
 (.seq (.ops false zdy) (.seq (.seq (.ops false zdx) (.block 0 (.loop qsi))) (.seq (.ops false zds) .ret)))
theorem it_k67 : FnIs Tryz.prog 67 35 [.tmp 2] t_k67 := ⟨Tryz.f67, _, Tryz.func67, rfl, rfl, rfl, rfl, by kernel_rfl⟩

def z3v : List SOp := [⟨some 1,.box 91 (.tmp 0),none⟩,⟨some 2,.assign (.const (.bool false)),none⟩]
instance : Live z3v := ⟨[0]⟩
def z3u : List SOp := [⟨some 3,.fieldAddr 91 (.tmp 1) 0,none⟩,⟨some 4,.load 9 (.tmp 3),none⟩,⟨some 5,.binOp .eql 9 (.tmp 4) (.const (.string ⟨#[]⟩)) 9,none⟩,⟨some 6,.move (.tmp 5),none⟩,⟨some 7,.fieldAddr 91 (.tmp 1) 0,some ((some 6),false)⟩,⟨some 8,.load 9 (.tmp 7),some ((some 6),false)⟩,⟨some 9,.call ⟨.value (.func 146),#[.tmp 8],#[9]⟩,some ((some 6),false)⟩,⟨some 10,.pick (.tmp 6) (.const (.bool true)) (.tmp 9),none⟩,⟨some 11,.move (.tmp 10),none⟩,⟨some 12,.fieldAddr 91 (.tmp 1) 1,some ((some 11),true)⟩,⟨some 13,.load 26 (.tmp 12),some ((some 11),true)⟩,⟨some 14,.call ⟨.value (.func 68),#[.tmp 13],#[26]⟩,some ((some 11),true)⟩,⟨some 15,.pick (.tmp 11) (.tmp 14) (.const (.bool false)),none⟩,⟨some 16,.move (.tmp 15),none⟩,⟨some 17,.fieldAddr 91 (.tmp 1) 1,some ((some 16),true)⟩,⟨some 18,.load 26 (.tmp 17),some ((some 16),true)⟩,⟨some 19,.call ⟨.value (.func 76),#[.tmp 18],#[26]⟩,some ((some 16),true)⟩,⟨some 20,.unOp .not 4 (.tmp 19),some ((some 16),true)⟩,⟨some 21,.pick (.tmp 16) (.tmp 20) (.const (.bool false)),none⟩,⟨some 2,.assign (.tmp 21),none⟩]
instance : Live z3u := ⟨[1]⟩
def t_k118 : SC :=
 (.seq (.ops false z3v) (.seq (.ops false z3u) .ret))
theorem it_k118 : FnIs Tryz.prog 118 22 [.tmp 2] t_k118 := ⟨Tryz.f118, _, Tryz.func118, rfl, rfl, rfl, rfl, by kernel_rfl⟩

def zdp : List SOp := [⟨some 2,.assign (.const (.bool false)),none⟩]
instance : Live zdp := ⟨[0]⟩
def zdo : List SOp := [⟨some 3,.assign (.const (.int .i64 0)),none⟩]
instance : Live zdo := ⟨[0]⟩
def zdn : List SOp := [⟨some 6,.move (.tmp 3),none⟩,⟨some 7,.move (.tmp 0),none⟩,⟨some 8,.call ⟨.builtin .len,#[.tmp 7],#[27]⟩,none⟩,⟨some 9,.binOp .lss 3 (.tmp 6) (.tmp 8) 3,none⟩]
instance : Live zdn := ⟨[0,3]⟩
def zdm : List SOp := [⟨some 12,.move (.tmp 0),none⟩,⟨some 13,.move (.tmp 3),none⟩,⟨some 14,.indexAddr 27 (.tmp 12) (.tmp 13),none⟩,⟨some 15,.load 91 (.tmp 14),none⟩,⟨some 16,.call ⟨.value (.func 118),#[.tmp 15],#[91]⟩,none⟩,⟨some 17,.unOp .not 4 (.tmp 16),none⟩]
instance : Live zdm := ⟨[0,3]⟩
def zdl : List SOp := [⟨some 2,.assign (.const (.bool false)),none⟩]
instance : Live zdl := ⟨[]⟩
def zdk : List SOp := [⟨some 18,.move (.tmp 3),none⟩,⟨some 19,.binOp .gtr 3 (.tmp 18) (.const (.int .i64 0)) 3,none⟩]
instance : Live zdk := ⟨[0,3]⟩
def qqv : List SOp := [⟨some 20,.move (.tmp 0),none⟩,⟨some 21,.move (.tmp 3),none⟩,⟨some 22,.binOp .sub 3 (.tmp 21) (.const (.int .i64 1)) 3,none⟩,⟨some 23,.indexAddr 27 (.tmp 20) (.tmp 22),none⟩,⟨some 24,.load 91 (.tmp 23),none⟩,⟨some 25,.move (.tmp 0),none⟩,⟨some 26,.move (.tmp 3),none⟩,⟨some 27,.indexAddr 27 (.tmp 25) (.tmp 26),none⟩,⟨some 28,.load 91 (.tmp 27),none⟩,⟨some 4,.alloc 91,none⟩,⟨some 5,.alloc 91,none⟩,⟨none,.store 91 (.tmp 4) (.tmp 24),none⟩,⟨none,.store 91 (.tmp 5) (.tmp 28),none⟩]
instance : Live qqv := ⟨[0,3]⟩
instance : Rd qqv := ⟨fun j => j == 0⟩
def zdj : List SOp := [⟨some 29,.fieldAddr 91 (.tmp 4) 0,none⟩,⟨some 30,.load 9 (.tmp 29),none⟩,⟨some 31,.fieldAddr 91 (.tmp 5) 0,none⟩,⟨some 32,.load 9 (.tmp 31),none⟩,⟨some 33,.binOp .gtr 9 (.tmp 30) (.tmp 32) 9,none⟩,⟨some 34,.move (.tmp 33),none⟩,⟨some 35,.fieldAddr 91 (.tmp 4) 0,some ((some 34),false)⟩,⟨some 36,.load 9 (.tmp 35),some ((some 34),false)⟩,⟨some 37,.fieldAddr 91 (.tmp 5) 0,some ((some 34),false)⟩,⟨some 38,.load 9 (.tmp 37),some ((some 34),false)⟩,⟨some 39,.binOp .eql 9 (.tmp 36) (.tmp 38) 9,some ((some 34),false)⟩,⟨some 40,.move (.tmp 39),some ((some 34),false)⟩,⟨some 41,.fieldAddr 91 (.tmp 4) 1,some ((some 40),true)⟩,⟨some 42,.load 26 (.tmp 41),some ((some 40),true)⟩,⟨some 43,.fieldAddr 91 (.tmp 5) 1,some ((some 40),true)⟩,⟨some 44,.load 26 (.tmp 43),some ((some 40),true)⟩,⟨some 45,.call ⟨.value (.func 119),#[.tmp 42,.tmp 44],#[26,26]⟩,some ((some 40),true)⟩,⟨some 46,.binOp .geq 3 (.tmp 45) (.const (.int .i64 0)) 3,some ((some 40),true)⟩,⟨some 47,.pick (.tmp 40) (.tmp 46) (.const (.bool false)),some ((some 34),false)⟩,⟨some 48,.pick (.tmp 34) (.const (.bool true)) (.tmp 47),none⟩]
instance : Live zdj := ⟨[0,3,4,5]⟩
def zdi : List SOp := [⟨some 2,.assign (.const (.bool false)),none⟩]
instance : Live zdi := ⟨[]⟩
def qtr : List SOp := [⟨some 10,.move (.tmp 3),none⟩,⟨some 11,.binOp .add 3 (.tmp 10) (.const (.int .i64 1)) 3,none⟩,⟨some 3,.assign (.tmp 11),none⟩]
instance : Live qtr := ⟨[0,3]⟩
def qtq : List SOp := [⟨some 2,.assign (.const (.bool true)),none⟩]
instance : Live qtq := ⟨[]⟩
def qsh : SC :=
 (.seq (.seq (.ops false zdn) (.cond (.tmp 9) .skip (.exit 0))) (.seq (.block 1 (.seq (.seq (.ops false zdm) (.cond (.tmp 17) (.seq (.ops false zdl) .ret) .skip)) (.seq (.ops false zdk) (.cond (.tmp 19) (.seq (.opsW [] qqv) (.seq (.ops false zdj) (.cond (.tmp 48) (.seq (.ops false zdi) .ret) .skip))) .skip)))) (.ops false qtr)))
def t_k69 : SC :=
 (.seq (.ops false zdp) (.seq (.seq (.ops false zdo) (.block 0 (.loop qsh))) (.seq (.ops false qtq) .ret)))
theorem it_k69 : FnIs Tryz.prog 69 49 [.tmp 2] t_k69 := ⟨Tryz.f69, _, Tryz.func69, rfl, rfl, rfl, rfl, by kernel_rfl⟩


def zcy : List SOp := [⟨some 2,.box 91 (.tmp 0),none⟩,⟨some 3,.box 62 (.tmp 1),none⟩,⟨some 4,.assign (.const (.bool false)),none⟩]
instance : Live zcy := ⟨[0,1]⟩
def zcx : List SOp := [⟨some 5,.fieldAddr 91 (.tmp 2) 0,none⟩,⟨some 6,.load 9 (.tmp 5),none⟩,⟨some 7,.binOp .eql 9 (.tmp 6) (.const (.string ⟨#[]⟩)) 9,none⟩,⟨some 8,.move (.tmp 7),none⟩,⟨some 9,.fieldAddr 91 (.tmp 2) 0,some ((some 8),false)⟩,⟨some 10,.load 9 (.tmp 9),some ((some 8),false)⟩,⟨some 11,.fieldAddr 62 (.tmp 3) 1,some ((some 8),false)⟩,⟨some 12,.load 9 (.tmp 11),some ((some 8),false)⟩,⟨some 13,.binOp .eql 9 (.tmp 10) (.tmp 12) 9,some ((some 8),false)⟩,⟨some 14,.pick (.tmp 8) (.const (.bool true)) (.tmp 13),none⟩,⟨some 15,.move (.tmp 14),none⟩,⟨some 16,.fieldAddr 91 (.tmp 2) 1,some ((some 15),true)⟩,⟨some 17,.load 26 (.tmp 16),some ((some 15),true)⟩,⟨some 18,.fieldAddr 62 (.tmp 3) 0,some ((some 15),true)⟩,⟨some 19,.load 41 (.tmp 18),some ((some 15),true)⟩,⟨some 20,.call ⟨.value (.func 62),#[.tmp 17,.tmp 19],#[26,41]⟩,some ((some 15),true)⟩,⟨some 21,.pick (.tmp 15) (.tmp 20) (.const (.bool false)),none⟩,⟨some 4,.assign (.tmp 21),none⟩]
instance : Live zcx := ⟨[2,3]⟩
def t_k72 : SC :=
 (.seq (.ops false zcy) (.seq (.ops false zcx) .ret))
theorem it_k72 : FnIs Tryz.prog 72 22 [.tmp 4] t_k72 := ⟨Tryz.f72, _, Tryz.func72, rfl, rfl, rfl, rfl, by kernel_rfl⟩

theorem ev_k115 (e : Ent) : Ev (En Tryz.prog rfl).P 115 [q93 e] (.ret (.bool (decide (q25 e = 0)))) := by
 refine Ev.of_body it_k115 (by simp) (Run.start ?_)
 unfold t_k115 q93
 have c1 := zlk e.dot
 have c0 := zlh e.sku
 have hee := z9p e
 change Ev _ _ _ (.ret (.bool (q3u e.rep e.num))) at c1
 generalize q3u e.rep e.num = v1 at c1 hee
 generalize q7j e.sku = v2 at c0 hee
 generalize q25 e = u at hee ⊢
 (have hF := True.intro; refine q01 (k:=?_); clear hF)
 refine q00 [q37 e.dot] (he := c1) (k:=?_)
 cases v1
 ·rw [decide_eq_false (fun h => by have := (hee.1 h).1; simp at this)]
  (have hF := True.intro; refine q01 (k:=?_); clear hF)
  exact Fin.tmp' rfl rfl
 ·(have hF := True.intro; refine q01 (k:=?_); clear hF)
  refine q00 [.str e.sku] (he := c0) (k:=?_)
  cases v2
  ·rw [decide_eq_false (fun h => by have := (hee.1 h).2.1; simp at this)]
   (have hF := True.intro; refine q01 (k:=?_); clear hF)
   exact Fin.tmp' rfl rfl
  ·by_cases h3 : e.qty < 1
   ·rw [decide_eq_false (fun h => (hee.1 h).2.2.1 h3)]
    (have hF := True.intro; refine q01 (k:=?_); clear hF)
    exact Fin.tmp' rfl rfl
   ·by_cases h4 : 1000000 < e.qty
    ·rw [decide_eq_false (fun h => (hee.1 h).2.2.2 h4)]
     (have hF := True.intro; refine q01 (k:=?_); clear hF)
     exact Fin.tmp' rfl rfl
    ·rw [decide_eq_true (hee.2 ⟨rfl, rfl, h3, h4⟩)]
     (have hF := True.intro; refine q01 (k:=?_); clear hF)
     exact Fin.tmp' rfl rfl
theorem ev_k116 (a b : Rn) : Ev (En Tryz.prog rfl).P 116 [q37 a, q37 b] (.ret (.bool (q2y a b))) := by
 refine Ev.of_body it_k116 (by simp) (Run.start ?_)
 unfold t_k116 q37 q2y
 by_cases h1 : a.1 < b.1
 ·rw [show (decide (a.1 < b.1) || (decide (a.1 = b.1) && decide (a.2 < b.2))) = true by simp [h1]]
  (have hF := True.intro; refine q01 (k:=?_); clear hF)
  exact Fin.tmp' rfl rfl
 ·by_cases h2 : a.1 = b.1
  ·rw [show (decide (a.1 < b.1) || (decide (a.1 = b.1) && decide (a.2 < b.2))) = decide (a.2 < b.2) by simp [h1, h2]]
   (have hF := True.intro; refine q01 (k:=?_); clear hF)
   exact Fin.tmp' rfl rfl
  ·rw [show (decide (a.1 < b.1) || (decide (a.1 = b.1) && decide (a.2 < b.2))) = false by simp [h1, h2]]
   (have hF := True.intro; refine q01 (k:=?_); clear hF)
   exact Fin.tmp' rfl rfl
theorem ev_k67 (l : List Ent) (hl : l.length ≤ 1000000000) : Ev (En Tryz.prog rfl).P 67 [.sl 4 (q0e l)] (.ret (.bool (q7k l))) := by
 refine Ev.of_body it_k67 (by simp) (Run.start ?_)
 unfold t_k67
 have e1 := q0m l
 have hS := qq9
 (have hF := @e1; refine q01 (k:=?_); clear hF)
 refine Run.while (σ := Nat) (fun i => ⟨tms [(0, .sl 4 (q0e l)), (3, .int .i64 (i : Int))], mms []⟩)
  (fun i => i ≤ l.length ∧ (∀ (j : Nat) q, j < i → l[j]? = some q → q25 q = 0) ∧ ∀ (j : Nat) a b, j + 1 < i → l[j]? = some a → l[j + 1]? = some b → q2y a.dot b.dot = true) (fun i => l.length - i) 0 (have hW := @q06; q0f) ⟨Nat.zero_le _, fun j q hj => absurd hj (Nat.not_lt_zero _), fun j a b hj => by omega⟩ ?_
 rintro i ⟨hi, hI⟩
 unfold qsi
 by_cases hlt : i < l.length
 ·obtain ⟨r, hr⟩ : ∃ r, l[i]? = some r := ⟨l[i], by simp [hlt]⟩
  have g1 := q0u hr
  have c1 := ev_k115 r
  have hst := fun h0 h1 => qfx hr hI h0 h1
  have hbad : q25 r ≠ 0 → ¬ q6z l := fun h hf => h (hf.1 i r hr)
  generalize q25 r = v at c1 hst hbad
  (have hF := (aI @e1 @g1); refine q01 (k:=?_); clear hF)
  refine q00 [q93 r] (he := c1) (k:=?_)
  by_cases hv : v = 0
  ·rw [decide_eq_true hv]
   have hst := hst hv
   by_cases h0 : i = 0
   ·have hst := hst (fun q hq => by omega)
    subst h0
    (have hF := (aI @e1 @g1); refine q01 (k:=?_); clear hF)
    (refine Fin.nextW (0 + 1) ?_ (have hW := @q06; q0f); (try dsimp only))
    exact ⟨⟨hlt, hst⟩, by omega⟩
   ·obtain ⟨q, hq⟩ : ∃ q, l[i - 1]? = some q := ⟨l[i - 1]'(by omega), by simp [show i - 1 < l.length by omega]⟩
    have g2 := q0u hq
    have hpw : IntKind.i64.wrap ((i : Int) - 1) = ((i - 1 : Nat) : Int) := by rw [q2o (by omega)]; omega
    have c2 := ev_k116 q.dot r.dot
    have hbad2 : q2y q.dot r.dot = false → ¬ q6z l := fun h hf => by
     have := hf.2 (i - 1) q r hq (by rw [show i - 1 + 1 = i by omega]; exact hr)
     rw [h] at this
     cases this
    have hst : q2y q.dot r.dot = true → _ := fun h => hst (fun q' _ hq' => by rw [hq] at hq'; cases hq'; exact h)
    generalize q2y q.dot r.dot = u at c2 hst hbad2
    (have hF := (aI (aI @e1 @g1) (aI @g2 @hpw)); refine q01 (k:=?_); clear hF)
    refine q00 [q37 q.dot, q37 r.dot] (he := c2) (k:=?_)
    cases u
    ·rw [q7a (hbad2 rfl)]
     (have hF := (aI @e1 @g1); refine q01 (k:=?_); clear hF)
     exact Fin.tmp' rfl rfl
    ·have hst := hst rfl
     (have hF := (aI @e1 @g1); refine q01 (k:=?_); clear hF)
     (refine Fin.nextW (i + 1) ?_ (have hW := @q06; q0f); (try dsimp only))
     exact ⟨⟨hlt, hst⟩, by omega⟩
  ·rw [decide_eq_false hv, q7a (hbad hv)]
   (have hF := (aI @e1 @g1); refine q01 (k:=?_); clear hF)
   exact Fin.tmp' rfl rfl
 ·rw [q50 (qp5 (by omega) hI)]
  (have hF := @e1; refine q01 (k:=?_); clear hF)
  exact Fin.tmp' rfl rfl
theorem z8i (r : Rec) : q2r r = 0 ↔ (r.sku.size = 0 ∨ q7j r.sku = true) ∧ q1g r.past = true ∧ q3i r.past ≠ 0 := by
 unfold q2r
 by_cases h1 : r.sku.size = 0 <;> cases h2 : q7j r.sku <;> cases h3 : q1g r.past <;> by_cases h4 : q3i r.past = 0 <;> simp [h1, h4]
theorem ev_k118 (r : Rec) (hw : wt r.past ≤ 30000000) : Ev (En Tryz.prog rfl).P 118 [q5n r] (.ret (.bool (decide (q2r r = 0)))) := by
 refine Ev.of_body it_k118 (by simp) (Run.start ?_)
 unfold t_k118 q5n
 have c1 := zlh r.sku
 have c2 := ev_k68 r.past (by omega)
 have c3 := ev_k76 r.past (by omega)
 have e := q7p r.sku
 have hee := z8i r
 generalize q7j r.sku = v1 at c1 hee
 generalize q1g r.past = v2 at c2 hee
 generalize q3i r.past = v3 at c3 hee
 generalize q2r r = u at hee ⊢
 by_cases h0 : r.sku.size = 0
 case' pos =>
  rw [eq_true h0] at e
  (have hF := (aI @e (aI @decide_true @Bool.not_true)); refine q01 (k:=?_); clear hF)
 case' neg =>
  rw [eq_false h0] at e
  cases v1
  case' false =>
   rw [decide_eq_false (fun h => by have := (hee.1 h).1; simp [h0] at this)]
  all_goals
   (have hF := (aI @e (aI @decide_false @Bool.not_false)); refine q01 (k:=?_); clear hF)
   refine q00 [.str r.sku] (he := c1) (k:=?_)
   (have hF := True.intro; refine q01 (k:=?_); clear hF)
  case' false => exact Fin.tmp' rfl rfl
 all_goals
  refine q00 [q0h r.past] (he := c2) (k:=?_)
  cases v2
  ·rw [decide_eq_false (fun h => by have := (hee.1 h).2.1; simp at this)]
   (have hF := True.intro; refine q01 (k:=?_); clear hF)
   exact Fin.tmp' rfl rfl
  ·(have hF := True.intro; refine q01 (k:=?_); clear hF)
   refine q00 [q0h r.past] (he := c3) (k:=?_)
   by_cases h3 : v3 = 0
   ·rw [decide_eq_false (fun h => (hee.1 h).2.2 h3), decide_eq_true h3]
    (have hF := True.intro; refine q01 (k:=?_); clear hF)
    exact Fin.tmp' rfl rfl
   ·rw [decide_eq_true (hee.2 ⟨by simp [h0], rfl, h3⟩), decide_eq_false h3]
    (have hF := True.intro; refine q01 (k:=?_); clear hF)
    exact Fin.tmp' rfl rfl

def z3i : List SOp := [⟨some 2,.alloc 26,none⟩]
instance : Live z3i := ⟨[0]⟩
def z3h : List SOp := [⟨some 3,.alloc 26,none⟩]
instance : Live z3h := ⟨[0,2]⟩
def z3g : List SOp := [⟨some 4,.assign (.const (.int .i64 0)),none⟩]
instance : Live z3g := ⟨[0,2,3]⟩
def z3f : List SOp := [⟨some 5,.move (.tmp 4),none⟩,⟨some 6,.move (.tmp 0),none⟩,⟨some 7,.call ⟨.builtin .len,#[.tmp 6],#[38]⟩,none⟩,⟨some 8,.binOp .lss 3 (.tmp 5) (.tmp 7) 3,none⟩]
instance : Live z3f := ⟨[0,2,3,4]⟩
def qh7 : List SOp := [⟨some 11,.fieldAddr 26 (.tmp 3) 1,none⟩,⟨some 12,.load 24 (.tmp 11),none⟩,⟨some 13,.move (.tmp 0),none⟩,⟨some 14,.move (.tmp 4),none⟩,⟨some 15,.indexAddr 38 (.tmp 13) (.tmp 14),none⟩,⟨some 16,.fieldAddr 41 (.tmp 15) 0,none⟩,⟨some 17,.load 3 (.tmp 16),none⟩,⟨some 18,.move (.tmp 0),none⟩,⟨some 19,.move (.tmp 4),none⟩,⟨some 20,.indexAddr 38 (.tmp 18) (.tmp 19),none⟩,⟨some 21,.fieldAddr 41 (.tmp 20) 1,none⟩,⟨some 22,.load 3 (.tmp 21),none⟩,⟨some 23,.move (.tmp 0),none⟩,⟨some 24,.move (.tmp 4),none⟩,⟨some 25,.indexAddr 38 (.tmp 23) (.tmp 24),none⟩,⟨some 26,.fieldAddr 41 (.tmp 25) 1,none⟩,⟨some 27,.load 3 (.tmp 26),none⟩,⟨some 28,.build 127 #[(0,.tmp 17),(1,.tmp 22),(2,.tmp 27)],none⟩,⟨some 29,.buildSlice 24 1 #[(0,.tmp 28)],none⟩,⟨some 30,.call ⟨.builtin .append,#[.tmp 12,.tmp 29],#[24,24]⟩,none⟩,⟨some 31,.fieldAddr 26 (.tmp 3) 1,none⟩,⟨none,.store 24 (.tmp 31) (.tmp 30),none⟩]
instance : Live qh7 := ⟨[0,2,3,4]⟩
instance : Rd qh7 := ⟨fun j => j == 0⟩
def z3e : List SOp := [⟨some 9,.move (.tmp 4),none⟩,⟨some 10,.binOp .add 3 (.tmp 9) (.const (.int .i64 1)) 3,none⟩,⟨some 4,.assign (.tmp 10),none⟩]
instance : Live z3e := ⟨[0,2,3,4]⟩
def z3d : List SOp := [⟨some 32,.load 26 (.tmp 3),none⟩,⟨some 33,.call ⟨.value (.func 117),#[.tmp 32],#[26]⟩,none⟩,⟨none,.store 26 (.tmp 2) (.tmp 33),none⟩]
instance : Live z3d := ⟨[2,3]⟩
def qjr : SC :=
 (.seq (.seq (.ops false z3f) (.cond (.tmp 8) .skip (.exit 0))) (.seq (.block 1 (.opsW [12] qh7)) (.ops false z3e)))
def t_k121 : SC :=
 (.seq (.ops false z3i) (.seq (.ops false z3h) (.seq (.seq (.ops false z3g) (.block 0 (.loop qjr))) (.seq (.ops false z3d) .ret))))
theorem it_k121 : FnIs Tryz.prog 121 34 [.cell 2 26] t_k121 := ⟨Tryz.f121, _, Tryz.func121, rfl, rfl, rfl, rfl, by kernel_rfl⟩

def zd6 : List SOp := [⟨some 6,.alloc 26,none⟩]
instance : Live zd6 := ⟨[0,1,2]⟩
def zd5 : List SOp := [⟨some 7,.assign (.const (.slice none 0 0)),none⟩]
instance : Live zd5 := ⟨[0,1,2,6]⟩
def zd4 : List SOp := [⟨some 8,.assign (.const (.int .i64 0)),none⟩]
instance : Live zd4 := ⟨[0,1,2,6,7]⟩
def zd3 : List SOp := [⟨some 9,.move (.tmp 8),none⟩,⟨some 10,.move (.tmp 0),none⟩,⟨some 11,.call ⟨.builtin .len,#[.tmp 10],#[22]⟩,none⟩,⟨some 12,.binOp .lss 3 (.tmp 9) (.tmp 11) 3,none⟩]
instance : Live zd3 := ⟨[0,1,2,6,7,8]⟩
def zd2 : List SOp := [⟨some 15,.move (.tmp 1),none⟩,⟨some 16,.binOp .eql 9 (.tmp 15) (.const (.string ⟨#[]⟩)) 9,none⟩,⟨some 17,.move (.tmp 16),none⟩,⟨some 18,.move (.tmp 0),some ((some 17),false)⟩,⟨some 19,.move (.tmp 8),some ((some 17),false)⟩,⟨some 20,.indexAddr 22 (.tmp 18) (.tmp 19),some ((some 17),false)⟩,⟨some 21,.fieldAddr 62 (.tmp 20) 1,some ((some 17),false)⟩,⟨some 22,.load 9 (.tmp 21),some ((some 17),false)⟩,⟨some 23,.move (.tmp 1),some ((some 17),false)⟩,⟨some 24,.binOp .eql 9 (.tmp 22) (.tmp 23) 9,some ((some 17),false)⟩,⟨some 25,.pick (.tmp 17) (.const (.bool true)) (.tmp 24),none⟩,⟨some 26,.move (.tmp 25),none⟩,⟨some 27,.move (.tmp 2),some ((some 26),true)⟩,⟨some 28,.binOp .lss 3 (.tmp 27) (.const (.int .i64 0)) 3,some ((some 26),true)⟩,⟨some 29,.move (.tmp 28),some ((some 26),true)⟩,⟨some 30,.move (.tmp 0),some ((some 29),false)⟩,⟨some 31,.move (.tmp 8),some ((some 29),false)⟩,⟨some 32,.indexAddr 22 (.tmp 30) (.tmp 31),some ((some 29),false)⟩,⟨some 33,.fieldAddr 62 (.tmp 32) 0,some ((some 29),false)⟩,⟨some 34,.fieldAddr 41 (.tmp 33) 0,some ((some 29),false)⟩,⟨some 35,.load 3 (.tmp 34),some ((some 29),false)⟩,⟨some 36,.move (.tmp 2),some ((some 29),false)⟩,⟨some 37,.binOp .eql 3 (.tmp 35) (.tmp 36) 3,some ((some 29),false)⟩,⟨some 38,.pick (.tmp 29) (.const (.bool true)) (.tmp 37),some ((some 26),true)⟩,⟨some 39,.pick (.tmp 26) (.tmp 38) (.const (.bool false)),none⟩]
instance : Live zd2 := ⟨[0,1,2,6,7,8]⟩
def zd1 : List SOp := [⟨some 40,.move (.tmp 7),none⟩,⟨some 41,.move (.tmp 0),none⟩,⟨some 42,.move (.tmp 8),none⟩,⟨some 43,.indexAddr 22 (.tmp 41) (.tmp 42),none⟩,⟨some 44,.fieldAddr 62 (.tmp 43) 0,none⟩,⟨some 45,.load 41 (.tmp 44),none⟩,⟨some 46,.buildSlice 38 1 #[(0,.tmp 45)],none⟩,⟨some 47,.call ⟨.builtin .append,#[.tmp 40,.tmp 46],#[38,38]⟩,none⟩,⟨some 7,.assign (.tmp 47),none⟩]
instance : Live zd1 := ⟨[0,1,2,6,7,8]⟩
def zd0 : List SOp := [⟨some 13,.move (.tmp 8),none⟩,⟨some 14,.binOp .add 3 (.tmp 13) (.const (.int .i64 1)) 3,none⟩,⟨some 8,.assign (.tmp 14),none⟩]
instance : Live zd0 := ⟨[0,1,2,6,7,8]⟩
def zcz : List SOp := [⟨some 48,.move (.tmp 7),none⟩,⟨some 49,.call ⟨.value (.func 121),#[.tmp 48],#[38]⟩,none⟩,⟨none,.store 26 (.tmp 6) (.tmp 49),none⟩]
instance : Live zcz := ⟨[6,7]⟩
def qsg : SC :=
 (.seq (.seq (.ops false zd3) (.cond (.tmp 12) .skip (.exit 0))) (.seq (.block 1 (.seq (.ops false zd2) (.cond (.tmp 39) (.ops false zd1) .skip))) (.ops false zd0)))
def t_k71 : SC :=
 (.seq (.ops false zd6) (.seq (.ops false zd5) (.seq (.seq (.ops false zd4) (.block 0 (.loop qsg))) (.seq (.ops false zcz) .ret))))
theorem it_k71 : FnIs Tryz.prog 71 50 [.cell 6 26] t_k71 := ⟨Tryz.f71, _, Tryz.func71, rfl, rfl, rfl, rfl, by kernel_rfl⟩


theorem ev_k69 (l : List Rec) (hl : l.length ≤ 1000000000) (hw : ∀ r ∈ l, wt r.past ≤ 30000000) : Ev (En Tryz.prog rfl).P 69 [.sl 3 (q09 l)] (.ret (.bool (q3m l))) := by
 refine Ev.of_body it_k69 (by simp) (Run.start ?_)
 unfold t_k69
 have e1 := q0p l
 have hS := qk2
 (have hF := @e1; refine q01 (k:=?_); clear hF)
 refine Run.while (σ := Nat) (fun i => ⟨tms [(0, .sl 3 (q09 l)), (3, .int .i64 (i : Int))], mms []⟩)
  (fun i => i ≤ l.length ∧ (∀ (j : Nat) q, j < i → l[j]? = some q → q2r q = 0) ∧ ∀ (j : Nat) a b, j + 1 < i → l[j]? = some a → l[j + 1]? = some b → q4b a b < 0) (fun i => l.length - i) 0 (have hW := @q02; q0f) ⟨Nat.zero_le _, fun j q hj => absurd hj (Nat.not_lt_zero _), fun j a b hj => by omega⟩ ?_
 rintro i ⟨hi, hI⟩
 unfold qsh
 by_cases hlt : i < l.length
 ·obtain ⟨r, hr⟩ : ∃ r, l[i]? = some r := ⟨l[i], by simp [hlt]⟩
  have g1 := q15 hr
  have hwr := hw r (List.mem_of_getElem? hr)
  have c1 := ev_k118 r (by omega)
  have hst := fun h0 h1 => qfv hr hI h0 h1
  have hbad : q2r r ≠ 0 → ¬ q3y l := fun h hf => h (hf.1 i r hr)
  generalize q2r r = v at c1 hst hbad
  (have hF := (aI @e1 @g1); refine q01 (k:=?_); clear hF)
  refine q00 [q5n r] (he := c1) (k:=?_)
  by_cases hv : v = 0
  ·rw [decide_eq_true hv]
   have hst := hst hv
   by_cases h0 : i = 0
   ·have hst := hst (fun q hq => by omega)
    subst h0
    (have hF := (aI @e1 @g1); refine q01 (k:=?_); clear hF)
    (refine Fin.nextW (0 + 1) ?_ (have hW := @q02; q0f); (try dsimp only))
    exact ⟨⟨hlt, hst⟩, by omega⟩
   ·obtain ⟨q, hq⟩ : ∃ q, l[i - 1]? = some q := ⟨l[i - 1]'(by omega), by simp [show i - 1 < l.length by omega]⟩
    have g2 := q15 hq
    have hpw : IntKind.i64.wrap ((i : Int) - 1) = ((i - 1 : Nat) : Int) := by rw [q2o (by omega)]; omega
    have hwq := hw q (List.mem_of_getElem? hq)
    have c2 := ev_k119 q.past r.past (by omega) (by omega)
    have hbad2 : ¬ q4b q r < 0 → ¬ q3y l := fun h hf => h (hf.2 (i - 1) q r hq (by rw [show i - 1 + 1 = i by omega]; exact hr))
    have hst : q4b q r < 0 → _ := fun h => hst (fun q' _ hq' => by rw [hq] at hq'; cases hq'; exact h)
    have h1 := zm6 q.sku r.sku
    have hrg : q9j q.sku r.sku = -1 ∨ q9j q.sku r.sku = 0 ∨ q9j q.sku r.sku = 1 := qfq _ _
    have h0 : (q.sku = r.sku) = (q9j q.sku r.sku = 0) := propext q5o.symm
    unfold q4b at hst hbad2
    generalize q9j q.sku r.sku = u at *
    rcases hrg with rfl | rfl | rfl
    ·rw [show decide ((-1 : Int) < 0) = true by decide] at h1
     rw [show ((-1 : Int) = 0) = False by simp] at h0
     have hst := hst (by simp)
     (have hF := (aI (aI @e1 (aI @g1 @g2)) (aI @hpw (aI @h1 @h0))); refine q01 (k:=?_); clear hF)
     (have hF := (aI (aI (aI @e1 @g1) (aI @g2 @hpw)) (aI (aI @h1 @h0) (aI @Bool.not_true (aI @Bool.true_or @decide_false)))); refine run2 (k:=?_); clear hF)
     (refine Fin.nextW (i + 1) ?_ (have hW := @q02; q0f); (try dsimp only))
     exact ⟨⟨hlt, hst⟩, by omega⟩
    ·rw [show decide ((0 : Int) < 0) = false by decide] at h1
     rw [show ((0 : Int) = 0) = True by simp] at h0
     simp only [if_true] at hst hbad2
     generalize cmpP q.past r.past = u at c2 hst hbad2
     (have hF := (aI (aI @e1 (aI @g1 @g2)) (aI @hpw (aI @h1 @h0))); refine q01 (k:=?_); clear hF)
     (have hF := (aI (aI (aI @e1 @g1) (aI @g2 (aI @hpw @h1))) (aI (aI @h0 @Bool.not_true) (aI @Bool.or_true (aI @Bool.false_or @decide_true)))); refine run2 (k:=?_); clear hF)
     refine q00 [q0h q.past, q0h r.past] (he := c2) (k:=?_)
     by_cases hu : u < 0
     ·have hst := hst hu
      (have hF := (aI @e1 @g1); refine q01 (k:=?_); clear hF)
      (refine Fin.nextW (i + 1) ?_ (have hW := @q02; q0f); (try dsimp only))
      exact ⟨⟨hlt, hst⟩, by omega⟩
     ·rw [q5i (hbad2 hu)]
      (have hF := (aI @e1 @g1); refine q01 (k:=?_); clear hF)
      exact Fin.tmp' rfl rfl
    ·rw [show decide ((1 : Int) < 0) = false by decide] at h1
     rw [show ((1 : Int) = 0) = False by simp] at h0
     rw [q5i (hbad2 (by simp))]
     (have hF := (aI (aI @e1 (aI @g1 @g2)) (aI @hpw (aI @h1 @h0))); refine q01 (k:=?_); clear hF)
     (have hF := (aI (aI (aI @e1 @g1) (aI @g2 @hpw)) (aI (aI @h1 @h0) (aI @Bool.not_false (aI @Bool.or_false @decide_false)))); refine run2 (k:=?_); clear hF)
     exact Fin.tmp' rfl rfl
  ·rw [decide_eq_false hv, q5i (hbad hv)]
   (have hF := (aI @e1 @g1); refine q01 (k:=?_); clear hF)
   exact Fin.tmp' rfl rfl
 ·rw [q2m ⟨fun j q hq => hI.1 j q (by
   rcases Nat.lt_or_ge j l.length with h | h
   ·omega
   ·rw [List.getElem?_eq_none h] at hq; cases hq) hq, fun j a b ha hb => hI.2 j a b (by
   rcases Nat.lt_or_ge (j + 1) l.length with h | h
   ·omega
   ·rw [List.getElem?_eq_none h] at hb; cases hb) ha hb⟩]
  (have hF := @e1; refine q01 (k:=?_); clear hF)
  exact Fin.tmp' rfl rfl
def q57 (ds : List Rn) : List Sn := ds.map fun d => (d.1, d.2, d.2)
theorem qqq {ds : List Rn} {i : Nat} {d : Rn} (h : ds[i]? = some d) : q57 (ds.take (i + 1)) = q57 (ds.take i) ++ [(d.1, d.2, d.2)] := by
 unfold q57
 rw [List.take_add_one, h, List.map_append]
 rfl
theorem z8o (ds : List Rn) : q1a ⟨[], q57 ds⟩ = ofP ds := by
 refine (qam _).ext (canP_of2 ds) fun r hr n => ?_
 rw [qhb _ hr, zjx ds hr]
 unfold inP q57
 constructor
 ·rintro ⟨_, h1, h2, h3⟩
  refine ⟨h1, h2, ?_⟩
  rcases h3 with ⟨h3, _⟩ | ⟨s, hs, a1, a2, a3⟩
  ·simp at h3
  ·obtain ⟨d, hd, rfl⟩ := List.mem_map.1 hs
   simp only at a1 a2 a3
   have : d = ((r : Int), n) := by
    cases d with
    | mk x y => simp only at a1 a2 a3; rw [a1, show y = n by omega]
   rw [← this]
   exact hd
 ·rintro ⟨h1, h2, h3⟩
  exact ⟨hr, h1, h2, .inr ⟨((r : Int), n, n), List.mem_map.2 ⟨_, h3, rfl⟩, rfl, Int.le_refl _, Int.le_refl _⟩⟩
theorem ev_k121 (ds : List Rn) (hl : ds.length ≤ 10000000) : Ev (En Tryz.prog rfl).P 121 [.sl 2 (q08 ds)] (.ret (q0h (ofP ds))) := by
 refine Ev.of_body it_k121 (by simp) (Run.start ?_)
 unfold t_k121
 have e1 := q0x ds
 have hS := qk2
 (have hF := @e1; refine q01 (k:=?_); clear hF)
 refine Run.wk (Wk.own_cells (k := 3) (cs' := [.own 1 [], .own 3 []]) rfl rfl ?_) ?_
 ·intro i x y hx hy
  match i with
  | 0 => simp at hx hy; subst hx; subst hy; exact .inr ⟨rfl, 1, rfl⟩
  | 1 => simp at hx hy; subst hx; subst hy; exact .inr ⟨rfl, 3, rfl⟩
  | i + 2 => simp at hx
 refine Run.while (σ := Nat) (fun i => ⟨tms [(0, .sl 2 (q08 ds)), (2, .ptr 2 0), (3, .ptr 3 0), (4, .int .i64 (i : Int))], mms [(2, .cells [.nil, .nil]), (3, .cells [.own 1 [], .own 3 (q0c (q57 (ds.take i)))])]⟩)
  (fun i => i ≤ ds.length) (fun i => ds.length - i) 0 (have hW := @q07; q0f) (Nat.zero_le _) ?_
 intro i hi
 unfold qjr
 by_cases hlt : i < ds.length
 ·obtain ⟨d, hd⟩ : ∃ d, ds[i]? = some d := ⟨ds[i], by simp [hlt]⟩
  have g1 : (q08 ds)[i]? = some (.agg [.int .i64 d.1, .int .i64 d.2]) := q3d hd
  have hst := qqq hd
  have hle : (q57 (ds.take i)).length ≤ ds.length := by unfold q57; rw [List.length_map, List.length_take]; omega
  generalize q57 (ds.take i) = sp at *
  have e2 := q1h sp
  (have hF := (aI @e1 (aI @e2 @g1)); refine q01 (k:=?_); clear hF)
  (have hF := (aI @e1 (aI @e2 @g1)); refine run2 (k:=?_); clear hF)
  (refine Fin.nextW (i + 1) ?_ (have hW := (aI @q07 (aI @hst @q8i)); q0f); (try dsimp only))
  omega
 ·rw [List.take_of_length_le (show ds.length ≤ i by omega)]
  have hsl : (q57 ds).length = ds.length := by simp [q57]
  have c1 := qhz ⟨[], q57 ds⟩ (by show 0 + (q57 ds).length ≤ _; omega)
  rw [z8o] at c1
  refine Run.wk (Wk.freeze (k := 3) (cs := [.own 1 [], .own 3 (q0c (q57 ds))]) rfl) ?_
  (have hF := @e1; refine q01 (k:=?_); clear hF)
  refine q00 [q0h ⟨[], q57 ds⟩] (he := c1) (k:=?_)
  unfold q0h
  (have hF := @e1; refine q01 (k:=?_); clear hF)
  exact Fin.all (xs := [q0h (ofP ds)]) (by with_unfolding_all rfl) (by simp [q0j, q0s]) rfl






def zjg : List SOp := [⟨some 2,.box 31 (.tmp 0),none⟩,⟨some 3,.box 31 (.tmp 1),none⟩,⟨some 4,.assign (.const (.bool false)),none⟩]
instance : Live zjg := ⟨[0,1]⟩
def zjf : List SOp := [⟨some 7,.fieldAddr 31 (.tmp 2) 0,none⟩,⟨some 8,.load 22 (.tmp 7),none⟩,⟨some 9,.call ⟨.builtin .len,#[.tmp 8],#[22]⟩,none⟩,⟨some 10,.fieldAddr 31 (.tmp 3) 0,none⟩,⟨some 11,.load 22 (.tmp 10),none⟩,⟨some 12,.call ⟨.builtin .len,#[.tmp 11],#[22]⟩,none⟩,⟨some 13,.binOp .neq 3 (.tmp 9) (.tmp 12) 3,none⟩,⟨some 14,.move (.tmp 13),none⟩,⟨some 15,.fieldAddr 31 (.tmp 2) 1,some ((some 14),false)⟩,⟨some 16,.load 26 (.tmp 15),some ((some 14),false)⟩,⟨some 17,.fieldAddr 31 (.tmp 3) 1,some ((some 14),false)⟩,⟨some 18,.load 26 (.tmp 17),some ((some 14),false)⟩,⟨some 19,.call ⟨.value (.func 50),#[.tmp 16,.tmp 18],#[26,26]⟩,some ((some 14),false)⟩,⟨some 20,.unOp .not 4 (.tmp 19),some ((some 14),false)⟩,⟨some 21,.pick (.tmp 14) (.const (.bool true)) (.tmp 20),none⟩,⟨some 22,.move (.tmp 21),none⟩,⟨some 23,.fieldAddr 31 (.tmp 2) 2,some ((some 22),false)⟩,⟨some 24,.load 27 (.tmp 23),some ((some 22),false)⟩,⟨some 25,.call ⟨.builtin .len,#[.tmp 24],#[27]⟩,some ((some 22),false)⟩,⟨some 26,.fieldAddr 31 (.tmp 3) 2,some ((some 22),false)⟩,⟨some 27,.load 27 (.tmp 26),some ((some 22),false)⟩,⟨some 28,.call ⟨.builtin .len,#[.tmp 27],#[27]⟩,some ((some 22),false)⟩,⟨some 29,.binOp .neq 3 (.tmp 25) (.tmp 28) 3,some ((some 22),false)⟩,⟨some 30,.pick (.tmp 22) (.const (.bool true)) (.tmp 29),none⟩]
instance : Live zjf := ⟨[2,3]⟩
def zje : List SOp := [⟨some 4,.assign (.const (.bool false)),none⟩]
instance : Live zje := ⟨[]⟩
def zjd : List SOp := [⟨some 5,.assign (.const (.int .i64 0)),none⟩]
instance : Live zjd := ⟨[2,3]⟩
def zjc : List SOp := [⟨some 31,.move (.tmp 5),none⟩,⟨some 32,.fieldAddr 31 (.tmp 2) 0,none⟩,⟨some 33,.load 22 (.tmp 32),none⟩,⟨some 34,.call ⟨.builtin .len,#[.tmp 33],#[22]⟩,none⟩,⟨some 35,.binOp .lss 3 (.tmp 31) (.tmp 34) 3,none⟩]
instance : Live zjc := ⟨[2,3,5]⟩
def zjb : List SOp := [⟨some 38,.fieldAddr 31 (.tmp 2) 0,none⟩,⟨some 39,.load 22 (.tmp 38),none⟩,⟨some 40,.move (.tmp 5),none⟩,⟨some 41,.indexAddr 22 (.tmp 39) (.tmp 40),none⟩,⟨some 42,.load 62 (.tmp 41),none⟩,⟨some 43,.fieldAddr 31 (.tmp 3) 0,none⟩,⟨some 44,.load 22 (.tmp 43),none⟩,⟨some 45,.move (.tmp 5),none⟩,⟨some 46,.indexAddr 22 (.tmp 44) (.tmp 45),none⟩,⟨some 47,.load 62 (.tmp 46),none⟩,⟨some 48,.binOp .neq 62 (.tmp 42) (.tmp 47) 62,none⟩]
instance : Live zjb := ⟨[2,3,5]⟩
def zja : List SOp := [⟨some 4,.assign (.const (.bool false)),none⟩]
instance : Live zja := ⟨[]⟩
def zj9 : List SOp := [⟨some 36,.move (.tmp 5),none⟩,⟨some 37,.binOp .add 3 (.tmp 36) (.const (.int .i64 1)) 3,none⟩,⟨some 5,.assign (.tmp 37),none⟩]
instance : Live zj9 := ⟨[2,3,5]⟩
def zj8 : List SOp := [⟨some 6,.assign (.const (.int .i64 0)),none⟩]
instance : Live zj8 := ⟨[2,3]⟩
def qyf : List SOp := [⟨some 49,.move (.tmp 6),none⟩,⟨some 50,.fieldAddr 31 (.tmp 2) 2,none⟩,⟨some 51,.load 27 (.tmp 50),none⟩,⟨some 52,.call ⟨.builtin .len,#[.tmp 51],#[27]⟩,none⟩,⟨some 53,.binOp .lss 3 (.tmp 49) (.tmp 52) 3,none⟩]
instance : Live qyf := ⟨[2,3,6]⟩
def qye : List SOp := [⟨some 56,.fieldAddr 31 (.tmp 2) 2,none⟩,⟨some 57,.load 27 (.tmp 56),none⟩,⟨some 58,.move (.tmp 6),none⟩,⟨some 59,.indexAddr 27 (.tmp 57) (.tmp 58),none⟩,⟨some 60,.fieldAddr 91 (.tmp 59) 0,none⟩,⟨some 61,.load 9 (.tmp 60),none⟩,⟨some 62,.fieldAddr 31 (.tmp 3) 2,none⟩,⟨some 63,.load 27 (.tmp 62),none⟩,⟨some 64,.move (.tmp 6),none⟩,⟨some 65,.indexAddr 27 (.tmp 63) (.tmp 64),none⟩,⟨some 66,.fieldAddr 91 (.tmp 65) 0,none⟩,⟨some 67,.load 9 (.tmp 66),none⟩,⟨some 68,.binOp .neq 9 (.tmp 61) (.tmp 67) 9,none⟩,⟨some 69,.move (.tmp 68),none⟩,⟨some 70,.fieldAddr 31 (.tmp 2) 2,some ((some 69),false)⟩,⟨some 71,.load 27 (.tmp 70),some ((some 69),false)⟩,⟨some 72,.move (.tmp 6),some ((some 69),false)⟩,⟨some 73,.indexAddr 27 (.tmp 71) (.tmp 72),some ((some 69),false)⟩,⟨some 74,.fieldAddr 91 (.tmp 73) 1,some ((some 69),false)⟩,⟨some 75,.load 26 (.tmp 74),some ((some 69),false)⟩,⟨some 76,.fieldAddr 31 (.tmp 3) 2,some ((some 69),false)⟩,⟨some 77,.load 27 (.tmp 76),some ((some 69),false)⟩,⟨some 78,.move (.tmp 6),some ((some 69),false)⟩,⟨some 79,.indexAddr 27 (.tmp 77) (.tmp 78),some ((some 69),false)⟩,⟨some 80,.fieldAddr 91 (.tmp 79) 1,some ((some 69),false)⟩,⟨some 81,.load 26 (.tmp 80),some ((some 69),false)⟩,⟨some 82,.call ⟨.value (.func 50),#[.tmp 75,.tmp 81],#[26,26]⟩,some ((some 69),false)⟩,⟨some 83,.unOp .not 4 (.tmp 82),some ((some 69),false)⟩,⟨some 84,.pick (.tmp 69) (.const (.bool true)) (.tmp 83),none⟩]
instance : Live qye := ⟨[2,3,6]⟩
def qyd : List SOp := [⟨some 4,.assign (.const (.bool false)),none⟩]
instance : Live qyd := ⟨[]⟩
def qyc : List SOp := [⟨some 54,.move (.tmp 6),none⟩,⟨some 55,.binOp .add 3 (.tmp 54) (.const (.int .i64 1)) 3,none⟩,⟨some 6,.assign (.tmp 55),none⟩]
instance : Live qyc := ⟨[2,3,6]⟩
def qyb : List SOp := [⟨some 4,.assign (.const (.bool true)),none⟩]
instance : Live qyb := ⟨[]⟩
def qt0 : SC :=
 (.seq (.seq (.ops false zjc) (.cond (.tmp 35) .skip (.exit 0))) (.seq (.block 1 (.seq (.ops true zjb) (.cond (.tmp 48) (.seq (.ops false zja) .ret) .skip))) (.ops false zj9)))
def qsz : SC :=
 (.seq (.seq (.ops false qyf) (.cond (.tmp 53) .skip (.exit 2))) (.seq (.block 3 (.seq (.ops true qye) (.cond (.tmp 84) (.seq (.ops false qyd) .ret) .skip))) (.ops false qyc)))
def t_k15 : SC :=
 (.seq (.ops false zjg) (.seq (.seq (.ops false zjf) (.cond (.tmp 30) (.seq (.ops false zje) .ret) .skip)) (.seq (.seq (.ops false zjd) (.block 0 (.loop qt0))) (.seq (.seq (.ops false zj8) (.block 2 (.loop qsz))) (.seq (.ops false qyb) .ret)))))
theorem it_k15 : FnIs Tryz.prog 15 85 [.tmp 4] t_k15 := ⟨Tryz.f15, _, Tryz.func15, rfl, rfl, rfl, rfl, by kernel_rfl⟩

theorem ev_k71 (l : List Ent) (hl : l.length ≤ 10000000) : Ev (En Tryz.prog rfl).P 71 [.sl 4 (q0e l), .str ⟨#[]⟩, .int .i64 (-1)] (.ret (q0h (q4y l))) := by
 refine Ev.of_body it_k71 (by simp) (Run.start ?_)
 unfold t_k71
 have e1 := q0m l
 have hS := qk2
 (have hF := @e1; refine q01 (k:=?_); clear hF)
 refine Run.wk (Wk.own_nil 7 47 2 rfl rfl) ?_
 refine Run.while (σ := Nat) (fun i => ⟨tms [(0, .sl 4 (q0e l)), (1, .str ⟨#[]⟩), (2, .int .i64 (-1)), (6, .ptr 6 0), (7, .os 47 i), (8, .int .i64 (i : Int))], mms [(6, .cells [.nil, .nil]), (47, .arr i 2 (q08 ((l.take i).map Ent.dot)))]⟩)
  (fun i => i ≤ l.length) (fun i => l.length - i) 0 (have hW := (aI @q06 @q07); q0f) (Nat.zero_le _) ?_
 intro i hi
 unfold qsg
 by_cases hlt : i < l.length
 ·obtain ⟨e, he⟩ : ∃ e, l[i]? = some e := ⟨l[i], by simp [hlt]⟩
  have g1 := q0u he
  have hst : (l.take (i + 1)).map Ent.dot = (l.take i).map Ent.dot ++ [(e.rep, e.num)] := by rw [List.take_add_one, he, List.map_append]; rfl
  have hlen : ((l.take i).map Ent.dot).length ≤ l.length := by rw [List.length_map, List.length_take]; omega
  generalize (l.take i).map Ent.dot = ds at *
  have e2 := q0x ds
  have hs0 : ((⟨#[]⟩ : ByteArray) = ⟨#[]⟩) = True := by simp
  (have hF := (aI (aI @e1 @e2) (aI @g1 (aI @hs0 @decide_true))); refine q01 (k:=?_); clear hF)
  (refine Fin.nextW (i + 1) ?_ (have hW := (aI (aI @q06 @q07) (aI @hst @q6t)); q0f); (try dsimp only))
  omega
 ·rw [List.take_of_length_le (show l.length ≤ i by omega)]
  have hll : (l.map Ent.dot).length = l.length := by simp
  have c1 := ev_k121 (l.map Ent.dot) (by omega)
  (have hF := @e1; refine q01 (k:=?_); clear hF)
  refine qt3 (fun j => j == 47) [.sl 2 (q08 (l.map Ent.dot))] (he := c1) (k:=?_)
  (have hF := @e1; refine q01 (k:=?_); clear hF)
  exact Fin.all (xs := [q0h (q4y l)]) (by with_unfolding_all rfl) (by simp [q0j, q0s]) rfl
theorem ev_k72 (r : Rec) (e : Ent) (hw : wt r.past ≤ 900000000) : Ev (En Tryz.prog rfl).P 72 [q5n r, q93 e] (.ret (.bool (qb8 r e))) := by
 refine Ev.of_body it_k72 (by simp) (Run.start ?_)
 unfold t_k72 q5n q93 qb8
 have es := q7p r.sku
 have c1 := ev_k62 r.past e.dot hw
 generalize q1c r.past e.dot = v at c1 ⊢
 by_cases h0 : r.sku.size = 0
 ·rw [decide_eq_true h0, Bool.true_or, Bool.true_and]
  rw [eq_true h0] at es
  (have hF := @es; refine q01 (k:=?_); clear hF)
  refine q00 [q0h r.past, q37 e.dot] (he := c1) (k:=?_)
  (have hF := True.intro; refine q01 (k:=?_); clear hF)
  exact Fin.tmp' rfl rfl
 ·rw [decide_eq_false h0, Bool.false_or]
  rw [eq_false h0] at es
  by_cases h1 : r.sku = e.sku
  ·rw [decide_eq_true h1, Bool.true_and]
   have es2 := es
   rw [h1] at es2
   (have hF := (aI @es (aI @h1 @es2)); refine q01 (k:=?_); clear hF)
   refine q00 [q0h r.past, q37 e.dot] (he := c1) (k:=?_)
   (have hF := True.intro; refine q01 (k:=?_); clear hF)
   exact Fin.tmp' rfl rfl
  ·rw [decide_eq_false h1, Bool.false_and]
   (have hF := (aI @es @h1); refine q01 (k:=?_); clear hF)
   exact Fin.tmp' rfl rfl

def zj0 : List SOp := [⟨some 1,.box 31 (.tmp 0),none⟩,⟨some 2,.assign (.const (.int .i64 0)),none⟩]
instance : Live zj0 := ⟨[0]⟩
def ziz : List SOp := [⟨some 9,.fieldAddr 31 (.tmp 1) 0,none⟩,⟨some 10,.load 22 (.tmp 9),none⟩,⟨some 11,.call ⟨.value (.func 53),#[.tmp 10],#[22]⟩,none⟩,⟨some 12,.binOp .neq 32 (.tmp 11) (.const (.int .i64 0)) 32,none⟩,⟨some 13,.move (.tmp 12),none⟩,⟨some 14,.fieldAddr 31 (.tmp 1) 1,some ((some 13),false)⟩,⟨some 15,.load 26 (.tmp 14),some ((some 13),false)⟩,⟨some 16,.call ⟨.value (.func 54),#[.tmp 15],#[26]⟩,some ((some 13),false)⟩,⟨some 17,.unOp .not 4 (.tmp 16),some ((some 13),false)⟩,⟨some 18,.pick (.tmp 13) (.const (.bool true)) (.tmp 17),none⟩,⟨some 19,.move (.tmp 18),none⟩,⟨some 20,.fieldAddr 31 (.tmp 1) 2,some ((some 19),false)⟩,⟨some 21,.load 27 (.tmp 20),some ((some 19),false)⟩,⟨some 22,.call ⟨.value (.func 55),#[.tmp 21],#[27]⟩,some ((some 19),false)⟩,⟨some 23,.binOp .neq 32 (.tmp 22) (.const (.int .i64 0)) 32,some ((some 19),false)⟩,⟨some 24,.pick (.tmp 19) (.const (.bool true)) (.tmp 23),none⟩]
instance : Live ziz := ⟨[1]⟩
def ziy : List SOp := [⟨some 2,.assign (.const (.int .i64 1)),none⟩]
instance : Live ziy := ⟨[]⟩
def zix : List SOp := [⟨some 26,.fieldAddr 31 (.tmp 1) 0,none⟩,⟨some 27,.load 22 (.tmp 26),none⟩,⟨some 28,.call ⟨.value (.func 47),#[.tmp 27],#[22]⟩,none⟩,⟨some 25,.move (.tmp 28),none⟩,⟨some 29,.extract (.tmp 25) 0,none⟩,⟨some 30,.extract (.tmp 25) 1,none⟩,⟨some 3,.alloc 26,none⟩,⟨none,.store 26 (.tmp 3) (.tmp 29),none⟩,⟨some 4,.assign (.tmp 30),none⟩]
instance : Live zix := ⟨[1]⟩
def ziw : List SOp := [⟨some 31,.load 26 (.tmp 3),none⟩,⟨some 32,.fieldAddr 31 (.tmp 1) 1,none⟩,⟨some 33,.load 26 (.tmp 32),none⟩,⟨some 34,.call ⟨.value (.func 56),#[.tmp 31,.tmp 33],#[26,26]⟩,none⟩,⟨some 35,.unOp .not 4 (.tmp 34),none⟩]
instance : Live ziw := ⟨[1,3]⟩
def ziv : List SOp := [⟨some 2,.assign (.const (.int .i64 1)),none⟩]
instance : Live ziv := ⟨[]⟩
def ziu : List SOp := [⟨some 37,.fieldAddr 31 (.tmp 1) 2,none⟩,⟨some 38,.load 27 (.tmp 37),none⟩,⟨some 39,.fieldAddr 31 (.tmp 1) 1,none⟩,⟨some 40,.load 26 (.tmp 39),none⟩,⟨some 41,.call ⟨.value (.func 57),#[.tmp 38,.tmp 40],#[27,26]⟩,none⟩,⟨some 36,.move (.tmp 41),none⟩,⟨some 42,.extract (.tmp 36) 0,none⟩,⟨some 43,.extract (.tmp 36) 1,none⟩,⟨some 5,.assign (.tmp 42),none⟩,⟨some 6,.assign (.tmp 43),none⟩]
instance : Live ziu := ⟨[1]⟩
def zit : List SOp := [⟨some 44,.move (.tmp 5),none⟩,⟨some 45,.call ⟨.builtin .len,#[.tmp 44],#[27]⟩,none⟩,⟨some 46,.fieldAddr 31 (.tmp 1) 2,none⟩,⟨some 47,.load 27 (.tmp 46),none⟩,⟨some 48,.call ⟨.builtin .len,#[.tmp 47],#[27]⟩,none⟩,⟨some 49,.binOp .neq 3 (.tmp 45) (.tmp 48) 3,none⟩]
instance : Live zit := ⟨[1,5]⟩
def zis : List SOp := [⟨some 2,.assign (.const (.int .i64 1)),none⟩]
instance : Live zis := ⟨[]⟩
def qv7 : List SOp := [⟨some 51,.fieldAddr 31 (.tmp 1) 0,none⟩,⟨some 52,.load 22 (.tmp 51),none⟩,⟨some 53,.fieldAddr 31 (.tmp 1) 2,none⟩,⟨some 54,.load 27 (.tmp 53),none⟩,⟨some 55,.call ⟨.value (.func 58),#[.tmp 52,.tmp 54],#[22,27]⟩,none⟩,⟨some 50,.move (.tmp 55),none⟩,⟨some 56,.extract (.tmp 50) 0,none⟩,⟨some 57,.extract (.tmp 50) 1,none⟩,⟨some 7,.assign (.tmp 56),none⟩,⟨some 8,.assign (.tmp 57),none⟩]
instance : Live qv7 := ⟨[1]⟩
def qv6 : List SOp := [⟨some 58,.move (.tmp 7),none⟩,⟨some 59,.call ⟨.builtin .len,#[.tmp 58],#[22]⟩,none⟩,⟨some 60,.fieldAddr 31 (.tmp 1) 0,none⟩,⟨some 61,.load 22 (.tmp 60),none⟩,⟨some 62,.call ⟨.builtin .len,#[.tmp 61],#[22]⟩,none⟩,⟨some 63,.binOp .neq 3 (.tmp 59) (.tmp 62) 3,none⟩]
instance : Live qv6 := ⟨[1,7]⟩
def qv5 : List SOp := [⟨some 2,.assign (.const (.int .i64 1)),none⟩]
instance : Live qv5 := ⟨[]⟩
def qv4 : List SOp := [⟨some 2,.assign (.const (.int .i64 0)),none⟩]
instance : Live qv4 := ⟨[]⟩
def t_k18 : SC :=
 (.seq (.ops false zj0) (.seq (.seq (.ops false ziz) (.cond (.tmp 24) (.seq (.ops false ziy) .ret) .skip)) (.seq (.seq (.ops false zix) (.seq (.ops false ziw) (.cond (.tmp 35) (.seq (.ops false ziv) .ret) .skip))) (.seq (.seq (.ops false ziu) (.seq (.ops false zit) (.cond (.tmp 49) (.seq (.ops false zis) .ret) .skip))) (.seq (.seq (.ops false qv7) (.seq (.ops false qv6) (.cond (.tmp 63) (.seq (.ops false qv5) .ret) .skip))) (.seq (.ops false qv4) .ret))))))
theorem it_k18 : FnIs Tryz.prog 18 64 [.tmp 2] t_k18 := ⟨Tryz.f18, _, Tryz.func18, rfl, rfl, rfl, rfl, by kernel_rfl⟩

def zie : List SOp := [⟨some 1,.box 31 (.tmp 0),none⟩,⟨some 2,.assign (.const (.bool false)),none⟩]
instance : Live zie := ⟨[0]⟩
def zid : List SOp := [⟨some 5,.fieldAddr 31 (.tmp 1) 0,none⟩,⟨some 6,.load 22 (.tmp 5),none⟩,⟨some 7,.call ⟨.value (.func 67),#[.tmp 6],#[22]⟩,none⟩,⟨some 8,.unOp .not 4 (.tmp 7),none⟩,⟨some 9,.move (.tmp 8),none⟩,⟨some 10,.fieldAddr 31 (.tmp 1) 1,some ((some 9),false)⟩,⟨some 11,.load 26 (.tmp 10),some ((some 9),false)⟩,⟨some 12,.call ⟨.value (.func 68),#[.tmp 11],#[26]⟩,some ((some 9),false)⟩,⟨some 13,.unOp .not 4 (.tmp 12),some ((some 9),false)⟩,⟨some 14,.pick (.tmp 9) (.const (.bool true)) (.tmp 13),none⟩,⟨some 15,.move (.tmp 14),none⟩,⟨some 16,.fieldAddr 31 (.tmp 1) 2,some ((some 15),false)⟩,⟨some 17,.load 27 (.tmp 16),some ((some 15),false)⟩,⟨some 18,.call ⟨.value (.func 69),#[.tmp 17],#[27]⟩,some ((some 15),false)⟩,⟨some 19,.unOp .not 4 (.tmp 18),some ((some 15),false)⟩,⟨some 20,.pick (.tmp 15) (.const (.bool true)) (.tmp 19),none⟩]
instance : Live zid := ⟨[1]⟩
def zic : List SOp := [⟨some 2,.assign (.const (.bool false)),none⟩]
instance : Live zic := ⟨[]⟩
def zib : List SOp := [⟨some 21,.fieldAddr 31 (.tmp 1) 0,none⟩,⟨some 22,.load 22 (.tmp 21),none⟩,⟨some 23,.call ⟨.value (.func 71),#[.tmp 22,.const (.string ⟨#[]⟩),.const (.int .i64 (-1))],#[22,9,3]⟩,none⟩,⟨some 24,.fieldAddr 31 (.tmp 1) 1,none⟩,⟨some 25,.load 26 (.tmp 24),none⟩,⟨some 26,.call ⟨.value (.func 70),#[.tmp 23,.tmp 25],#[26,26]⟩,none⟩,⟨some 27,.unOp .not 4 (.tmp 26),none⟩]
instance : Live zib := ⟨[1]⟩
def zia : List SOp := [⟨some 2,.assign (.const (.bool false)),none⟩]
instance : Live zia := ⟨[]⟩
def zi9 : List SOp := [⟨some 3,.assign (.const (.int .i64 0)),none⟩]
instance : Live zi9 := ⟨[1]⟩
def zi8 : List SOp := [⟨some 28,.move (.tmp 3),none⟩,⟨some 29,.fieldAddr 31 (.tmp 1) 2,none⟩,⟨some 30,.load 27 (.tmp 29),none⟩,⟨some 31,.call ⟨.builtin .len,#[.tmp 30],#[27]⟩,none⟩,⟨some 32,.binOp .lss 3 (.tmp 28) (.tmp 31) 3,none⟩]
instance : Live zi8 := ⟨[1,3]⟩
def zi7 : List SOp := [⟨some 35,.fieldAddr 31 (.tmp 1) 2,none⟩,⟨some 36,.load 27 (.tmp 35),none⟩,⟨some 37,.move (.tmp 3),none⟩,⟨some 38,.indexAddr 27 (.tmp 36) (.tmp 37),none⟩,⟨some 39,.fieldAddr 91 (.tmp 38) 1,none⟩,⟨some 40,.load 26 (.tmp 39),none⟩,⟨some 41,.fieldAddr 31 (.tmp 1) 1,none⟩,⟨some 42,.load 26 (.tmp 41),none⟩,⟨some 43,.call ⟨.value (.func 70),#[.tmp 40,.tmp 42],#[26,26]⟩,none⟩]
instance : Live zi7 := ⟨[1,3]⟩
def zi6 : List SOp := [⟨some 2,.assign (.const (.bool false)),none⟩]
instance : Live zi6 := ⟨[]⟩
def quv : List SOp := [⟨some 4,.assign (.const (.int .i64 0)),none⟩]
instance : Live quv := ⟨[1,3]⟩
def quu : List SOp := [⟨some 44,.move (.tmp 4),none⟩,⟨some 45,.fieldAddr 31 (.tmp 1) 0,none⟩,⟨some 46,.load 22 (.tmp 45),none⟩,⟨some 47,.call ⟨.builtin .len,#[.tmp 46],#[22]⟩,none⟩,⟨some 48,.binOp .lss 3 (.tmp 44) (.tmp 47) 3,none⟩]
instance : Live quu := ⟨[1,3,4]⟩
def qut : List SOp := [⟨some 51,.fieldAddr 31 (.tmp 1) 2,none⟩,⟨some 52,.load 27 (.tmp 51),none⟩,⟨some 53,.move (.tmp 3),none⟩,⟨some 54,.indexAddr 27 (.tmp 52) (.tmp 53),none⟩,⟨some 55,.load 91 (.tmp 54),none⟩,⟨some 56,.fieldAddr 31 (.tmp 1) 0,none⟩,⟨some 57,.load 22 (.tmp 56),none⟩,⟨some 58,.move (.tmp 4),none⟩,⟨some 59,.indexAddr 22 (.tmp 57) (.tmp 58),none⟩,⟨some 60,.load 62 (.tmp 59),none⟩,⟨some 61,.call ⟨.value (.func 72),#[.tmp 55,.tmp 60],#[91,62]⟩,none⟩]
instance : Live qut := ⟨[1,3,4]⟩
def qus : List SOp := [⟨some 2,.assign (.const (.bool false)),none⟩]
instance : Live qus := ⟨[]⟩
def qur : List SOp := [⟨some 49,.move (.tmp 4),none⟩,⟨some 50,.binOp .add 3 (.tmp 49) (.const (.int .i64 1)) 3,none⟩,⟨some 4,.assign (.tmp 50),none⟩]
instance : Live qur := ⟨[1,3,4]⟩
def quq : List SOp := [⟨some 33,.move (.tmp 3),none⟩,⟨some 34,.binOp .add 3 (.tmp 33) (.const (.int .i64 1)) 3,none⟩,⟨some 3,.assign (.tmp 34),none⟩]
instance : Live quq := ⟨[1,3]⟩
def qup : List SOp := [⟨some 2,.assign (.const (.bool true)),none⟩]
instance : Live qup := ⟨[]⟩
def qsx : SC :=
 (.seq (.seq (.ops false quu) (.cond (.tmp 48) .skip (.exit 2))) (.seq (.block 3 (.seq (.ops true qut) (.cond (.tmp 61) (.seq (.ops false qus) .ret) .skip))) (.ops false qur)))
def qsy : SC :=
 (.seq (.seq (.ops false zi8) (.cond (.tmp 32) .skip (.exit 0))) (.seq (.block 1 (.seq (.seq (.ops true zi7) (.cond (.tmp 43) (.seq (.ops false zi6) .ret) .skip)) (.seq (.ops false quv) (.block 2 (.loop qsx))))) (.ops false quq)))
def t_k26 : SC :=
 (.seq (.ops false zie) (.seq (.seq (.ops false zid) (.cond (.tmp 20) (.seq (.ops false zic) .ret) .skip)) (.seq (.seq (.ops true zib) (.cond (.tmp 27) (.seq (.ops false zia) .ret) .skip)) (.seq (.seq (.ops false zi9) (.block 0 (.loop qsy))) (.seq (.ops false qup) .ret)))))
theorem it_k26 : FnIs Tryz.prog 26 62 [.tmp 2] t_k26 := ⟨Tryz.f26, _, Tryz.func26, rfl, rfl, rfl, rfl, by kernel_rfl⟩

theorem zld (s : Swt) (hw : wtS s ≤ 3000000) : Ev (En Tryz.prog rfl).P 18 [q36 s] (.ret (.int .i64 (if formS s = true then 0 else 1))) := by
 refine Ev.of_body it_k18 (by simp) (Run.start ?_)
 unfold t_k18 q36
 obtain ⟨w1, w2, w3, w4, w5⟩ := q27 hw
 have hS := qk2
 have hcs := q96 s.live s.past.vec s.past.cloud s.defer
 have e1 := q0m s.live
 have e2 := q0p s.defer
 have c1 := qpd s.live (by omega)
 have c2 := qpc s.past (by omega)
 have c3 := q35 s.defer (by omega) (fun r hr => by have := w5 r hr; omega)
 have hch := qbm (s := s)
 by_cases h1 : q7k s.live = true
 case' neg =>
  rw [if_neg h1] at c1
  rw [if_neg (fun h => h1 (hch.1 (q45.1 h)).1)]
  (have hF := @hcs; refine q01 (k:=?_); clear hF)
  refine q00 [.sl 4 (q0e s.live)] (he := c1) (k:=?_)
  (have hF := @hcs; refine q01 (k:=?_); clear hF)
  exact Fin.tmp' rfl rfl
 rw [if_pos h1] at c1
 by_cases h2 : q1g s.past = true
 case' neg =>
  rw [show q1g s.past = false by simpa using h2] at c2
  rw [if_neg (fun h => h2 (hch.1 (q45.1 h)).2.1)]
  (have hF := @hcs; refine q01 (k:=?_); clear hF)
  refine q00 [.sl 4 (q0e s.live)] (he := c1) (k:=?_)
  (have hF := @hcs; refine q01 (k:=?_); clear hF)
  refine q00 [q0h s.past] (he := c2) (k:=?_)
  (have hF := @hcs; refine q01 (k:=?_); clear hF)
  exact Fin.tmp' rfl rfl
 rw [h2] at c2
 by_cases h3 : q3m s.defer = true
 case' neg =>
  rw [if_neg h3] at c3
  rw [if_neg (fun h => h3 (hch.1 (q45.1 h)).2.2.1)]
  (have hF := @hcs; refine q01 (k:=?_); clear hF)
  refine q00 [.sl 4 (q0e s.live)] (he := c1) (k:=?_)
  (have hF := @hcs; refine q01 (k:=?_); clear hF)
  refine q00 [q0h s.past] (he := c2) (k:=?_)
  (have hF := @hcs; refine q01 (k:=?_); clear hF)
  refine q00 [.sl 3 (q09 s.defer)] (he := c3) (k:=?_)
  (have hF := @hcs; refine q01 (k:=?_); clear hF)
  exact Fin.tmp' rfl rfl
 rw [if_pos h3] at c3
 have c4 := ev_k47 s.live (by omega)
 rw [if_pos h1, if_pos h1] at c4
 have hdw := z7p s.live
 have c5 := ev_k56 (q4y s.live) s.past (by omega) (by omega)
 have c6 := ev_k57 s.defer s.past (by omega) (fun r hr => by have := w5 r hr; omega) (by omega)
 have c7 := ev_k58 s.live s.defer (by omega) (by omega)
 rw [if_pos ⟨h3, h2⟩, show qs6 s.defer s.past = q17 s.defer s.past from if_pos ⟨h3, h2⟩] at c6
 rw [if_pos ⟨h1, h3⟩, if_pos ⟨h1, h3⟩] at c7
 have e3 := q0p (q17 s.defer s.past)
 have e4 := q0m (q3j s.defer s.live)
 have b3 : (q17 s.defer s.past).length ≤ s.defer.length := List.length_filter_le _ _
 have b4 : (q3j s.defer s.live).length ≤ s.live.length := List.length_filter_le _ _
 generalize q4y s.live = d at *
 generalize q17 s.defer s.past = W at *
 generalize q3j s.defer s.live = L at *
 (have hF := @hcs; refine q01 (k:=?_); clear hF)
 refine q00 [.sl 4 (q0e s.live)] (he := c1) (k:=?_)
 (have hF := @hcs; refine q01 (k:=?_); clear hF)
 refine q00 [q0h s.past] (he := c2) (k:=?_)
 (have hF := @hcs; refine q01 (k:=?_); clear hF)
 refine q00 [.sl 3 (q09 s.defer)] (he := c3) (k:=?_)
 (have hF := @hcs; refine q01 (k:=?_); clear hF)
 refine q00 [.sl 4 (q0e s.live)] (he := c4) (k:=?_)
 unfold q0h
 (have hF := @hcs; refine q01 (k:=?_); clear hF)
 refine q00 [q0h d, q0h s.past] (he := c5) (k:=?_)
 by_cases h4 : q0n d s.past = true
 case' neg =>
  rw [if_neg (fun h => h4 (hch.1 (q45.1 h)).2.2.2.1), show q0n d s.past = false by simpa using h4]
  (have hF := @hcs; refine q01 (k:=?_); clear hF)
  exact Fin.tmp' rfl rfl
 rw [h4]
 (have hF := @hcs; refine q01 (k:=?_); clear hF)
 refine q00 [.sl 3 (q09 s.defer), q0h s.past] (he := c6) (k:=?_)
 by_cases h5 : W.length = s.defer.length
 case' neg =>
  rw [if_neg (fun h => h5 (hch.1 (q45.1 h)).2.2.2.2.1)]
  (have hF := (aI @hcs (aI @e2 @e3)); refine q01 (k:=?_); clear hF)
  all_goals first | (exfalso; omega) | exact Fin.tmp' rfl rfl
 (have hF := (aI (aI @hcs @e2) (aI @e3 @h5)); refine q01 (k:=?_); clear hF)
 refine q00 [.sl 4 (q0e s.live), .sl 3 (q09 s.defer)] (he := c7) (k:=?_)
 by_cases h6 : L.length = s.live.length
 ·rw [if_pos (q45.2 (hch.2 ⟨h1, h2, h3, h4, h5, h6⟩))]
  (have hF := (aI (aI @hcs @e1) (aI @e4 @h6)); refine q01 (k:=?_); clear hF)
  all_goals first | (exfalso; omega) | exact Fin.tmp' rfl rfl
 ·rw [if_neg (fun h => h6 (hch.1 (q45.1 h)).2.2.2.2.2)]
  (have hF := (aI @hcs (aI @e1 @e4)); refine q01 (k:=?_); clear hF)
  all_goals first | (exfalso; omega) | exact Fin.tmp' rfl rfl
theorem qbo (s : Swt) (hw : wtS s ≤ 3000000) : Ev (En Tryz.prog rfl).P 26 [q36 s] (.ret (.bool (formS s))) := by
 refine Ev.of_body it_k26 (by simp) (Run.start ?_)
 unfold t_k26 q36
 obtain ⟨w1, w2, w3, w4, w5⟩ := q27 hw
 have hS := qk2
 have hcs := q96 s.live s.past.vec s.past.cloud s.defer
 have e1 := q0m s.live
 have e2 := q0p s.defer
 have c1 := ev_k67 s.live (by omega)
 have c2 := ev_k68 s.past (by omega)
 have c3 := ev_k69 s.defer (by omega) (fun r hr => by have := w5 r hr; omega)
 have hch : formS s = true ↔ _ := q45.trans (qbm (s := s))
 have hno : ∀ {p : Prop}, (formS s = true → p) → ¬ p → formS s = false := fun h hp => by
  cases hh : formS s
  ·rfl
  ·exact absurd (h hh) hp
 cases h1 : q7k s.live
 case' false =>
  rw [h1] at c1
  rw [hno (fun h => (hch.1 h).1) (by rw [h1]; decide)]
  (have hF := @hcs; refine q01 (k:=?_); clear hF)
  refine q00 [.sl 4 (q0e s.live)] (he := c1) (k:=?_)
  (have hF := @hcs; refine q01 (k:=?_); clear hF)
  exact Fin.tmp' rfl rfl
 rw [h1] at c1
 cases h2 : q1g s.past
 case' false =>
  rw [h2] at c2
  rw [hno (fun h => (hch.1 h).2.1) (by rw [h2]; decide)]
  (have hF := @hcs; refine q01 (k:=?_); clear hF)
  refine q00 [.sl 4 (q0e s.live)] (he := c1) (k:=?_)
  (have hF := @hcs; refine q01 (k:=?_); clear hF)
  refine q00 [q0h s.past] (he := c2) (k:=?_)
  (have hF := @hcs; refine q01 (k:=?_); clear hF)
  exact Fin.tmp' rfl rfl
 rw [h2] at c2
 cases h3 : q3m s.defer
 case' false =>
  rw [h3] at c3
  rw [hno (fun h => (hch.1 h).2.2.1) (by rw [h3]; decide)]
  (have hF := @hcs; refine q01 (k:=?_); clear hF)
  refine q00 [.sl 4 (q0e s.live)] (he := c1) (k:=?_)
  (have hF := @hcs; refine q01 (k:=?_); clear hF)
  refine q00 [q0h s.past] (he := c2) (k:=?_)
  (have hF := @hcs; refine q01 (k:=?_); clear hF)
  refine q00 [.sl 3 (q09 s.defer)] (he := c3) (k:=?_)
  (have hF := @hcs; refine q01 (k:=?_); clear hF)
  exact Fin.tmp' rfl rfl
 rw [h3] at c3
 have c4 := ev_k71 s.live (by omega)
 have hdw := z7p s.live
 have c5 := ev_k70 (q4y s.live) s.past (by omega) (by omega)
 rw [qis, z78] at hch
 generalize q4y s.live = d at *
 (have hF := @hcs; refine q01 (k:=?_); clear hF)
 refine q00 [.sl 4 (q0e s.live)] (he := c1) (k:=?_)
 (have hF := @hcs; refine q01 (k:=?_); clear hF)
 refine q00 [q0h s.past] (he := c2) (k:=?_)
 (have hF := @hcs; refine q01 (k:=?_); clear hF)
 refine q00 [.sl 3 (q09 s.defer)] (he := c3) (k:=?_)
 (have hF := @hcs; refine q01 (k:=?_); clear hF)
 refine q00 [.sl 4 (q0e s.live), .str ⟨#[]⟩, .int .i64 (-1)] (he := c4) (k:=?_)
 (have hF := @hcs; refine q01 (k:=?_); clear hF)
 refine q00 [q0h d, q0h s.past] (he := c5) (k:=?_)
 by_cases h4 : q0n d s.past = true
 case' neg =>
  rw [hno (fun h => (hch.1 h).2.2.2.1) h4, show q0n d s.past = false by simpa using h4]
  (have hF := @hcs; refine q01 (k:=?_); clear hF)
  exact Fin.tmp' rfl rfl
 rw [h4]
 (have hF := @hcs; refine q01 (k:=?_); clear hF)
 refine Run.while (σ := Nat) (fun i => ⟨tms [(1, .ptr 1 0), (3, .int .i64 (i : Int))], mms [(1, .cells [.sl 4 (q0e s.live), .sl 1 (q05 s.past.vec), .sl 3 (q0c s.past.cloud), .sl 3 (q09 s.defer)])]⟩)
  (fun i => i ≤ s.defer.length ∧ ∀ (j : Nat) r, j < i → s.defer[j]? = some r → q0n r.past s.past = false ∧ ∀ e ∈ s.live, qb8 r e = false) (fun i => s.defer.length - i) 0 (have hW := (aI @q02 @q06); q0f) ⟨Nat.zero_le _, fun j r hj => absurd hj (Nat.not_lt_zero _)⟩ ?_
 rintro i ⟨hi, hI⟩
 unfold qsy
 by_cases hlt : i < s.defer.length
 ·obtain ⟨r, hr⟩ : ∃ r, s.defer[i]? = some r := ⟨s.defer[i], by simp [hlt]⟩
  have g1 := q15 hr
  have hrm := List.mem_of_getElem? hr
  have hwr := w5 r hrm
  have c6 := ev_k70 r.past s.past (by omega) (by omega)
  (have hF := (aI (aI @hcs @e1) (aI @e2 @g1)); refine q01 (k:=?_); clear hF)
  refine q00 [q0h r.past, q0h s.past] (he := c6) (k:=?_)
  cases h5 : q0n r.past s.past
  case' true =>
   rw [hno (fun h => (hch.1 h).2.2.2.2.1 r hrm) (by rw [h5]; decide)]
   (have hF := (aI (aI @hcs @e1) (aI @e2 @g1)); refine q01 (k:=?_); clear hF)
   exact Fin.tmp' rfl rfl
  (have hF := (aI (aI @hcs @e1) (aI @e2 @g1)); refine q01 (k:=?_); clear hF)
  refine Run.while (σ := Nat) (fun j => ⟨tms [(1, .ptr 1 0), (3, .int .i64 (i : Int)), (4, .int .i64 (j : Int))], mms [(1, .cells [.sl 4 (q0e s.live), .sl 1 (q05 s.past.vec), .sl 3 (q0c s.past.cloud), .sl 3 (q09 s.defer)])]⟩)
   (fun j => j ≤ s.live.length ∧ ∀ (m : Nat) e, m < j → s.live[m]? = some e → qb8 r e = false) (fun j => s.live.length - j) 0 (have hW := (aI @q02 @q06); q0f) ⟨Nat.zero_le _, fun m e hm => absurd hm (Nat.not_lt_zero _)⟩ ?_
  rintro j ⟨hj, hJ⟩
  unfold qsx
  by_cases hjl : j < s.live.length
  ·obtain ⟨e, he⟩ : ∃ e, s.live[j]? = some e := ⟨s.live[j], by simp [hjl]⟩
   have g2 := q0u he
   have c7 := ev_k72 r e (by omega)
   (have hF := (aI (aI @hcs @e1) (aI @e2 (aI @g1 @g2))); refine q01 (k:=?_); clear hF)
   refine q00 [q5n r, q93 e] (he := c7) (k:=?_)
   cases h6 : qb8 r e
   ·(have hF := (aI (aI @hcs @e1) (aI @e2 (aI @g1 @g2))); refine q01 (k:=?_); clear hF)
    (refine Fin.nextW (j + 1) ?_ (have hW := (aI @q02 @q06); q0f); (try dsimp only))
    refine ⟨⟨hjl, fun m x hm hx => ?_⟩, by omega⟩
    by_cases hmj : m = j
    ·subst hmj; rw [he] at hx; cases hx; exact h6
    ·exact hJ m x (by omega) hx
   ·rw [hno (fun h => (hch.1 h).2.2.2.2.2 e (List.mem_of_getElem? he)) (fun h => h ⟨r, hrm, h6⟩)]
    (have hF := (aI (aI @hcs @e1) (aI @e2 (aI @g1 @g2))); refine q01 (k:=?_); clear hF)
    exact Fin.tmp' rfl rfl
  ·(have hF := (aI (aI @hcs @e1) (aI @e2 @g1)); refine q01 (k:=?_); clear hF)
   (refine Fin.nextW (i + 1) ?_ (have hW := (aI @q02 @q06); q0f); (try dsimp only))
   refine ⟨⟨hlt, fun m x hm hx => ?_⟩, by omega⟩
   by_cases hmj : m = i
   ·subst hmj
    rw [hr] at hx
    cases hx
    exact ⟨h5, fun e hem => by
     obtain ⟨m, hm⟩ := List.mem_iff_getElem?.1 hem
     have : m < s.live.length := (List.getElem?_eq_some_iff.1 hm).1
     exact hJ m e (by omega) hm⟩
   ·exact hI m x (by omega) hx
 ·have hall : ∀ r ∈ s.defer, q0n r.past s.past = false ∧ ∀ e ∈ s.live, qb8 r e = false := fun r hr => by
   obtain ⟨m, hm⟩ := List.mem_iff_getElem?.1 hr
   have : m < s.defer.length := (List.getElem?_eq_some_iff.1 hm).1
   exact hI m r (by omega) hm
  rw [hch.2 ⟨h1, h2, h3, h4, fun r hr => (hall r hr).1, fun e he hc => by
   obtain ⟨r, hr, hcv⟩ := hc
   have := (hall r hr).2 e he
   rw [this] at hcv
   cases hcv⟩]
  (have hF := (aI @hcs (aI @e1 @e2)); refine q01 (k:=?_); clear hF)
  exact Fin.tmp' rfl rfl

def zin : List SOp := [⟨some 2,.box 31 (.tmp 0),none⟩,⟨some 3,.box 31 (.tmp 1),none⟩,⟨some 4,.alloc 31,none⟩,⟨some 5,.assign (.const (.int .i64 0)),none⟩]
instance : Live zin := ⟨[0,1]⟩
def zim : List SOp := [⟨some 11,.load 31 (.tmp 2),none⟩,⟨some 12,.call ⟨.value (.func 18),#[.tmp 11],#[31]⟩,none⟩,⟨some 13,.binOp .neq 32 (.tmp 12) (.const (.int .i64 0)) 32,none⟩,⟨some 14,.move (.tmp 13),none⟩,⟨some 15,.load 31 (.tmp 3),some ((some 14),false)⟩,⟨some 16,.call ⟨.value (.func 18),#[.tmp 15],#[31]⟩,some ((some 14),false)⟩,⟨some 17,.binOp .neq 32 (.tmp 16) (.const (.int .i64 0)) 32,some ((some 14),false)⟩,⟨some 18,.pick (.tmp 14) (.const (.bool true)) (.tmp 17),none⟩]
instance : Live zim := ⟨[2,3,4]⟩
def zil : List SOp := [⟨some 19,.build 31 #[],none⟩,⟨none,.store 31 (.tmp 4) (.tmp 19),none⟩,⟨some 5,.assign (.const (.int .i64 1)),none⟩]
instance : Live zil := ⟨[4]⟩
def zik : List SOp := [⟨some 21,.fieldAddr 31 (.tmp 2) 0,none⟩,⟨some 22,.load 22 (.tmp 21),none⟩,⟨some 23,.fieldAddr 31 (.tmp 2) 1,none⟩,⟨some 24,.load 26 (.tmp 23),none⟩,⟨some 25,.fieldAddr 31 (.tmp 3) 0,none⟩,⟨some 26,.load 22 (.tmp 25),none⟩,⟨some 27,.fieldAddr 31 (.tmp 3) 1,none⟩,⟨some 28,.load 26 (.tmp 27),none⟩,⟨some 29,.call ⟨.value (.func 65),#[.tmp 22,.tmp 24,.tmp 26,.tmp 28],#[22,26,22,26]⟩,none⟩,⟨some 20,.move (.tmp 29),none⟩,⟨some 30,.extract (.tmp 20) 0,none⟩,⟨some 31,.extract (.tmp 20) 1,none⟩,⟨some 6,.assign (.tmp 30),none⟩,⟨some 7,.assign (.tmp 31),none⟩]
instance : Live zik := ⟨[2,3,4]⟩
def zij : List SOp := [⟨some 32,.move (.tmp 7),none⟩,⟨some 33,.binOp .neq 32 (.tmp 32) (.const (.int .i64 0)) 32,none⟩]
instance : Live zij := ⟨[2,3,4,6,7]⟩
def zii : List SOp := [⟨some 34,.build 31 #[],none⟩,⟨some 35,.move (.tmp 7),none⟩,⟨none,.store 31 (.tmp 4) (.tmp 34),none⟩,⟨some 5,.assign (.tmp 35),none⟩]
instance : Live zii := ⟨[4,7]⟩
def zih : List SOp := [⟨some 37,.fieldAddr 31 (.tmp 2) 2,none⟩,⟨some 38,.load 27 (.tmp 37),none⟩,⟨some 39,.fieldAddr 31 (.tmp 3) 2,none⟩,⟨some 40,.load 27 (.tmp 39),none⟩,⟨some 41,.call ⟨.value (.func 66),#[.tmp 38,.tmp 40],#[27,27]⟩,none⟩,⟨some 36,.move (.tmp 41),none⟩,⟨some 42,.extract (.tmp 36) 0,none⟩,⟨some 43,.extract (.tmp 36) 1,none⟩,⟨some 8,.assign (.tmp 42),none⟩,⟨some 9,.assign (.tmp 43),none⟩]
instance : Live zih := ⟨[2,3,4,6]⟩
def zig : List SOp := [⟨some 45,.move (.tmp 6),none⟩,⟨some 46,.move (.tmp 8),none⟩,⟨some 47,.call ⟨.value (.func 58),#[.tmp 45,.tmp 46],#[22,27]⟩,none⟩,⟨some 44,.move (.tmp 47),none⟩,⟨some 48,.extract (.tmp 44) 0,none⟩,⟨some 49,.extract (.tmp 44) 1,none⟩,⟨some 6,.assign (.tmp 48),none⟩]
instance : Live zig := ⟨[2,3,4,6,8]⟩
def zif : List SOp := [⟨some 50,.fieldAddr 31 (.tmp 2) 1,none⟩,⟨some 51,.load 26 (.tmp 50),none⟩,⟨some 52,.fieldAddr 31 (.tmp 3) 1,none⟩,⟨some 53,.load 26 (.tmp 52),none⟩,⟨some 54,.buildSlice 116 2 #[(0,.tmp 51),(1,.tmp 53)],none⟩,⟨some 55,.call ⟨.value (.func 49),#[.tmp 54],#[116]⟩,none⟩,⟨some 10,.alloc 26,none⟩,⟨none,.store 26 (.tmp 10) (.tmp 55),none⟩]
instance : Live zif := ⟨[2,3,4,6,8]⟩
def qux : List SOp := [⟨some 57,.move (.tmp 8),none⟩,⟨some 58,.load 26 (.tmp 10),none⟩,⟨some 59,.call ⟨.value (.func 57),#[.tmp 57,.tmp 58],#[27,26]⟩,none⟩,⟨some 56,.move (.tmp 59),none⟩,⟨some 60,.extract (.tmp 56) 0,none⟩,⟨some 61,.extract (.tmp 56) 1,none⟩,⟨some 8,.assign (.tmp 60),none⟩]
instance : Live qux := ⟨[4,6,8,10]⟩
def quw : List SOp := [⟨some 62,.move (.tmp 6),none⟩,⟨some 63,.load 26 (.tmp 10),none⟩,⟨some 64,.move (.tmp 8),none⟩,⟨some 65,.build 31 #[(0,.tmp 62),(1,.tmp 63),(2,.tmp 64)],none⟩,⟨some 66,.call ⟨.value (.func 48),#[.tmp 65],#[31]⟩,none⟩,⟨none,.store 31 (.tmp 4) (.tmp 66),none⟩,⟨some 5,.assign (.const (.int .i64 0)),none⟩]
instance : Live quw := ⟨[4,6,8,10]⟩
def t_k25 : SC :=
 (.seq (.ops false zin) (.seq (.seq (.ops false zim) (.cond (.tmp 18) (.seq (.ops false zil) .ret) .skip)) (.seq (.ops false zik) (.seq (.seq (.ops false zij) (.cond (.tmp 33) (.seq (.ops false zii) .ret) .skip)) (.seq (.ops false zih) (.seq (.ops false zig) (.seq (.ops false zif) (.seq (.ops false qux) (.seq (.ops false quw) .ret)))))))))
theorem it_k25 : FnIs Tryz.prog 25 67 [.cell 4 31, .tmp 5] t_k25 := ⟨Tryz.f25, _, Tryz.func25, rfl, rfl, rfl, rfl, by kernel_rfl⟩

theorem q81 {a b : Swt} (ha : FormS a) (hb : FormS b) : q7m a b = errO (q21 a b) := by
 unfold q7m
 rw [if_pos ⟨ha, hb⟩]
 have := (q53 ha hb).1
 cases h : q21 a b with
 | none => rw [if_pos (this.1 h)]; rfl
 | some M => rw [if_neg (fun hc => by have := this.2 hc; rw [h] at this; cases this)]; rfl
theorem qb2 {a b : Swt} (ha : FormS a) (hb : FormS b) {M : List Ent} (hM : q21 a b = some M) : q4e a b = ⟨q3j (q4v a b) M, q1t [a.past, b.past], q17 (q4v a b) (q1t [a.past, b.past])⟩ := by
 have h0 : q7m a b = 0 := by rw [q81 ha hb, hM]; rfl
 rw [q3t h0]
 unfold q0o
 rw [hM]
 rfl
theorem qhr {s : Swt} (h : ¬ FormS s) : (if formS s = true then (0 : Int) else 1) = 1 := if_neg (fun h' => h (q45.1 h'))
theorem qe5 {s : Swt} (h : FormS s) : (if formS s = true then (0 : Int) else 1) = 0 := if_pos (q1z h)
theorem q7f (a b : Swt) (ha : wtS a ≤ 2000000) (hb : wtS b ≤ 2000000) : Ev (En Tryz.prog rfl).P 25 [q36 a, q36 b] (.ret (.tup [q36 (q4e a b), .int .i64 (q7m a b)])) := by
 refine Ev.of_body it_k25 (by simp) (AW.wkEnd (Run.start ?_))
 unfold t_k25
 obtain ⟨u1, u2, u3, u4, u5⟩ := q27 ha
 obtain ⟨w1, w2, w3, w4, w5⟩ := q27 hb
 have hS := qk2
 have hca := q96 a.live a.past.vec a.past.cloud a.defer
 have hcb := q96 b.live b.past.vec b.past.cloud b.defer
 have c1 := zld a (by omega)
 have c2 := zld b (by omega)
 unfold q36 at c1 c2 ⊢
 by_cases h1 : FormS a
 case' neg =>
  rw [qhr h1] at c1
  have he : q7m a b = 1 := if_neg (fun h => h1 h.1)
  rw [q7u (by rw [he]; decide), he]
  (have hF := (aI @hca @hcb); refine q01 (k:=?_); clear hF)
  refine q00 [_] (he := c1) (k:=?_)
  (have hF := (aI @hca @hcb); refine q01 (k:=?_); clear hF)
  exact Fin.done ⟨_, Wk.cells_nil (k := 4) rfl sub4, [q36 noS, .int .i64 1], by with_unfolding_all rfl, by simp [q0j, q66, AVal.stb], _, q3a _, rfl⟩
 rw [qe5 h1] at c1
 by_cases h2 : FormS b
 case' neg =>
  rw [qhr h2] at c2
  have he : q7m a b = 1 := if_neg (fun h => h2 h.2)
  rw [q7u (by rw [he]; decide), he]
  (have hF := (aI @hca @hcb); refine q01 (k:=?_); clear hF)
  refine q00 [_] (he := c1) (k:=?_)
  (have hF := (aI @hca @hcb); refine q01 (k:=?_); clear hF)
  refine q00 [_] (he := c2) (k:=?_)
  (have hF := (aI @hca @hcb); refine q01 (k:=?_); clear hF)
  exact Fin.done ⟨_, Wk.cells_nil (k := 4) rfl sub4, [q36 noS, .int .i64 1], by with_unfolding_all rfl, by simp [q0j, q66, AVal.stb], _, q3a _, rfl⟩
 rw [qe5 h2] at c2
 have c3 := ev_k65 a.live b.live a.past b.past (by omega) (by omega) (by omega) (by omega) ⟨q50 h1.live, q3k.2 h1.past, q50 h2.live, q3k.2 h2.past⟩
 change Ev _ _ _ (.ret (.tup [.sl 4 (q0e (qf4 (q21 a b))), .int .i64 (errO (q21 a b))])) at c3
 have hej := q81 h1 h2
 cases hM : q21 a b with
 | none =>
  rw [hM] at c3 hej
  change Ev _ _ _ (.ret (.tup [.sl 4 (q0e []), .int .i64 10])) at c3
  change q7m a b = 10 at hej
  rw [q7u (by rw [hej]; decide), hej]
  (have hF := (aI @hca @hcb); refine q01 (k:=?_); clear hF)
  refine q00 [_] (he := c1) (k:=?_)
  (have hF := (aI @hca @hcb); refine q01 (k:=?_); clear hF)
  refine q00 [_] (he := c2) (k:=?_)
  (have hF := (aI @hca @hcb); refine q01 (k:=?_); clear hF)
  refine q00 [.sl 4 (q0e a.live), q0h a.past, .sl 4 (q0e b.live), q0h b.past] (he := c3) (k:=?_)
  (have hF := (aI @hca @hcb); refine q01 (k:=?_); clear hF)
  exact Fin.done ⟨_, Wk.cells_nil (k := 4) rfl sub4, [q36 noS, .int .i64 10], by with_unfolding_all rfl, by simp [q0j, q66, AVal.stb], _, q3a _, rfl⟩
 | some M =>
  rw [hM] at c3 hej
  change Ev _ _ _ (.ret (.tup [.sl 4 (q0e M), .int .i64 0])) at c3
  change q7m a b = 0 at hej
  have hMf := qfp h1 h2 hM
  have hlM : M.length ≤ a.live.length + b.live.length := by
   have := z6z (q1b b.past) (q1b a.past) (A := a.live) (B := b.live) (a.live.length + b.live.length)
   change (qf4 (q21 a b)).length ≤ _ at this
   rw [hM] at this
   exact this
  have hRf := qft h1 h2
  have c4 := ev_k66 a.defer b.defer (by omega) (by omega) (fun r hr => by have := u5 r hr; omega) (fun r hr => by have := w5 r hr; omega)
  rw [if_pos ⟨q2m h1.defer, q2m h2.defer⟩, show zam a.defer b.defer = q4v a b from if_pos ⟨q2m h1.defer, q2m h2.defer⟩] at c4
  have hwR : q6m (q4v a b) ≤ q6m a.defer + q6m b.defer := by
   have := qgj (a.defer ++ b.defer)
   rw [qs5] at this
   exact this
  have hlR := q8b (q4v a b)
  have c5 := ev_k58 M (q4v a b) (by omega) (by omega)
  rw [if_pos ⟨q50 hMf, q2m hRf⟩, if_pos ⟨q50 hMf, q2m hRf⟩] at c5
  have c6 := ev_k49 [a.past, b.past] (show 2 ≤ 1000000000 by omega) (by simp only [List.map_cons, List.map_nil, List.sum_cons, List.sum_nil]; omega)
  have hjw := qa6 [a.past, b.past]
  simp only [List.map_cons, List.map_nil, List.sum_cons, List.sum_nil] at hjw
  have hjc : q1g (q1t [a.past, b.past]) = true := q3k.2 (q2i _)
  have c7 := ev_k57 (q4v a b) (q1t [a.past, b.past]) (by omega) (fun r hr => by have := qin hr; unfold wtK at this; omega) (by omega)
  rw [if_pos ⟨q2m hRf, hjc⟩, show qs6 (q4v a b) (q1t [a.past, b.past]) = q17 (q4v a b) (q1t [a.past, b.past]) from if_pos ⟨q2m hRf, hjc⟩] at c7
  have hje := qb2 h1 h2 hM
  have hjf := q8h h1 h2 hM
  rw [← q3t hej] at hjf
  have hwj := z79 a b
  rw [← q3t hej] at hwj
  have c8 := ev_k48 (q4e a b) (by omega) hjf.past (fun r hr => (q4t hjf.defer r hr).1)
  rw [hej]
  rw [hje] at c8 ⊢
  clear hje hjf hwj hjw
  generalize q1t [a.past, b.past] = q at *
  generalize q17 (q4v a b) q = W at *
  generalize q3j (q4v a b) M = L at *
  generalize q4v a b = R at *
  (have hF := (aI @hca @hcb); refine q01 (k:=?_); clear hF)
  refine q00 [_] (he := c1) (k:=?_)
  (have hF := (aI @hca @hcb); refine q01 (k:=?_); clear hF)
  refine q00 [_] (he := c2) (k:=?_)
  (have hF := (aI @hca @hcb); refine q01 (k:=?_); clear hF)
  refine q00 [.sl 4 (q0e a.live), q0h a.past, .sl 4 (q0e b.live), q0h b.past] (he := c3) (k:=?_)
  (have hF := (aI @hca @hcb); refine q01 (k:=?_); clear hF)
  refine q00 [.sl 3 (q09 a.defer), .sl 3 (q09 b.defer)] (he := c4) (k:=?_)
  (have hF := (aI @hca @hcb); refine q01 (k:=?_); clear hF)
  refine q00 [.sl 4 (q0e M), .sl 3 (q09 R)] (he := c5) (k:=?_)
  (have hF := (aI @hca @hcb); refine q01 (k:=?_); clear hF)
  refine q00 [.sl 2 (q1r [a.past, b.past])] (he := c6) (k:=?_)
  unfold q0h
  (have hF := (aI @hca @hcb); refine q01 (k:=?_); clear hF)
  refine q00 [.sl 3 (q09 R), q0h q] (he := c7) (k:=?_)
  (have hF := (aI @hca @hcb); refine q01 (k:=?_); clear hF)
  refine q00 [q36 ⟨L, q, W⟩] (he := c8) (k:=?_)
  unfold q36
  (have hF := (aI @hca @hcb); refine q01 (k:=?_); clear hF)
  exact Fin.done ⟨_, Wk.refl _ _, [q36 ⟨L, q, W⟩, .int .i64 0], by with_unfolding_all rfl, by simp [q0j, q66, AVal.stb], _, q3a _, rfl⟩





noncomputable def eqC {α : Type} (a b : α) : Bool := @decide (a = b) (Classical.propDecidable _)
theorem qae {α : Type} {a b : α} (h : a = b) : eqC a b = true := by classical exact decide_eq_true h
theorem q48 {α : Type} {a b : α} (h : ¬ a = b) : eqC a b = false := by classical exact decide_eq_false h
theorem qi2 {α : Type} (a : α) : eqC a a = true := qae rfl
theorem qrm {x y : Ent} (h1 : x.rep = y.rep) (h2 : x.num = y.num) (h3 : x.sku = y.sku) (h4 : x.qty = y.qty) : x = y := by
 cases x; cases y
 simp only at h1 h2 h3 h4
 rw [h1, h2, h3, h4]
theorem rec_ext {x y : Rec} (h1 : x.sku = y.sku) (h2 : x.past = y.past) : x = y := by
 cases x; cases y
 simp only at h1 h2
 rw [h1, h2]
theorem zkr {α : Type} {a b : List α} {i : Nat} {x y : α} (hx : a[i]? = some x) (hy : b[i]? = some y) (h : ¬ x = y) : ¬ a = b := fun e => by
 rw [e, hy] at hx
 exact h (Option.some.inj hx).symm
theorem qk4 (p q : Pst) : qqs p q = eqC p q := by
 by_cases h : p = q
 ·rw [qae h, h]; exact qau ⟨rfl, rfl⟩
 ·rw [q48 h]
  refine q59 fun ⟨h1, h2⟩ => h ?_
  cases p; cases q
  simp only at h1 h2
  rw [h1, h2]
theorem q6j (a b : Swt) (ha : wtS a ≤ 100000000) (hb : wtS b ≤ 100000000) : Ev (En Tryz.prog rfl).P 15 [q36 a, q36 b] (.ret (.bool (eqC a b))) := by
 refine Ev.of_body it_k15 (by simp) (Run.start ?_)
 unfold t_k15 q36
 obtain ⟨u1, u2, u3, u4, u5⟩ := q27 ha
 obtain ⟨w1, w2, w3, w4, w5⟩ := q27 hb
 have u6 := u2
 unfold wt at u6
 have hS := qk2
 have hca := q96 a.live a.past.vec a.past.cloud a.defer
 have hcb := q96 b.live b.past.vec b.past.cloud b.defer
 have e1 := q0m a.live
 have e2 := q0p a.defer
 have e3 := q0m b.live
 have e4 := q0p b.defer
 have c1 := zla a.past b.past (by omega) (by omega)
 rw [qk4] at c1
 by_cases h1 : a.live.length = b.live.length
 case' neg =>
  rw [q48 fun h => h1 (by rw [h])]
  (have hF := (aI (aI @hca (aI @hcb @e1)) (aI @e2 (aI @e3 @e4))); refine q01 (k:=?_); clear hF)
  all_goals first | (exfalso; omega) | exact Fin.tmp' rfl rfl
 by_cases h2 : a.past = b.past
 case' neg =>
  rw [q48 h2] at c1
  rw [q48 fun h => h2 (by rw [h])]
  (have hF := (aI (aI @hca (aI @hcb @e1)) (aI (aI @e2 @e3) (aI @e4 @h1))); refine q01 (k:=?_); clear hF)
  refine q00 [q0h a.past, q0h b.past] (he := c1) (k:=?_)
  (have hF := (aI (aI @hca (aI @hcb @e1)) (aI (aI @e2 @e3) (aI @e4 @h1))); refine q01 (k:=?_); clear hF)
  exact Fin.tmp' rfl rfl
 rw [qae h2] at c1
 by_cases h3 : a.defer.length = b.defer.length
 case' neg =>
  rw [q48 fun h => h3 (by rw [h])]
  (have hF := (aI (aI @hca (aI @hcb @e1)) (aI (aI @e2 @e3) (aI @e4 @h1))); refine q01 (k:=?_); clear hF)
  refine q00 [q0h a.past, q0h b.past] (he := c1) (k:=?_)
  (have hF := (aI (aI @hca (aI @hcb @e1)) (aI (aI @e2 @e3) (aI @e4 @h1))); refine q01 (k:=?_); clear hF)
  all_goals first | (exfalso; omega) | exact Fin.tmp' rfl rfl
 (have hF := (aI (aI @hca (aI @hcb @e1)) (aI (aI @e2 @e3) (aI @e4 @h1))); refine q01 (k:=?_); clear hF)
 refine q00 [q0h a.past, q0h b.past] (he := c1) (k:=?_)
 (have hF := (aI (aI (aI @hca @hcb) (aI @e1 @e2)) (aI (aI @e3 @e4) (aI @h1 @h3))); refine q01 (k:=?_); clear hF)
 refine Run.while (σ := Nat) (fun i => ⟨tms [(2, .ptr 2 0), (3, .ptr 3 0), (5, .int .i64 (i : Int))], mms [(2, .cells [.sl 4 (q0e a.live), .sl 1 (q05 a.past.vec), .sl 3 (q0c a.past.cloud), .sl 3 (q09 a.defer)]), (3, .cells [.sl 4 (q0e b.live), .sl 1 (q05 b.past.vec), .sl 3 (q0c b.past.cloud), .sl 3 (q09 b.defer)])]⟩)
  (fun i => i ≤ b.live.length ∧ ∀ j, j < i → a.live[j]? = b.live[j]?) (fun i => b.live.length - i) 0 (have hW := (aI @q02 @q06); q0f) ⟨Nat.zero_le _, fun j hj => absurd hj (Nat.not_lt_zero _)⟩ ?_
 rintro i ⟨hi, hp⟩
 unfold qt0
 by_cases hlt : i < b.live.length
 ·obtain ⟨x, hx⟩ : ∃ x, a.live[i]? = some x := ⟨a.live[i]'(by omega), by simp [show i < a.live.length by omega]⟩
  obtain ⟨y, hy⟩ : ∃ y, b.live[i]? = some y := ⟨b.live[i], by simp [hlt]⟩
  have g1 := q0u hx
  have g2 := q0u hy
  by_cases he : x = y
  ·have hs := q9n hp (hx.trans ((congrArg some he).trans hy.symm))
   subst he
   (have hF := (aI (aI (aI @hca @hcb) (aI @e1 (aI @e2 @e3))) (aI (aI @e4 @h1) (aI @h3 (aI @g1 @g2)))); refine q01 (k:=?_); clear hF)
   (refine Fin.nextW (i + 1) ?_ (have hW := (aI @q02 @q06); q0f); (try dsimp only))
   exact ⟨⟨hlt, hs⟩, by omega⟩
  ·rw [q48 (fun h => zkr hx hy he (by rw [h]))]
   by_cases r1 : x.rep = y.rep
   ·by_cases r2 : x.num = y.num
    ·by_cases r3 : x.sku = y.sku
     ·have r4 : ¬ x.qty = y.qty := fun h => he (qrm r1 r2 r3 h)
      (have hF := (aI (aI (aI @hca (aI @hcb @e1)) (aI (aI @e2 @e3) (aI @e4 @h1))) (aI (aI @h3 (aI @g1 @g2)) (aI (aI @r1 @r2) (aI @r3 @r4)))); refine q01 (k:=?_); clear hF)
      exact Fin.tmp' rfl rfl
     ·(have hF := (aI (aI (aI @hca (aI @hcb @e1)) (aI @e2 (aI @e3 @e4))) (aI (aI @h1 (aI @h3 @g1)) (aI (aI @g2 @r1) (aI @r2 @r3)))); refine q01 (k:=?_); clear hF)
      exact Fin.tmp' rfl rfl
    ·(have hF := (aI (aI (aI @hca (aI @hcb @e1)) (aI @e2 (aI @e3 @e4))) (aI (aI @h1 (aI @h3 @g1)) (aI @g2 (aI @r1 @r2)))); refine q01 (k:=?_); clear hF)
     exact Fin.tmp' rfl rfl
   ·(have hF := (aI (aI (aI @hca @hcb) (aI @e1 (aI @e2 @e3))) (aI (aI @e4 (aI @h1 @h3)) (aI @g1 (aI @g2 @r1)))); refine q01 (k:=?_); clear hF)
    exact Fin.tmp' rfl rfl
 ·have hle : a.live = b.live := q4x (by omega) fun j hj => hp j (by omega)
  (have hF := (aI (aI @hca (aI @hcb @e1)) (aI (aI @e2 @e3) (aI @e4 @h1))); refine q01 (k:=?_); clear hF)
  clear hi hlt hp
  refine Run.while (σ := Nat) (fun i => ⟨tms [(2, .ptr 2 0), (3, .ptr 3 0), (6, .int .i64 (i : Int))], mms [(2, .cells [.sl 4 (q0e a.live), .sl 1 (q05 a.past.vec), .sl 3 (q0c a.past.cloud), .sl 3 (q09 a.defer)]), (3, .cells [.sl 4 (q0e b.live), .sl 1 (q05 b.past.vec), .sl 3 (q0c b.past.cloud), .sl 3 (q09 b.defer)])]⟩)
   (fun i => i ≤ b.defer.length ∧ ∀ j, j < i → a.defer[j]? = b.defer[j]?) (fun i => b.defer.length - i) 0 (have hW := (aI @q02 @q06); q0f) ⟨Nat.zero_le _, fun j hj => absurd hj (Nat.not_lt_zero _)⟩ ?_
  rintro i ⟨hi, hp⟩
  unfold qsz
  by_cases hlt : i < b.defer.length
  ·obtain ⟨x, hx⟩ : ∃ x, a.defer[i]? = some x := ⟨a.defer[i]'(by omega), by simp [show i < a.defer.length by omega]⟩
   obtain ⟨y, hy⟩ : ∃ y, b.defer[i]? = some y := ⟨b.defer[i], by simp [hlt]⟩
   have g1 := q15 hx
   have g2 := q15 hy
   have hwr := u5 x (List.mem_of_getElem? hx)
   unfold wt at hwr
   have c2 := zla x.past y.past (by omega) (by omega)
   rw [qk4] at c2
   by_cases r1 : x.sku = y.sku
   ·by_cases r2 : x.past = y.past
    ·rw [qae r2] at c2
     have hs := q9n hp (hx.trans ((congrArg some (rec_ext r1 r2)).trans hy.symm))
     (have hF := (aI (aI (aI @hca @hcb) (aI @e1 (aI @e2 @e3))) (aI (aI @e4 (aI @h1 @h3)) (aI @g1 (aI @g2 @r1)))); refine q01 (k:=?_); clear hF)
     refine q00 [q0h x.past, q0h y.past] (he := c2) (k:=?_)
     (have hF := (aI (aI (aI @hca @hcb) (aI @e1 (aI @e2 @e3))) (aI (aI @e4 (aI @h1 @h3)) (aI @g1 (aI @g2 @r1)))); refine q01 (k:=?_); clear hF)
     (refine Fin.nextW (i + 1) ?_ (have hW := (aI @q02 @q06); q0f); (try dsimp only))
     exact ⟨⟨hlt, hs⟩, by omega⟩
    ·rw [q48 r2] at c2
     rw [q48 (fun h => zkr hx hy (fun h => r2 (by rw [h])) (by rw [h]))]
     (have hF := (aI (aI (aI @hca @hcb) (aI @e1 (aI @e2 @e3))) (aI (aI @e4 (aI @h1 @h3)) (aI @g1 (aI @g2 @r1)))); refine q01 (k:=?_); clear hF)
     refine q00 [q0h x.past, q0h y.past] (he := c2) (k:=?_)
     (have hF := (aI (aI (aI @hca @hcb) (aI @e1 (aI @e2 @e3))) (aI (aI @e4 (aI @h1 @h3)) (aI @g1 (aI @g2 @r1)))); refine q01 (k:=?_); clear hF)
     exact Fin.tmp' rfl rfl
   ·rw [q48 (fun h => zkr hx hy (fun h => r1 (by rw [h])) (by rw [h]))]
    (have hF := (aI (aI (aI @hca @hcb) (aI @e1 (aI @e2 @e3))) (aI (aI @e4 (aI @h1 @h3)) (aI @g1 (aI @g2 @r1)))); refine q01 (k:=?_); clear hF)
    exact Fin.tmp' rfl rfl
  ·rw [qae (qqk hle h2 (q4x (by omega) fun j hj => hp j (by omega)))]
   (have hF := (aI (aI (aI @hca @hcb) (aI @e1 @e2)) (aI (aI @e3 @e4) (aI @h1 @h3))); refine q01 (k:=?_); clear hF)
   exact Fin.tmp' rfl rfl




theorem zlx {α : Type} {l : List α} {i : Nat} {a : α} (h : l[i]? = some a) : l.drop i = a :: l.drop (i + 1) := by
 obtain ⟨h1, h2⟩ := List.getElem?_eq_some_iff.1 h
 rw [List.drop_eq_getElem_cons h1, h2]
structure MgR where
 i : Nat
 j : Nat
 out : List Rec




theorem qa8 {a b : Swt} (h : ¬ q7m a b = 0) : q4e a b = noS := if_neg h

def zji : List SOp := [⟨some 0,.alloc 31,none⟩]
instance : Live zji := ⟨[]⟩
def zjh : List SOp := [⟨some 1,.build 41 #[(0,.const (.int .i64 0)),(1,.const (.int .i64 1))],none⟩,⟨some 2,.build 62 #[(0,.tmp 1),(1,.const (.string ⟨#[65]⟩)),(2,.const (.int .i64 5))],none⟩,⟨some 3,.buildSlice 22 1 #[(0,.tmp 2)],none⟩,⟨some 4,.buildSlice 23 1 #[(0,.const (.int .i64 1))],none⟩,⟨some 5,.build 26 #[(0,.tmp 4)],none⟩,⟨some 6,.build 31 #[(0,.tmp 3),(1,.tmp 5)],none⟩,⟨none,.store 31 (.tmp 0) (.tmp 6),none⟩]
instance : Live zjh := ⟨[0]⟩
def t_k14 : SC :=
 (.seq (.ops false zji) (.seq (.ops false zjh) .ret))
theorem it_k14 : FnIs Tryz.prog 14 7 [.cell 0 31] t_k14 := ⟨Tryz.f14, _, Tryz.func14, rfl, rfl, rfl, rfl, by kernel_rfl⟩


def a1E : Ent := ⟨0, 1, sA, 5⟩
def a1P : Pst := ⟨[1], []⟩
def a1S : Swt := ⟨[a1E], a1P, []⟩
theorem a1rows : (ofT [(0, 1)]).map q10 = [[(1, 1)], [], [], [], [], [], [], [], [], [], [], [], [], [], [], []] := by
 have h : ofT [(0, 1)] = [[(1, 1)], [], [], [], [], [], [], [], [], [], [], [], [], [], [], []] := by decide
 rw [h]
 have n0 : q10 [] = [] := q4s Can.nil
 have n1 : q10 [(1, 1)] = [(1, 1)] := (qbl (c := [(1, 1)]) (by decide) (by simp)).trans (by decide)
 simp only [List.map_cons, List.map_nil, n0, n1]
theorem a1rows2 : (q0k [a1P, ⟨[], []⟩]).map q10 = [[(1, 1)], [], [], [], [], [], [], [], [], [], [], [], [], [], [], []] := by
 have h : q0k [a1P, ⟨[], []⟩] = [[(1, 1)], [], [], [], [], [], [], [], [], [], [], [], [], [], [], []] := by decide
 rw [h]
 have n0 : q10 [] = [] := q4s Can.nil
 have n1 : q10 [(1, 1)] = [(1, 1)] := (qbl (c := [(1, 1)]) (by decide) (by simp)).trans (by decide)
 simp only [List.map_cons, List.map_nil, n0, n1]
theorem a1dots : q4y [a1E] = a1P := by
 show ofP [(0, 1)] = a1P
 unfold ofP
 rw [qdj, a1rows]
 rfl
theorem a1join : q1t [a1P, ⟨[], []⟩] = a1P := by
 unfold q1t
 rw [qdj, a1rows2]
 rfl
theorem canP_nil : CanP ⟨[], []⟩ := by
 unfold CanP q1a
 rw [qdj, rows0]
 rfl
theorem a1ent : q25 a1E = 0 := by unfold q25; simp [a1E, good_A]
theorem a1form : q6z [a1E] := ⟨fun i e h => by
 match i with
 | 0 => simp at h; subst h; exact a1ent
 | i + 1 => simp at h, fun i a b h h' => by simp at h'⟩
theorem qe7 : q3y [] := ⟨fun i r h => by simp at h, fun i a b h => by simp at h⟩
theorem a1sub : qt2 [.sl 4 (q0e [a1E]), .sl 1 (q05 [1]), .nil, .nil] [.sl 4 (q0e [a1E]), .sl 1 (q05 [1]), .sl 3 [], .sl 3 []] := ⟨.inl rfl, .inl rfl, .inr ⟨rfl, 3, rfl⟩, .inr ⟨rfl, 3, rfl⟩, trivial⟩
theorem ev_k14 : Ev (En Tryz.prog rfl).P 14 [] (.ret (q36 a1S)) := by
 refine Ev.of_body it_k14 (by simp) (AW.wkEnd (Run.start ?_))
 unfold t_k14
 (have hF := True.intro; refine q01 (k:=?_); clear hF)
 exact Fin.done ⟨_, Wk.cells_nil (k := 0) rfl a1sub, [q36 a1S], by with_unfolding_all rfl, by simp [q0j, q66], _, q3a _, rfl⟩





def zhn : List SOp := [⟨some 0,.alloc 31,none⟩]
instance : Live zhn := ⟨[]⟩
def zhm : List SOp := [⟨some 1,.buildSlice 23 1 #[(0,.const (.int .i64 1))],none⟩,⟨some 2,.build 26 #[(0,.tmp 1)],none⟩,⟨some 3,.build 31 #[(1,.tmp 2)],none⟩,⟨none,.store 31 (.tmp 0) (.tmp 3),none⟩]
instance : Live zhm := ⟨[0]⟩
def t_k34 : SC :=
 (.seq (.ops false zhn) (.seq (.ops false zhm) .ret))
theorem it_k34 : FnIs Tryz.prog 34 4 [.cell 0 31] t_k34 := ⟨Tryz.f34, _, Tryz.func34, rfl, rfl, rfl, rfl, by kernel_rfl⟩

def zir : List SOp := [⟨some 0,.assign (.const (.bool false)),none⟩]
instance : Live zir := ⟨[]⟩
def ziq : List SOp := [⟨some 6,.call ⟨.value (.func 14),#[],#[]⟩,none⟩,⟨some 7,.call ⟨.value (.func 34),#[],#[]⟩,none⟩,⟨some 8,.call ⟨.value (.func 25),#[.tmp 6,.tmp 7],#[31,31]⟩,none⟩,⟨some 5,.move (.tmp 8),none⟩,⟨some 9,.extract (.tmp 5) 0,none⟩,⟨some 10,.extract (.tmp 5) 1,none⟩,⟨some 1,.alloc 31,none⟩,⟨none,.store 31 (.tmp 1) (.tmp 9),none⟩,⟨some 2,.assign (.tmp 10),none⟩]
instance : Live ziq := ⟨[]⟩
def zip : List SOp := [⟨some 12,.call ⟨.value (.func 14),#[],#[]⟩,none⟩,⟨some 13,.build 31 #[],none⟩,⟨some 14,.call ⟨.value (.func 25),#[.tmp 12,.tmp 13],#[31,31]⟩,none⟩,⟨some 11,.move (.tmp 14),none⟩,⟨some 15,.extract (.tmp 11) 0,none⟩,⟨some 16,.extract (.tmp 11) 1,none⟩,⟨some 3,.alloc 31,none⟩,⟨none,.store 31 (.tmp 3) (.tmp 15),none⟩,⟨some 4,.assign (.tmp 16),none⟩]
instance : Live zip := ⟨[1,2]⟩
def zio : List SOp := [⟨some 17,.move (.tmp 2),none⟩,⟨some 18,.binOp .eql 32 (.tmp 17) (.const (.int .i64 0)) 32,none⟩,⟨some 19,.move (.tmp 18),none⟩,⟨some 20,.move (.tmp 4),some ((some 19),true)⟩,⟨some 21,.binOp .eql 32 (.tmp 20) (.const (.int .i64 0)) 32,some ((some 19),true)⟩,⟨some 22,.pick (.tmp 19) (.tmp 21) (.const (.bool false)),none⟩,⟨some 23,.move (.tmp 22),none⟩,⟨some 24,.fieldAddr 31 (.tmp 1) 0,some ((some 23),true)⟩,⟨some 25,.load 22 (.tmp 24),some ((some 23),true)⟩,⟨some 26,.call ⟨.builtin .len,#[.tmp 25],#[22]⟩,some ((some 23),true)⟩,⟨some 27,.binOp .eql 3 (.tmp 26) (.const (.int .i64 0)) 3,some ((some 23),true)⟩,⟨some 28,.pick (.tmp 23) (.tmp 27) (.const (.bool false)),none⟩,⟨some 29,.move (.tmp 28),none⟩,⟨some 30,.fieldAddr 31 (.tmp 1) 1,some ((some 29),true)⟩,⟨some 31,.fieldAddr 26 (.tmp 30) 0,some ((some 29),true)⟩,⟨some 32,.load 23 (.tmp 31),some ((some 29),true)⟩,⟨some 33,.call ⟨.builtin .len,#[.tmp 32],#[23]⟩,some ((some 29),true)⟩,⟨some 34,.binOp .eql 3 (.tmp 33) (.const (.int .i64 1)) 3,some ((some 29),true)⟩,⟨some 35,.pick (.tmp 29) (.tmp 34) (.const (.bool false)),none⟩,⟨some 36,.move (.tmp 35),none⟩,⟨some 37,.fieldAddr 31 (.tmp 3) 0,some ((some 36),true)⟩,⟨some 38,.load 22 (.tmp 37),some ((some 36),true)⟩,⟨some 39,.call ⟨.builtin .len,#[.tmp 38],#[22]⟩,some ((some 36),true)⟩,⟨some 40,.binOp .eql 3 (.tmp 39) (.const (.int .i64 1)) 3,some ((some 36),true)⟩,⟨some 41,.pick (.tmp 36) (.tmp 40) (.const (.bool false)),none⟩,⟨some 42,.move (.tmp 41),none⟩,⟨some 43,.fieldAddr 31 (.tmp 3) 0,some ((some 42),true)⟩,⟨some 44,.load 22 (.tmp 43),some ((some 42),true)⟩,⟨some 45,.indexAddr 22 (.tmp 44) (.const (.int .i64 0)),some ((some 42),true)⟩,⟨some 46,.fieldAddr 62 (.tmp 45) 2,some ((some 42),true)⟩,⟨some 47,.load 3 (.tmp 46),some ((some 42),true)⟩,⟨some 48,.binOp .eql 3 (.tmp 47) (.const (.int .i64 5)) 3,some ((some 42),true)⟩,⟨some 49,.pick (.tmp 42) (.tmp 48) (.const (.bool false)),none⟩,⟨some 0,.assign (.tmp 49),none⟩]
instance : Live zio := ⟨[1,2,3,4]⟩
def t_k24 : SC :=
 (.seq (.ops false zir) (.seq (.ops false ziq) (.seq (.ops false zip) (.seq (.ops false zio) .ret))))
theorem it_k24 : FnIs Tryz.prog 24 50 [.tmp 0] t_k24 := ⟨Tryz.f24, _, Tryz.func24, rfl, rfl, rfl, rfl, by kernel_rfl⟩


theorem qa7 (a b : Swt) : wtS (q4e a b) ≤ 16 + wtS a + wtS b := by
 by_cases h : q7m a b = 0
 ·rw [q3t h]; exact z79 a b
 ·rw [qa8 h]
  exact Nat.zero_le _

def qp2 : Swt := ⟨[], a1P, []⟩
theorem qs0 : CanP a1P := by rw [← a1join]; exact q2i _
theorem qfb (p : Pst) : q0n (q4y []) p = true := q3n.2 fun d hd => by
 rw [q44 (by simp)] at hd
 obtain ⟨e, he, _⟩ := hd
 cases he
theorem qp4 : q6z [] := ⟨fun i e h => by simp at h, fun i a b h => by simp at h⟩
theorem qcg : FormS a1S := ⟨a1form, qs0, qe7, by
 show q0n (q4y [a1E]) a1P = true
 rw [a1dots]
 exact qqf _, fun r hr => (nomatch hr), fun e _ ⟨r, hr, _⟩ => (nomatch hr)⟩
theorem qfu : FormS qp2 := ⟨qp4, qs0, qe7, qfb _, fun r hr => (nomatch hr), fun e he => (nomatch he)⟩
theorem q76 : FormS noS := ⟨qp4, canP_nil, qe7, qfb _, fun r hr => (nomatch hr), fun e he => (nomatch he)⟩
theorem a1has : q1c a1P a1E.dot = true := by
 rw [← a1dots, q44 (fun e he => by simp at he; subst he; exact a1ent)]
 exact ⟨a1E, by simp, rfl⟩
theorem qqx (d : Rn) : q1c ⟨[], []⟩ d = false := by
 have h : q1c ⟨[], []⟩ d = true → False := fun h => by
  have := z7d h
  have := kpe_size
  omega
 cases hh : q1c ⟨[], []⟩ d
 ·rfl
 ·exact (h hh).elim
theorem z71 : q21 a1S qp2 = some [] := by
 have hk : q1b a1P a1E = false := by unfold q1b; rw [a1has]; rfl
 show (q7l (q1b a1P) (q1b a1P) 0 [] []).map (qh9 (q1b a1P a1E) a1E ++ ·) = some []
 rw [hk]
 rfl
theorem mrg_no : q21 a1S noS = some [a1E] := by
 have hk : q1b ⟨[], []⟩ a1E = true := by unfold q1b; rw [qqx]; rfl
 show (q7l (q1b ⟨[], []⟩) (q1b a1P) 0 [] []).map (qh9 (q1b ⟨[], []⟩ a1E) a1E ++ ·) = some [a1E]
 rw [hk]
 rfl
theorem join_a1 : q1t [a1P, a1P] = a1P := qe4 (q2i _) qs0 fun d => by rw [q4m, Bool.or_self]
theorem err_gone : q7m a1S qp2 = 0 := by rw [q81 qcg qfu, z71]; rfl
theorem err_no : q7m a1S noS = 0 := by rw [q81 qcg q76, mrg_no]; rfl
theorem qr7 : q4e a1S qp2 = ⟨[], a1P, []⟩ := by
 rw [qb2 qcg qfu z71]
 show Swt.mk (q3j (q9i []) []) (q1t [a1P, a1P]) (q17 (q9i []) _) = _
 rw [join_a1]
 rfl
theorem zkc : q4e a1S noS = ⟨[a1E], a1P, []⟩ := by
 rw [qb2 qcg q76 mrg_no]
 show Swt.mk (q3j (q9i []) [a1E]) (q1t [a1P, ⟨[], []⟩]) (q17 (q9i []) _) = _
 rw [a1join]
 rfl
theorem ev_k34 : Ev (En Tryz.prog rfl).P 34 [] (.ret (q36 qp2)) := by
 refine Ev.of_body it_k34 (by simp) (AW.wkEnd (Run.start ?_))
 unfold t_k34
 (have hF := True.intro; refine q01 (k:=?_); clear hF)
 exact Fin.done ⟨_, Wk.cells_nil (k := 0) rfl (show qt2 [.nil, .sl 1 (q05 [1]), .nil, .nil] [.sl 4 (q0e []), .sl 1 (q05 [1]), .sl 3 [], .sl 3 []] from ⟨.inr ⟨rfl, 4, rfl⟩, .inl rfl, .inr ⟨rfl, 3, rfl⟩, .inr ⟨rfl, 3, rfl⟩, trivial⟩), [q36 qp2], by with_unfolding_all rfl, by simp [q0j, q66], _, q3a _, rfl⟩
theorem q5k : Ev (En Tryz.prog rfl).P 24 [] (.ret (.bool true)) := by
 refine Ev.of_body it_k24 (by simp) (Run.start ?_)
 unfold t_k24
 have hS := qk2
 have c1 := q7f a1S qp2 (by decide) (by decide)
 rw [qr7, err_gone] at c1
 have c2 := q7f a1S noS (by decide) (by decide)
 rw [zkc, err_no] at c2
 replace c2 : Ev (En Tryz.prog rfl).P 25 [q36 a1S, .agg [.nil, .nil, .nil, .nil]] _ := c2.wks ⟨Wkn.refl _, Wkn.agg ⟨Wkn.nil 4, Wkn.nil 1, Wkn.nil 3, Wkn.nil 3, trivial⟩, trivial⟩
 have c3 := ev_k14
 have c4 := ev_k34
 have l0 : (q0e []).length = 0 := rfl
 have l1 : (q0e [a1E]).length = 1 := rfl
 have l2 : (q05 a1P.vec).length = 1 := rfl
 have g1 : (q0e [a1E])[0]? = some (.agg [.int .i64 0, .int .i64 1, .str sA, .int .i64 5]) := rfl
 (have hF := True.intro; refine q01 (k:=?_); clear hF)
 refine q00 [] (he := c3) (k:=?_)
 (have hF := True.intro; refine q01 (k:=?_); clear hF)
 refine q00 [] (he := c4) (k:=?_)
 (have hF := True.intro; refine q01 (k:=?_); clear hF)
 refine q00 [q36 a1S, q36 qp2] (he := c1) (k:=?_)
 (have hF := True.intro; refine q01 (k:=?_); clear hF)
 refine q00 [] (he := c3) (k:=?_)
 (have hF := True.intro; refine q01 (k:=?_); clear hF)
 refine q00 [q36 a1S, .agg [.nil, .nil, .nil, .nil]] (he := c2) (k:=?_)
 unfold q36
 (have hF := (aI (aI @l0 @l1) (aI @l2 @g1)); refine q01 (k:=?_); clear hF)
 exact Fin.tmp' rfl rfl
theorem z9y : Tryz.prog.cellsOf 31 = 4 := by kernel_rfl
def cellsS (s : Swt) : List AVal := [.sl 4 (q0e s.live), .sl 1 (q05 s.past.vec), .sl 3 (q0c s.past.cloud), .sl 3 (q09 s.defer)]
theorem q9b : Opens Tryz.prog 31 Swt (fun s => okP s.past) cellsS wtS :=
 (Opens.struct Tryz.underlying31 z9y (OpensF.cons (k := 1) op_ents (fun _ => rfl) z9x rfl (OpensF.cons (k := 2) zjr (fun _ => rfl) qbb rfl (OpensF.cons (k := 1) op_recs (fun _ => rfl) z9v rfl (OpensF.nil _))))).map
  (fun x => ⟨x.1, x.2.1, x.2.2.1⟩) (fun x h => h.2.1) (fun _ => rfl)
  (fun x => by
   show x.1.length + wt x.2.1 + q6m x.2.2.1 ≤ wtL (fun _ => 1) x.1 + (wt x.2.1 + ((q6m x.2.2.1 + 1) + 0)) + 1
   rw [qqc]; omega)

def zgn : List SOp := [⟨some 3,.box 41 (.tmp 1),none⟩,⟨some 4,.alloc 62,none⟩,⟨some 5,.assign (.const (.bool false)),none⟩]
instance : Live zgn := ⟨[0,1]⟩
def zgm : List SOp := [⟨some 8,.move (.tmp 0),none⟩,⟨some 9,.call ⟨.builtin .len,#[.tmp 8],#[22]⟩,none⟩,⟨some 10,.move (.const (.int .i64 0)),none⟩]
instance : Live zgm := ⟨[0,3,4]⟩
def zgl : List SOp := [⟨some 11,.binOp .lss 3 (.tmp 10) (.tmp 9) 3,none⟩]
instance : Live zgl := ⟨[3,4,8,9,10]⟩
def zgk : List SOp := [⟨some 12,.indexAddr 22 (.tmp 8) (.tmp 10),none⟩,⟨some 13,.load 62 (.tmp 12),none⟩,⟨some 7,.alloc 62,none⟩,⟨none,.store 62 (.tmp 7) (.tmp 13),none⟩]
instance : Live zgk := ⟨[3,4,8,9,10]⟩
def zgj : List SOp := [⟨some 14,.fieldAddr 62 (.tmp 7) 0,none⟩,⟨some 15,.load 41 (.tmp 14),none⟩,⟨some 16,.load 41 (.tmp 3),none⟩,⟨some 17,.binOp .eql 41 (.tmp 15) (.tmp 16) 41,none⟩]
instance : Live zgj := ⟨[3,4,7,8,9,10]⟩
def zgi : List SOp := [⟨some 18,.load 62 (.tmp 7),none⟩,⟨none,.store 62 (.tmp 4) (.tmp 18),none⟩,⟨some 5,.assign (.const (.bool true)),none⟩]
instance : Live zgi := ⟨[4,7]⟩
def zgh : List SOp := [⟨some 19,.binOp .add 3 (.tmp 10) (.const (.int .i64 1)) 3,none⟩,⟨some 10,.move (.tmp 19),none⟩]
instance : Live zgh := ⟨[3,4,8,9,10]⟩
def zgg : List SOp := [⟨some 20,.build 62 #[],none⟩,⟨none,.store 62 (.tmp 4) (.tmp 20),none⟩,⟨some 5,.assign (.const (.bool false)),none⟩]
instance : Live zgg := ⟨[4]⟩
def qsq : SC :=
 (.seq (.ops false zgl) (.seq (.cond (.tmp 11) .skip (.exit 0)) (.seq (.block 1 (.seq (.ops false zgk) (.seq (.ops false zgj) (.cond (.tmp 17) (.seq (.ops false zgi) .ret) .skip)))) (.ops false zgh))))
def t_k52 : SC :=
 (.seq (.ops false zgn) (.seq (.seq (.ops false zgm) (.block 0 (.loop qsq))) (.seq (.ops false zgg) .ret)))
theorem it_k52 : FnIs Tryz.prog 52 21 [.cell 4 62, .tmp 5] t_k52 := ⟨Tryz.f52, _, Tryz.func52, rfl, rfl, rfl, rfl, by kernel_rfl⟩

def zj7 : List SOp := [⟨some 2,.box 31 (.tmp 0),none⟩,⟨some 3,.box 41 (.tmp 1),none⟩,⟨some 4,.assign (.const (.int .i64 0)),none⟩]
instance : Live zj7 := ⟨[0,1]⟩
def zj6 : List SOp := [⟨some 7,.load 31 (.tmp 2),none⟩,⟨some 8,.call ⟨.value (.func 18),#[.tmp 7],#[31]⟩,none⟩,⟨some 9,.binOp .neq 32 (.tmp 8) (.const (.int .i64 0)) 32,none⟩,⟨some 10,.move (.tmp 9),none⟩,⟨some 11,.fieldAddr 31 (.tmp 2) 1,some ((some 10),false)⟩,⟨some 12,.load 26 (.tmp 11),some ((some 10),false)⟩,⟨some 13,.load 41 (.tmp 3),some ((some 10),false)⟩,⟨some 14,.call ⟨.value (.func 51),#[.tmp 12,.tmp 13],#[26,41]⟩,some ((some 10),false)⟩,⟨some 15,.unOp .not 4 (.tmp 14),some ((some 10),false)⟩,⟨some 16,.pick (.tmp 10) (.const (.bool true)) (.tmp 15),none⟩]
instance : Live zj6 := ⟨[2,3]⟩
def zj5 : List SOp := [⟨some 4,.assign (.const (.int .i64 0)),none⟩]
instance : Live zj5 := ⟨[]⟩
def zj4 : List SOp := [⟨some 18,.fieldAddr 31 (.tmp 2) 0,none⟩,⟨some 19,.load 22 (.tmp 18),none⟩,⟨some 20,.load 41 (.tmp 3),none⟩,⟨some 21,.call ⟨.value (.func 52),#[.tmp 19,.tmp 20],#[22,41]⟩,none⟩,⟨some 17,.move (.tmp 21),none⟩,⟨some 22,.extract (.tmp 17) 0,none⟩,⟨some 23,.extract (.tmp 17) 1,none⟩,⟨some 5,.alloc 62,none⟩,⟨none,.store 62 (.tmp 5) (.tmp 22),none⟩,⟨some 6,.assign (.tmp 23),none⟩]
instance : Live zj4 := ⟨[2,3]⟩
def zj3 : List SOp := [⟨some 24,.move (.tmp 6),none⟩]
instance : Live zj3 := ⟨[6]⟩
def zj2 : List SOp := [⟨some 4,.assign (.const (.int .i64 1)),none⟩]
instance : Live zj2 := ⟨[]⟩
def zj1 : List SOp := [⟨some 4,.assign (.const (.int .i64 2)),none⟩]
instance : Live zj1 := ⟨[]⟩
def t_k17 : SC :=
 (.seq (.ops false zj7) (.seq (.seq (.ops false zj6) (.cond (.tmp 16) (.seq (.ops false zj5) .ret) .skip)) (.seq (.seq (.ops false zj4) (.seq (.ops false zj3) (.cond (.tmp 24) (.seq (.ops false zj2) .ret) .skip))) (.seq (.ops false zj1) .ret))))
theorem it_k17 : FnIs Tryz.prog 17 25 [.tmp 4] t_k17 := ⟨Tryz.f17, _, Tryz.func17, rfl, rfl, rfl, rfl, by kernel_rfl⟩

def zhw : List SOp := [⟨some 3,.box 31 (.tmp 0),none⟩,⟨some 4,.box 31 (.tmp 1),none⟩,⟨some 5,.box 41 (.tmp 2),none⟩,⟨some 6,.assign (.const (.bool false)),none⟩]
instance : Live zhw := ⟨[0,1,2]⟩
def zhv : List SOp := [⟨some 7,.assign (.const (.int .i64 0)),none⟩]
instance : Live zhv := ⟨[3,4,5]⟩
def zhu : List SOp := [⟨some 10,.move (.tmp 7),none⟩,⟨some 11,.fieldAddr 31 (.tmp 3) 0,none⟩,⟨some 12,.load 22 (.tmp 11),none⟩,⟨some 13,.call ⟨.builtin .len,#[.tmp 12],#[22]⟩,none⟩,⟨some 14,.binOp .lss 3 (.tmp 10) (.tmp 13) 3,none⟩]
instance : Live zhu := ⟨[3,4,5,7]⟩
def zht : List SOp := [⟨some 8,.assign (.const (.int .i64 0)),none⟩]
instance : Live zht := ⟨[3,4,5,7]⟩
def zhs : List SOp := [⟨some 17,.move (.tmp 8),none⟩,⟨some 18,.fieldAddr 31 (.tmp 4) 2,none⟩,⟨some 19,.load 27 (.tmp 18),none⟩,⟨some 20,.call ⟨.builtin .len,#[.tmp 19],#[27]⟩,none⟩,⟨some 21,.binOp .lss 3 (.tmp 17) (.tmp 20) 3,none⟩,⟨some 22,.move (.tmp 21),none⟩,⟨some 23,.fieldAddr 31 (.tmp 3) 0,some ((some 22),true)⟩,⟨some 24,.load 22 (.tmp 23),some ((some 22),true)⟩,⟨some 25,.move (.tmp 7),some ((some 22),true)⟩,⟨some 26,.indexAddr 22 (.tmp 24) (.tmp 25),some ((some 22),true)⟩,⟨some 27,.fieldAddr 62 (.tmp 26) 0,some ((some 22),true)⟩,⟨some 28,.load 41 (.tmp 27),some ((some 22),true)⟩,⟨some 29,.load 41 (.tmp 5),some ((some 22),true)⟩,⟨some 30,.binOp .eql 41 (.tmp 28) (.tmp 29) 41,some ((some 22),true)⟩,⟨some 31,.pick (.tmp 22) (.tmp 30) (.const (.bool false)),none⟩]
instance : Live zhs := ⟨[3,4,5,7,8]⟩
def zhr : List SOp := [⟨some 34,.fieldAddr 31 (.tmp 4) 2,none⟩,⟨some 35,.load 27 (.tmp 34),none⟩,⟨some 36,.move (.tmp 8),none⟩,⟨some 37,.indexAddr 27 (.tmp 35) (.tmp 36),none⟩,⟨some 38,.load 91 (.tmp 37),none⟩,⟨some 9,.alloc 91,none⟩,⟨none,.store 91 (.tmp 9) (.tmp 38),none⟩]
instance : Live zhr := ⟨[3,4,5,7,8]⟩
def zhq : List SOp := [⟨some 39,.fieldAddr 91 (.tmp 9) 0,none⟩,⟨some 40,.load 9 (.tmp 39),none⟩,⟨some 41,.binOp .eql 9 (.tmp 40) (.const (.string ⟨#[]⟩)) 9,none⟩,⟨some 42,.move (.tmp 41),none⟩,⟨some 43,.fieldAddr 91 (.tmp 9) 0,some ((some 42),false)⟩,⟨some 44,.load 9 (.tmp 43),some ((some 42),false)⟩,⟨some 45,.fieldAddr 31 (.tmp 3) 0,some ((some 42),false)⟩,⟨some 46,.load 22 (.tmp 45),some ((some 42),false)⟩,⟨some 47,.move (.tmp 7),some ((some 42),false)⟩,⟨some 48,.indexAddr 22 (.tmp 46) (.tmp 47),some ((some 42),false)⟩,⟨some 49,.fieldAddr 62 (.tmp 48) 1,some ((some 42),false)⟩,⟨some 50,.load 9 (.tmp 49),some ((some 42),false)⟩,⟨some 51,.binOp .eql 9 (.tmp 44) (.tmp 50) 9,some ((some 42),false)⟩,⟨some 52,.pick (.tmp 42) (.const (.bool true)) (.tmp 51),none⟩,⟨some 53,.move (.tmp 52),none⟩,⟨some 54,.fieldAddr 91 (.tmp 9) 1,some ((some 53),true)⟩,⟨some 55,.load 26 (.tmp 54),some ((some 53),true)⟩,⟨some 56,.load 41 (.tmp 5),some ((some 53),true)⟩,⟨some 57,.call ⟨.value (.func 62),#[.tmp 55,.tmp 56],#[26,41]⟩,some ((some 53),true)⟩,⟨some 58,.pick (.tmp 53) (.tmp 57) (.const (.bool false)),none⟩]
instance : Live zhq := ⟨[3,4,5,7,8,9]⟩
def zhp : List SOp := [⟨some 6,.assign (.const (.bool true)),none⟩]
instance : Live zhp := ⟨[]⟩
def zho : List SOp := [⟨some 32,.move (.tmp 8),none⟩,⟨some 33,.binOp .add 3 (.tmp 32) (.const (.int .i64 1)) 3,none⟩,⟨some 8,.assign (.tmp 33),none⟩]
instance : Live zho := ⟨[3,4,5,7,8]⟩
def quj : List SOp := [⟨some 15,.move (.tmp 7),none⟩,⟨some 16,.binOp .add 3 (.tmp 15) (.const (.int .i64 1)) 3,none⟩,⟨some 7,.assign (.tmp 16),none⟩]
instance : Live quj := ⟨[3,4,5,7]⟩
def qui : List SOp := [⟨some 6,.assign (.const (.bool false)),none⟩]
instance : Live qui := ⟨[]⟩
def qst : SC :=
 (.seq (.seq (.ops true zhs) (.cond (.tmp 31) .skip (.exit 2))) (.seq (.block 3 (.seq (.ops false zhr) (.seq (.ops true zhq) (.cond (.tmp 58) (.seq (.ops false zhp) .ret) .skip)))) (.ops false zho)))
def qsu : SC :=
 (.seq (.seq (.ops false zhu) (.cond (.tmp 14) .skip (.exit 0))) (.seq (.block 1 (.seq (.ops false zht) (.block 2 (.loop qst)))) (.ops false quj)))
def t_k28 : SC :=
 (.seq (.ops false zhw) (.seq (.seq (.ops false zhv) (.block 0 (.loop qsu))) (.seq (.ops false qui) .ret)))
theorem it_k28 : FnIs Tryz.prog 28 59 [.tmp 6] t_k28 := ⟨Tryz.f28, _, Tryz.func28, rfl, rfl, rfl, rfl, by kernel_rfl⟩

def r_k6_1 : List SOp := [⟨some 3,.box 31 (.tmp 0),none⟩,⟨some 4,.box 31 (.tmp 1),none⟩,⟨some 5,.box 41 (.tmp 2),none⟩,⟨some 6,.assign (.const (.bool false)),none⟩]
instance : Live r_k6_1 := ⟨[0,1,2]⟩
def r_k6_2 : List SOp := [⟨some 12,.call ⟨.value (.func 24),#[],#[]⟩,none⟩,⟨some 13,.unOp .not 4 (.tmp 12),none⟩]
instance : Live r_k6_2 := ⟨[3,4,5]⟩
def r_k6_3 : List SOp := [⟨some 6,.assign (.const (.bool false)),none⟩]
instance : Live r_k6_3 := ⟨[]⟩
def r_k6_4 : List SOp := [⟨some 15,.load 31 (.tmp 3),none⟩,⟨some 16,.load 31 (.tmp 4),none⟩,⟨some 17,.call ⟨.value (.func 25),#[.tmp 15,.tmp 16],#[31,31]⟩,none⟩,⟨some 14,.move (.tmp 17),none⟩,⟨some 18,.extract (.tmp 14) 0,none⟩,⟨some 19,.extract (.tmp 14) 1,none⟩,⟨some 7,.alloc 31,none⟩,⟨none,.store 31 (.tmp 7) (.tmp 18),none⟩,⟨some 8,.assign (.tmp 19),none⟩]
instance : Live r_k6_4 := ⟨[3,4,5]⟩
def r_k6_5 : List SOp := [⟨some 20,.load 31 (.tmp 3),none⟩,⟨some 21,.call ⟨.value (.func 26),#[.tmp 20],#[31]⟩,none⟩,⟨some 22,.unOp .not 4 (.tmp 21),none⟩,⟨some 23,.move (.tmp 22),none⟩,⟨some 24,.load 31 (.tmp 4),some ((some 23),false)⟩,⟨some 25,.call ⟨.value (.func 26),#[.tmp 24],#[31]⟩,some ((some 23),false)⟩,⟨some 26,.unOp .not 4 (.tmp 25),some ((some 23),false)⟩,⟨some 27,.pick (.tmp 23) (.const (.bool true)) (.tmp 26),none⟩]
instance : Live r_k6_5 := ⟨[3,4,5,7,8]⟩
def r_k6_6 : List SOp := [⟨some 28,.move (.tmp 8),none⟩,⟨some 29,.binOp .eql 32 (.tmp 28) (.const (.int .i64 1)) 32,none⟩,⟨some 30,.move (.tmp 29),none⟩,⟨some 31,.load 31 (.tmp 7),some ((some 30),true)⟩,⟨some 32,.load 41 (.tmp 5),some ((some 30),true)⟩,⟨some 33,.call ⟨.value (.func 17),#[.tmp 31,.tmp 32],#[31,41]⟩,some ((some 30),true)⟩,⟨some 34,.binOp .eql 3 (.tmp 33) (.const (.int .i64 0)) 3,some ((some 30),true)⟩,⟨some 35,.pick (.tmp 30) (.tmp 34) (.const (.bool false)),none⟩,⟨some 6,.assign (.tmp 35),none⟩]
instance : Live r_k6_6 := ⟨[5,7,8]⟩
def r_k6_7 : List SOp := [⟨some 36,.move (.tmp 8),none⟩,⟨some 37,.binOp .neq 32 (.tmp 36) (.const (.int .i64 0)) 32,none⟩]
instance : Live r_k6_7 := ⟨[3,4,5,7,8]⟩
def r_k6_8 : List SOp := [⟨some 38,.move (.tmp 8),none⟩,⟨some 39,.binOp .eql 32 (.tmp 38) (.const (.int .i64 10)) 32,none⟩,⟨some 6,.assign (.tmp 39),none⟩]
instance : Live r_k6_8 := ⟨[8]⟩
def r_k6_9 : List SOp := [⟨some 40,.load 31 (.tmp 3),none⟩,⟨some 41,.load 41 (.tmp 5),none⟩,⟨some 42,.call ⟨.value (.func 17),#[.tmp 40,.tmp 41],#[31,41]⟩,none⟩,⟨some 43,.load 31 (.tmp 4),none⟩,⟨some 44,.load 41 (.tmp 5),none⟩,⟨some 45,.call ⟨.value (.func 17),#[.tmp 43,.tmp 44],#[31,41]⟩,none⟩,⟨some 46,.load 31 (.tmp 7),none⟩,⟨some 47,.load 41 (.tmp 5),none⟩,⟨some 48,.call ⟨.value (.func 17),#[.tmp 46,.tmp 47],#[31,41]⟩,none⟩,⟨some 9,.assign (.tmp 42),none⟩,⟨some 10,.assign (.tmp 45),none⟩,⟨some 11,.assign (.tmp 48),none⟩]
instance : Live r_k6_9 := ⟨[3,4,5,7]⟩
def zdh : List SOp := [⟨some 50,.move (.tmp 9),none⟩,⟨some 51,.binOp .eql 3 (.tmp 50) (.const (.int .i64 0)) 3,none⟩,⟨some 52,.move (.tmp 51),none⟩,⟨some 53,.move (.tmp 10),some ((some 52),true)⟩,⟨some 54,.binOp .eql 3 (.tmp 53) (.const (.int .i64 0)) 3,some ((some 52),true)⟩,⟨some 55,.pick (.tmp 52) (.tmp 54) (.const (.bool false)),none⟩,⟨some 49,.assign (.tmp 55),none⟩]
instance : Live zdh := ⟨[3,4,5,9,10,11]⟩
def zdg : List SOp := [⟨some 56,.move (.tmp 11),none⟩,⟨some 57,.binOp .eql 3 (.tmp 56) (.const (.int .i64 0)) 3,none⟩,⟨some 6,.assign (.tmp 57),none⟩]
instance : Live zdg := ⟨[11]⟩
def zdf : List SOp := [⟨some 59,.move (.tmp 9),none⟩,⟨some 60,.binOp .eql 3 (.tmp 59) (.const (.int .i64 1)) 3,none⟩,⟨some 61,.move (.tmp 60),none⟩,⟨some 62,.move (.tmp 10),some ((some 61),true)⟩,⟨some 63,.binOp .eql 3 (.tmp 62) (.const (.int .i64 1)) 3,some ((some 61),true)⟩,⟨some 64,.pick (.tmp 61) (.tmp 63) (.const (.bool false)),none⟩,⟨some 58,.assign (.tmp 64),none⟩]
instance : Live zdf := ⟨[3,4,5,9,10,11]⟩
def zde : List SOp := [⟨some 65,.move (.tmp 11),none⟩,⟨some 66,.binOp .eql 3 (.tmp 65) (.const (.int .i64 1)) 3,none⟩,⟨some 6,.assign (.tmp 66),none⟩]
instance : Live zde := ⟨[11]⟩
def zdd : List SOp := [⟨some 68,.move (.tmp 9),none⟩,⟨some 69,.binOp .eql 3 (.tmp 68) (.const (.int .i64 2)) 3,none⟩,⟨some 70,.move (.tmp 69),none⟩,⟨some 71,.move (.tmp 10),some ((some 70),false)⟩,⟨some 72,.binOp .eql 3 (.tmp 71) (.const (.int .i64 2)) 3,some ((some 70),false)⟩,⟨some 73,.pick (.tmp 70) (.const (.bool true)) (.tmp 72),none⟩,⟨some 67,.assign (.tmp 73),none⟩]
instance : Live zdd := ⟨[3,4,5,9,10,11]⟩
def zdc : List SOp := [⟨some 74,.move (.tmp 11),none⟩,⟨some 75,.binOp .eql 3 (.tmp 74) (.const (.int .i64 2)) 3,none⟩,⟨some 6,.assign (.tmp 75),none⟩]
instance : Live zdc := ⟨[11]⟩
def zdb : List SOp := [⟨some 77,.move (.tmp 9),none⟩,⟨some 78,.binOp .eql 3 (.tmp 77) (.const (.int .i64 1)) 3,none⟩,⟨some 76,.assign (.tmp 78),none⟩]
instance : Live zdb := ⟨[3,4,5,9,11]⟩
def zda : List SOp := [⟨some 79,.move (.tmp 11),none⟩,⟨some 80,.binOp .eql 3 (.tmp 79) (.const (.int .i64 2)) 3,none⟩,⟨some 81,.load 31 (.tmp 3),none⟩,⟨some 82,.load 31 (.tmp 4),none⟩,⟨some 83,.load 41 (.tmp 5),none⟩,⟨some 84,.call ⟨.value (.func 28),#[.tmp 81,.tmp 82,.tmp 83],#[31,31,41]⟩,none⟩,⟨some 85,.binOp .eql 4 (.tmp 80) (.tmp 84) 4,none⟩,⟨some 86,.move (.tmp 85),none⟩,⟨some 87,.move (.tmp 11),some ((some 86),true)⟩,⟨some 88,.binOp .eql 3 (.tmp 87) (.const (.int .i64 1)) 3,some ((some 86),true)⟩,⟨some 89,.load 31 (.tmp 3),some ((some 86),true)⟩,⟨some 90,.load 31 (.tmp 4),some ((some 86),true)⟩,⟨some 91,.load 41 (.tmp 5),some ((some 86),true)⟩,⟨some 92,.call ⟨.value (.func 28),#[.tmp 89,.tmp 90,.tmp 91],#[31,31,41]⟩,some ((some 86),true)⟩,⟨some 93,.binOp .neq 4 (.tmp 88) (.tmp 92) 4,some ((some 86),true)⟩,⟨some 94,.pick (.tmp 86) (.tmp 93) (.const (.bool false)),none⟩,⟨some 6,.assign (.tmp 94),none⟩]
instance : Live zda := ⟨[3,4,5,11]⟩
def zd9 : List SOp := [⟨some 95,.move (.tmp 11),none⟩,⟨some 96,.binOp .eql 3 (.tmp 95) (.const (.int .i64 2)) 3,none⟩,⟨some 97,.load 31 (.tmp 4),none⟩,⟨some 98,.load 31 (.tmp 3),none⟩,⟨some 99,.load 41 (.tmp 5),none⟩,⟨some 100,.call ⟨.value (.func 28),#[.tmp 97,.tmp 98,.tmp 99],#[31,31,41]⟩,none⟩,⟨some 101,.binOp .eql 4 (.tmp 96) (.tmp 100) 4,none⟩,⟨some 102,.move (.tmp 101),none⟩,⟨some 103,.move (.tmp 11),some ((some 102),true)⟩,⟨some 104,.binOp .eql 3 (.tmp 103) (.const (.int .i64 1)) 3,some ((some 102),true)⟩,⟨some 105,.load 31 (.tmp 4),some ((some 102),true)⟩,⟨some 106,.load 31 (.tmp 3),some ((some 102),true)⟩,⟨some 107,.load 41 (.tmp 5),some ((some 102),true)⟩,⟨some 108,.call ⟨.value (.func 28),#[.tmp 105,.tmp 106,.tmp 107],#[31,31,41]⟩,some ((some 102),true)⟩,⟨some 109,.binOp .neq 4 (.tmp 104) (.tmp 108) 4,some ((some 102),true)⟩,⟨some 110,.pick (.tmp 102) (.tmp 109) (.const (.bool false)),none⟩,⟨some 6,.assign (.tmp 110),none⟩]
instance : Live zd9 := ⟨[3,4,5,11]⟩
def t_k6 : SC :=
 (.seq (.ops false r_k6_1) (.seq (.seq (.ops false r_k6_2) (.cond (.tmp 13) (.seq (.ops false r_k6_3) .ret) .skip)) (.seq (.ops false r_k6_4) (.seq (.seq (.ops false r_k6_5) (.cond (.tmp 27) (.seq (.ops false r_k6_6) .ret) .skip)) (.seq (.seq (.ops false r_k6_7) (.cond (.tmp 37) (.seq (.ops false r_k6_8) .ret) .skip)) (.seq (.ops true r_k6_9) (.seq (.block 0 (.seq (.ops false zdh) (.cond (.tmp 49) (.seq (.ops false zdg) .ret) (.seq (.ops false zdf) (.cond (.tmp 58) (.seq (.ops false zde) .ret) (.seq (.ops false zdd) (.cond (.tmp 67) (.seq (.ops false zdc) .ret) (.seq (.ops false zdb) (.cond (.tmp 76) (.seq (.ops false zda) .ret) .skip))))))))) (.seq (.ops false zd9) .ret))))))))
theorem it_k6 : FnIs Tryz.prog 6 111 [.tmp 6] t_k6 := ⟨Tryz.f6, _, Tryz.func6, rfl, rfl, rfl, rfl, by kernel_rfl⟩

def qbv (l : List Ent) (d : Rn) : Option Ent := l.find? fun e => decide (e.dot = d)
def findV (l : List Ent) (d : Rn) : Ent := (qbv l d).getD ⟨0, 0, ⟨#[]⟩, 0⟩
theorem zkx {l : List Ent} {d : Rn} : (qbv l d).isSome = true ↔ q26 l d := by
 unfold qbv q26
 rw [List.find?_isSome]
 simp only [decide_eq_true_eq]
theorem zkz {l : List Ent} {d : Rn} {i : Nat} {e : Ent} (h : l[i]? = some e) : qbv (l.drop i) d = if e.dot = d then some e else qbv (l.drop (i + 1)) d := by
 rw [zlx h]
 unfold qbv
 rw [List.find?_cons]
 by_cases hd : e.dot = d <;> simp [hd]
theorem ev_k52 (l : List Ent) (d : Rn) (hl : l.length ≤ 1000000000) : Ev (En Tryz.prog rfl).P 52 [.sl 4 (q0e l), q37 d] (.ret (.tup [q93 (findV l d), .bool (qbv l d).isSome])) := by
 refine Ev.of_body it_k52 (by simp) (Run.start ?_)
 unfold t_k52 q37 findV
 have e1 := q0m l
 have hS := qk2
 have h0 : qbv (l.drop 0) d = qbv l d := by rw [List.drop_zero]
 generalize qbv l d = R at *
 (have hF := @e1; refine q01 (k:=?_); clear hF)
 refine Run.while (σ := Nat) (fun i => ⟨tms [(3, .ptr 3 0), (4, .ptr 4 0), (8, .sl 4 (q0e l)), (9, .int .i64 (l.length : Int)), (10, .int .i64 (i : Int))], mms [(3, .cells [.int .i64 d.1, .int .i64 d.2]), (4, .cells [.int .i64 0, .int .i64 0, .str ⟨#[]⟩, .int .i64 0])]⟩)
  (fun i => i ≤ l.length ∧ qbv (l.drop i) d = R) (fun i => l.length - i) 0 (have hW := @q06; q0f) ⟨Nat.zero_le _, h0⟩ ?_
 rintro i ⟨hi, hI⟩
 unfold qsq
 by_cases hlt : i < l.length
 ·obtain ⟨e, he⟩ : ∃ e, l[i]? = some e := ⟨l[i], by simp [hlt]⟩
  have g1 := q0u he
  rw [zkz he] at hI
  by_cases r1 : e.rep = d.1
  ·by_cases r2 : e.num = d.2
   ·rw [if_pos (Prod.ext r1 r2)] at hI
    have he' : q93 e = .agg [.int .i64 d.1, .int .i64 d.2, .str e.sku, .int .i64 e.qty] := by unfold q93; rw [r1, r2]
    rw [← hI, Option.getD_some, he']
    (have hF := (aI (aI @e1 @g1) (aI @r1 @r2)); refine q01 (k:=?_); clear hF)
    exact Fin.all (xs := [.agg [.int .i64 d.1, .int .i64 d.2, .str e.sku, .int .i64 e.qty], .bool true]) (by with_unfolding_all rfl) rfl rfl
   ·rw [if_neg (fun h => r2 (congrArg Prod.snd h))] at hI
    (have hF := (aI (aI @e1 @g1) (aI @r1 @r2)); refine q01 (k:=?_); clear hF)
    (refine Fin.nextW (i + 1) ?_ (have hW := @q06; q0f); (try dsimp only))
    exact ⟨⟨hlt, hI⟩, by omega⟩
  ·rw [if_neg (fun h => r1 (congrArg Prod.fst h))] at hI
   (have hF := (aI @e1 (aI @g1 @r1)); refine q01 (k:=?_); clear hF)
   (refine Fin.nextW (i + 1) ?_ (have hW := @q06; q0f); (try dsimp only))
   exact ⟨⟨hlt, hI⟩, by omega⟩
 ·have hR : R = none := by
   rw [List.drop_eq_nil_of_le (by omega)] at hI
   exact hI.symm
  rw [hR]
  (have hF := @e1; refine q01 (k:=?_); clear hF)
  exact Fin.all (xs := [q93 ⟨0, 0, ⟨#[]⟩, 0⟩, .bool false]) (by with_unfolding_all rfl) (by simp [q0j, qah, AVal.stb]) rfl
open Classical in
noncomputable def q78 (s : Swt) (d : Rn) : Int := if FormS s then q6l s d else 0
theorem qg0 (s : Swt) (d : Rn) (hw : wtS s ≤ 3000000) : Ev (En Tryz.prog rfl).P 17 [q36 s, q37 d] (.ret (.int .i64 (q78 s d))) := by
 refine Ev.of_body it_k17 (by simp) (Run.start ?_)
 unfold t_k17 q78
 obtain ⟨w1, w2, w3, w4, w5⟩ := q27 hw
 have hS := qk2
 have hcs := q96 s.live s.past.vec s.past.cloud s.defer
 have c1 := zld s hw
 have c2 := qpe s.past d (by omega)
 have c3 := ev_k52 s.live d (by omega)
 unfold q93 at c3
 generalize findV s.live d = e at c3
 have hfs := zkx (l := s.live) (d := d)
 generalize (qbv s.live d).isSome = u at *
 unfold q36 q37 at *
 by_cases h1 : FormS s
 case' neg =>
  rw [qhr h1] at c1
  rw [if_neg h1]
  (have hF := @hcs; refine q01 (k:=?_); clear hF)
  refine q00 [_] (he := c1) (k:=?_)
  (have hF := @hcs; refine q01 (k:=?_); clear hF)
  exact Fin.tmp' rfl rfl
 rw [qe5 h1] at c1
 rw [if_pos h1]
 cases h2 : q1c s.past d
 ·rw [h2] at c2
  rw [show q6l s d = 0 from (q7z s d).2 h2]
  (have hF := @hcs; refine q01 (k:=?_); clear hF)
  refine q00 [_] (he := c1) (k:=?_)
  (have hF := @hcs; refine q01 (k:=?_); clear hF)
  refine q00 [q0h s.past, .agg [.int .i64 d.1, .int .i64 d.2]] (he := c2) (k:=?_)
  (have hF := @hcs; refine q01 (k:=?_); clear hF)
  exact Fin.tmp' rfl rfl
 ·rw [h2] at c2
  have hf : q6l s d = if u = true then 1 else 2 := by
   unfold q6l
   rw [if_pos h2]
   by_cases hd : q26 s.live d
   ·rw [if_pos hd, if_pos (hfs.2 hd)]
   ·rw [if_neg hd, if_neg (fun h => hd (hfs.1 h))]
  rw [hf]
  cases u
  all_goals
   (have hF := @hcs; refine q01 (k:=?_); clear hF)
   refine q00 [_] (he := c1) (k:=?_)
   (have hF := @hcs; refine q01 (k:=?_); clear hF)
   refine q00 [q0h s.past, .agg [.int .i64 d.1, .int .i64 d.2]] (he := c2) (k:=?_)
   (have hF := @hcs; refine q01 (k:=?_); clear hF)
   refine q00 [.sl 4 (q0e s.live), .agg [.int .i64 d.1, .int .i64 d.2]] (he := c3) (k:=?_)
   (have hF := @hcs; refine q01 (k:=?_); clear hF)
   exact Fin.tmp' rfl rfl
theorem cov_dot {r : Rec} {e : Ent} : qb8 r e = ((decide (r.sku.size = 0) || decide (r.sku = e.sku)) && q1c r.past e.dot) := rfl
open Classical in
noncomputable def brd (a b : Swt) (d : Rn) : Bool := decide (q8a a b d)
theorem brd_true {a b : Swt} {d : Rn} (h : q8a a b d) : brd a b d = true := by classical exact decide_eq_true h
theorem zmk {a b : Swt} {d : Rn} (h : ¬ q8a a b d) : brd a b d = false := by classical exact decide_eq_false h
theorem ev_k28 (a b : Swt) (d : Rn) (ha : wtS a ≤ 3000000) (hb : wtS b ≤ 3000000) : Ev (En Tryz.prog rfl).P 28 [q36 a, q36 b, q37 d] (.ret (.bool (brd a b d))) := by
 refine Ev.of_body it_k28 (by simp) (Run.start ?_)
 unfold t_k28 q37 q36
 obtain ⟨u1, u2, u3, u4, u5⟩ := q27 ha
 obtain ⟨w1, w2, w3, w4, w5⟩ := q27 hb
 have hS := qk2
 have hca := q96 a.live a.past.vec a.past.cloud a.defer
 have hcb := q96 b.live b.past.vec b.past.cloud b.defer
 have e1 := q0m a.live
 have e2 := q0p b.defer
 (have hF := (aI @hca @hcb); refine q01 (k:=?_); clear hF)
 refine Run.while (σ := Nat) (fun i => ⟨tms [(3, .ptr 3 0), (4, .ptr 4 0), (5, .ptr 5 0), (7, .int .i64 (i : Int))], mms [(3, .cells [.sl 4 (q0e a.live), .sl 1 (q05 a.past.vec), .sl 3 (q0c a.past.cloud), .sl 3 (q09 a.defer)]), (4, .cells [.sl 4 (q0e b.live), .sl 1 (q05 b.past.vec), .sl 3 (q0c b.past.cloud), .sl 3 (q09 b.defer)]), (5, .cells [.int .i64 d.1, .int .i64 d.2])]⟩)
  (fun i => i ≤ a.live.length ∧ ∀ (m : Nat) e, m < i → a.live[m]? = some e → e.dot = d → ¬ q4u b.defer e) (fun i => a.live.length - i) 0 (have hW := (aI @q02 @q06); q0f) ⟨Nat.zero_le _, fun m e hm => absurd hm (Nat.not_lt_zero _)⟩ ?_
 rintro i ⟨hi, hI⟩
 unfold qsu
 by_cases hlt : i < a.live.length
 ·obtain ⟨e, he⟩ : ∃ e, a.live[i]? = some e := ⟨a.live[i], by simp [hlt]⟩
  have g1 := q0u he
  have hem := List.mem_of_getElem? he
  have hstep : (e.dot = d → ¬ q4u b.defer e) → ∀ (m : Nat) x, m < i + 1 → a.live[m]? = some x → x.dot = d → ¬ q4u b.defer x := fun h m x hm hx => by
   by_cases hmi : m = i
   ·subst hmi; rw [he] at hx; cases hx; exact h
   ·exact hI m x (by omega) hx
  (have hF := (aI (aI @hca @hcb) (aI @e1 @e2)); refine q01 (k:=?_); clear hF)
  refine Run.while (σ := Nat) (fun j => ⟨tms [(3, .ptr 3 0), (4, .ptr 4 0), (5, .ptr 5 0), (7, .int .i64 (i : Int)), (8, .int .i64 (j : Int))], mms [(3, .cells [.sl 4 (q0e a.live), .sl 1 (q05 a.past.vec), .sl 3 (q0c a.past.cloud), .sl 3 (q09 a.defer)]), (4, .cells [.sl 4 (q0e b.live), .sl 1 (q05 b.past.vec), .sl 3 (q0c b.past.cloud), .sl 3 (q09 b.defer)]), (5, .cells [.int .i64 d.1, .int .i64 d.2])]⟩)
   (fun j => j ≤ b.defer.length ∧ ∀ (m : Nat) r, m < j → b.defer[m]? = some r → qb8 r e = false) (fun j => b.defer.length - j) 0 (have hW := (aI @q02 @q06); q0f) ⟨Nat.zero_le _, fun m r hm => absurd hm (Nat.not_lt_zero _)⟩ ?_
  rintro j ⟨hj, hJ⟩
  unfold qst
  by_cases hjl : j < b.defer.length
  ·obtain ⟨r, hr⟩ : ∃ r, b.defer[j]? = some r := ⟨b.defer[j], by simp [hjl]⟩
   have g2 := q15 hr
   have hrm := List.mem_of_getElem? hr
   have hwr := w5 r hrm
   have c1 := ev_k62 r.past d (by omega)
   unfold q37 at c1
   by_cases r1 : e.rep = d.1
   case' neg =>
    have hs := hstep (fun h => absurd (congrArg Prod.fst h) r1)
    (have hF := (aI (aI @hca (aI @hcb @e1)) (aI (aI @e2 @g1) (aI @g2 @r1))); refine q01 (k:=?_); clear hF)
    (refine Fin.nextW (i + 1) ?_ (have hW := (aI @q02 @q06); q0f); (try dsimp only))
    exact ⟨⟨hlt, hs⟩, by omega⟩
   by_cases r2 : e.num = d.2
   case' neg =>
    have hs := hstep (fun h => absurd (congrArg Prod.snd h) r2)
    (have hF := (aI (aI (aI @hca @hcb) (aI @e1 @e2)) (aI (aI @g1 @g2) (aI @r1 @r2))); refine q01 (k:=?_); clear hF)
    (refine Fin.nextW (i + 1) ?_ (have hW := (aI @q02 @q06); q0f); (try dsimp only))
    exact ⟨⟨hlt, hs⟩, by omega⟩
   have hd : e.dot = d := Prod.ext r1 r2
   have hcv := cov_dot (r := r) (e := e)
   rw [hd] at hcv
   have hno : qb8 r e = false → ∀ (m : Nat) x, m < j + 1 → b.defer[m]? = some x → qb8 x e = false := fun h m x hm hx => by
    by_cases hmj : m = j
    ·subst hmj; rw [hr] at hx; cases hx; exact h
    ·exact hJ m x (by omega) hx
   have hyes : qb8 r e = true → brd a b d = true := fun h => brd_true ⟨e, hem, hd, r, hrm, h⟩
   have es := q7p r.sku
   generalize q1c r.past d = v at *
   by_cases h0 : r.sku.size = 0
   ·rw [decide_eq_true h0, Bool.true_or, Bool.true_and] at hcv
    rw [eq_true h0] at es
    (have hF := (aI (aI (aI @hca @hcb) (aI @e1 @e2)) (aI (aI @g1 @g2) (aI @r1 (aI @r2 @es)))); refine q01 (k:=?_); clear hF)
    refine q00 [q0h r.past, .agg [.int .i64 d.1, .int .i64 d.2]] (he := c1) (k:=?_)
    cases v
    ·have hs := hno hcv
     (have hF := (aI (aI @hca (aI @hcb @e1)) (aI @e2 (aI @g1 @g2))); refine q01 (k:=?_); clear hF)
     (refine Fin.nextW (j + 1) ?_ (have hW := (aI @q02 @q06); q0f); (try dsimp only))
     exact ⟨⟨hjl, hs⟩, by omega⟩
    ·rw [hyes hcv]
     (have hF := (aI (aI @hca (aI @hcb @e1)) (aI @e2 (aI @g1 @g2))); refine q01 (k:=?_); clear hF)
     exact Fin.tmp' rfl rfl
   ·rw [eq_false h0] at es
    by_cases h3 : r.sku = e.sku
    ·rw [decide_eq_true h3, Bool.or_true, Bool.true_and] at hcv
     have es2 := es
     rw [h3] at es2
     (have hF := (aI (aI (aI @hca @hcb) (aI @e1 (aI @e2 @g1))) (aI (aI @g2 (aI @r1 @r2)) (aI @es (aI @h3 @es2)))); refine q01 (k:=?_); clear hF)
     refine q00 [q0h r.past, .agg [.int .i64 d.1, .int .i64 d.2]] (he := c1) (k:=?_)
     cases v
     ·have hs := hno hcv
      (have hF := (aI (aI @hca (aI @hcb @e1)) (aI @e2 (aI @g1 @g2))); refine q01 (k:=?_); clear hF)
      (refine Fin.nextW (j + 1) ?_ (have hW := (aI @q02 @q06); q0f); (try dsimp only))
      exact ⟨⟨hjl, hs⟩, by omega⟩
     ·rw [hyes hcv]
      (have hF := (aI (aI @hca (aI @hcb @e1)) (aI @e2 (aI @g1 @g2))); refine q01 (k:=?_); clear hF)
      exact Fin.tmp' rfl rfl
    ·rw [decide_eq_false h0, decide_eq_false h3, Bool.or_false, Bool.false_and] at hcv
     have hs := hno hcv
     (have hF := (aI (aI (aI @hca @hcb) (aI @e1 (aI @e2 @g1))) (aI (aI @g2 @r1) (aI @r2 (aI @es @h3)))); refine q01 (k:=?_); clear hF)
     (refine Fin.nextW (j + 1) ?_ (have hW := (aI @q02 @q06); q0f); (try dsimp only))
     exact ⟨⟨hjl, hs⟩, by omega⟩
  ·have hs := hstep (fun _ ⟨r, hr, hc⟩ => by
    obtain ⟨m, hm⟩ := List.mem_iff_getElem?.1 hr
    have hlt2 : m < b.defer.length := (List.getElem?_eq_some_iff.1 hm).1
    rw [hJ m r (by omega) hm] at hc
    cases hc)
   (have hF := (aI (aI @hca @hcb) (aI @e1 (aI @e2 @g1))); refine q01 (k:=?_); clear hF)
   (refine Fin.nextW (i + 1) ?_ (have hW := (aI @q02 @q06); q0f); (try dsimp only))
   exact ⟨⟨hlt, hs⟩, by omega⟩
 ·rw [zmk (fun ⟨e, he, hd, hc⟩ => by
   obtain ⟨m, hm⟩ := List.mem_iff_getElem?.1 he
   have hlt2 : m < a.live.length := (List.getElem?_eq_some_iff.1 hm).1
   exact hI m e (by omega) hm hd hc)]
  (have hF := (aI (aI @hca @hcb) (aI @e1 @e2)); refine q01 (k:=?_); clear hF)
  exact Fin.tmp' rfl rfl
theorem ev_k6 (a b : Swt) (d : Rn) (hw : wtS a + wtS b ≤ 1900000) : Ev (En Tryz.prog rfl).P 6 [q36 a, q36 b, q37 d] (.ret (.bool true)) := by
 refine Ev.of_body it_k6 (by simp) (Run.start ?_)
 unfold t_k6
 have hS := qk2
 have hca := q96 a.live a.past.vec a.past.cloud a.defer
 have hcb := q96 b.live b.past.vec b.past.cloud b.defer
 have c1 := q7f a b (by omega) (by omega)
 have c2 := qbo a (by omega)
 have c3 := qbo b (by omega)
 have hjw := qa7 a b
 have c4 := qg0 (q4e a b) d (by omega)
 have c5 := qg0 a d (by omega)
 have c6 := qg0 b d (by omega)
 have c7 := ev_k28 a b d (by omega) (by omega)
 have c8 := ev_k28 b a d (by omega) (by omega)
 by_cases hf : FormS a ∧ FormS b
 case' neg =>
  have he : q7m a b = 1 := if_neg hf
  rw [qa8 (by rw [he]; decide)] at c1 c4
  rw [he] at c1
  have hk : q78 noS d = 0 := by
   unfold q78
   rw [if_pos q76]
   exact (q7z noS d).2 (qqx d)
  rw [hk] at c4
  have hcn := q96 noS.live noS.past.vec noS.past.cloud noS.defer
  unfold q36 q37 at *
  by_cases h1 : FormS a
  ·rw [q1z h1] at c2
   rw [q3l (fun h => hf ⟨h1, h⟩)] at c3
   (have hF := (aI @hca @hcb); refine q01 (k:=?_); clear hF)
   refine q00 [] (he := q5k) (k:=?_)
   (have hF := (aI @hca @hcb); refine q01 (k:=?_); clear hF)
   refine q00 [_, _] (he := c1) (k:=?_)
   (have hF := (aI @hca (aI @hcb @hcn)); refine q01 (k:=?_); clear hF)
   refine q00 [_] (he := c2) (k:=?_)
   (have hF := (aI @hca (aI @hcb @hcn)); refine q01 (k:=?_); clear hF)
   refine q00 [_] (he := c3) (k:=?_)
   (have hF := (aI @hca (aI @hcb @hcn)); refine q01 (k:=?_); clear hF)
   refine q00 [_, _] (he := c4) (k:=?_)
   (have hF := (aI @hca (aI @hcb @hcn)); refine q01 (k:=?_); clear hF)
   exact Fin.tmp' rfl rfl
  ·rw [q3l h1] at c2
   (have hF := (aI @hca @hcb); refine q01 (k:=?_); clear hF)
   refine q00 [] (he := q5k) (k:=?_)
   (have hF := (aI @hca @hcb); refine q01 (k:=?_); clear hF)
   refine q00 [_, _] (he := c1) (k:=?_)
   (have hF := (aI @hca (aI @hcb @hcn)); refine q01 (k:=?_); clear hF)
   refine q00 [_] (he := c2) (k:=?_)
   (have hF := (aI @hca (aI @hcb @hcn)); refine q01 (k:=?_); clear hF)
   refine q00 [_, _] (he := c4) (k:=?_)
   (have hF := (aI @hca (aI @hcb @hcn)); refine q01 (k:=?_); clear hF)
   exact Fin.tmp' rfl rfl
 obtain ⟨h1, h2⟩ := hf
 rw [q1z h1] at c2
 rw [q1z h2] at c3
 by_cases he : q7m a b = 0
 case' neg =>
  have he2 : q7m a b = 10 := by
   rw [q81 h1 h2] at he ⊢
   cases hm : q21 a b with
   | none => rfl
   | some M => rw [hm] at he; exact absurd rfl he
  rw [he2] at c1
  generalize q4e a b = s at *
  have hcs := q96 s.live s.past.vec s.past.cloud s.defer
  unfold q36 q37 at *
  (have hF := (aI @hca @hcb); refine q01 (k:=?_); clear hF)
  refine q00 [] (he := q5k) (k:=?_)
  (have hF := (aI @hca @hcb); refine q01 (k:=?_); clear hF)
  refine q00 [_, _] (he := c1) (k:=?_)
  (have hF := (aI @hca (aI @hcb @hcs)); refine q01 (k:=?_); clear hF)
  refine q00 [_] (he := c2) (k:=?_)
  (have hF := (aI @hca (aI @hcb @hcs)); refine q01 (k:=?_); clear hF)
  refine q00 [_] (he := c3) (k:=?_)
  (have hF := (aI @hca (aI @hcb @hcs)); refine q01 (k:=?_); clear hF)
  exact Fin.tmp' rfl rfl
 obtain ⟨_, _, M, hM⟩ := qed.1 he
 have hj := q8h h1 h2 hM
 have hb := qp8 h1 h2 hM d
 have hka : q78 a d = q6l a d := if_pos h1
 have hkb : q78 b d = q6l b d := if_pos h2
 have hkj : q78 (q0o a b) d = q6l (q0o a b) d := if_pos hj
 have ra := q51 a d
 have rb := q51 b d
 have rj := q51 (q0o a b) d
 rw [he] at c1
 rw [q3t he] at c1 c4
 rw [hka] at c5
 rw [hkb] at c6
 rw [hkj] at c4
 have hB1 : brd a b d = true ↔ q8a a b d := by unfold brd; classical exact decide_eq_true_iff
 have hB2 : brd b a d = true ↔ q8a b a d := by unfold brd; classical exact decide_eq_true_iff
 rw [← hB1, ← hB2] at hb
 generalize q0o a b = s at *
 generalize brd a b d = p at *
 generalize brd b a d = q at *
 generalize q6l a d = u at *
 generalize q6l b d = v at *
 generalize q6l s d = w at *
 have hcs := q96 s.live s.past.vec s.past.cloud s.defer
 clear hB1 hB2 hka hkb hkj hj hM h1 h2 he hjw hw
 have key : (u = 0 ∧ v = 0 ∧ w = 0) ∨ (u = 1 ∧ v = 1 ∧ w = 1) ∨ (u = 0 ∧ v = 2 ∧ w = 2) ∨ (u = 1 ∧ v = 2 ∧ w = 2) ∨ (u = 2 ∧ w = 2) ∨ (u = 1 ∧ v = 0 ∧ p = true ∧ w = 2) ∨ (u = 1 ∧ v = 0 ∧ p = false ∧ w = 1) ∨ (u = 0 ∧ v = 1 ∧ q = true ∧ w = 2) ∨ (u = 0 ∧ v = 1 ∧ q = false ∧ w = 1) := by
  obtain ⟨b1, b2, b3, b4, b5⟩ := hb
  rcases ra with rfl | rfl | rfl
  ·rcases rb with rfl | rfl | rfl
   ·exact .inl ⟨rfl, rfl, b1 rfl rfl⟩
   ·have h5 := b5 rfl rfl
    cases q
    ·simp at h5
     simp [h5]
    ·simp at h5
     simp [h5]
   ·simp [b3]
  ·rcases rb with rfl | rfl | rfl
   ·have h4 := b4 rfl rfl
    cases p
    ·simp at h4
     simp [h4]
    ·simp at h4
     simp [h4]
   ·simp [b2]
   ·simp [b3]
  ·simp [b3]
 clear hb
 unfold q36 q37 at *
 (have hF := (aI @hca @hcb); refine q01 (k:=?_); clear hF)
 refine q00 [] (he := q5k) (k:=?_)
 (have hF := (aI @hca @hcb); refine q01 (k:=?_); clear hF)
 refine q00 [_, _] (he := c1) (k:=?_)
 (have hF := (aI @hca (aI @hcb @hcs)); refine q01 (k:=?_); clear hF)
 refine q00 [_] (he := c2) (k:=?_)
 (have hF := (aI @hca (aI @hcb @hcs)); refine q01 (k:=?_); clear hF)
 refine q00 [_] (he := c3) (k:=?_)
 (have hF := (aI @hca (aI @hcb @hcs)); refine q01 (k:=?_); clear hF)
 refine q00 [_, _] (he := c5) (k:=?_)
 (have hF := (aI @hca (aI @hcb @hcs)); refine q01 (k:=?_); clear hF)
 refine q00 [_, _] (he := c6) (k:=?_)
 (have hF := (aI @hca (aI @hcb @hcs)); refine q01 (k:=?_); clear hF)
 refine q00 [_, _] (he := c4) (k:=?_)
 rcases key with ⟨rfl, rfl, rfl⟩ | ⟨rfl, rfl, rfl⟩ | ⟨rfl, rfl, rfl⟩ | ⟨rfl, rfl, rfl⟩ | ⟨rfl, rfl⟩ | ⟨rfl, rfl, rfl, rfl⟩ | ⟨rfl, rfl, rfl, rfl⟩ | ⟨rfl, rfl, rfl, rfl⟩ | ⟨rfl, rfl, rfl, rfl⟩
 ·(have hF := (aI @hca (aI @hcb @hcs)); refine q01 (k:=?_); clear hF)
  exact Fin.tmp' rfl rfl
 ·(have hF := (aI @hca (aI @hcb @hcs)); refine q01 (k:=?_); clear hF)
  exact Fin.tmp' rfl rfl
 ·(have hF := (aI @hca (aI @hcb @hcs)); refine q01 (k:=?_); clear hF)
  exact Fin.tmp' rfl rfl
 ·(have hF := (aI @hca (aI @hcb @hcs)); refine q01 (k:=?_); clear hF)
  exact Fin.tmp' rfl rfl
 ·(have hF := (aI @hca (aI @hcb @hcs)); refine q01 (k:=?_); clear hF)
  exact Fin.tmp' rfl rfl
 ·(have hF := (aI @hca (aI @hcb @hcs)); refine q01 (k:=?_); clear hF)
  refine q00 [_, _, _] (he := c7) (k:=?_)
  (have hF := (aI @hca (aI @hcb @hcs)); refine q01 (k:=?_); clear hF)
  refine q00 [_, _, _] (he := c7) (k:=?_)
  (have hF := (aI @hca (aI @hcb @hcs)); refine q01 (k:=?_); clear hF)
  exact Fin.tmp' rfl rfl
 ·(have hF := (aI @hca (aI @hcb @hcs)); refine q01 (k:=?_); clear hF)
  refine q00 [_, _, _] (he := c7) (k:=?_)
  (have hF := (aI @hca (aI @hcb @hcs)); refine q01 (k:=?_); clear hF)
  refine q00 [_, _, _] (he := c7) (k:=?_)
  (have hF := (aI @hca (aI @hcb @hcs)); refine q01 (k:=?_); clear hF)
  exact Fin.tmp' rfl rfl
 ·(have hF := (aI @hca (aI @hcb @hcs)); refine q01 (k:=?_); clear hF)
  refine q00 [_, _, _] (he := c8) (k:=?_)
  (have hF := (aI @hca (aI @hcb @hcs)); refine q01 (k:=?_); clear hF)
  refine q00 [_, _, _] (he := c8) (k:=?_)
  (have hF := (aI @hca (aI @hcb @hcs)); refine q01 (k:=?_); clear hF)
  exact Fin.tmp' rfl rfl
 ·(have hF := (aI @hca (aI @hcb @hcs)); refine q01 (k:=?_); clear hF)
  refine q00 [_, _, _] (he := c8) (k:=?_)
  (have hF := (aI @hca (aI @hcb @hcs)); refine q01 (k:=?_); clear hF)
  refine q00 [_, _, _] (he := c8) (k:=?_)
  (have hF := (aI @hca (aI @hcb @hcs)); refine q01 (k:=?_); clear hF)
  exact Fin.tmp' rfl rfl

abbrev NC (a b : Swt) : Prop := ¬ Clash a.live b.live
theorem q8o {A B : List Ent} (h : Clash A B) : Clash B A := by
 obtain ⟨a, ha, b, hb, hd, hne⟩ := h
 exact ⟨b, hb, a, ha, hd.symm, fun e => hne e.symm⟩
theorem NC.symm {a b : Swt} (h : NC a b) : NC b a := fun hc => h (q8o hc)
theorem qfw {l : List Ent} (h : q6z l) {a b : Ent} (ha : a ∈ l) (hb : b ∈ l) (hd : a.dot = b.dot) : a = b := by
 have hs : qs1 l := q42 h.2
 obtain ⟨i, hi⟩ := List.mem_iff_getElem?.1 ha
 obtain ⟨j, hj⟩ := List.mem_iff_getElem?.1 hb
 have lt_of : ∀ {i j : Nat} {a b : Ent}, l[i]? = some a → l[j]? = some b → i < j → q2y a.dot b.dot = true := fun {i j a b} hi hj hij => by
  obtain ⟨h1, e1⟩ := List.getElem?_eq_some_iff.1 hi
  obtain ⟨h2, e2⟩ := List.getElem?_eq_some_iff.1 hj
  have := List.pairwise_iff_getElem.1 hs i j h1 h2 hij
  rw [e1, e2] at this
  exact this
 rcases Nat.lt_trichotomy i j with h' | h' | h'
 ·have := lt_of hi hj h'; exact absurd hd (q43 this)
 ·subst h'; rw [hi] at hj; exact Option.some.inj hj
 ·have := lt_of hj hi h'; exact absurd hd.symm (q43 this)
theorem qax {a : Swt} (ha : FormS a) : NC a a := by
 rintro ⟨x, hx, y, hy, hd, hne⟩
 exact hne (qfw ha.live hx hy hd)
theorem nc_no (a : Swt) : NC a noS := by
 rintro ⟨x, hx, y, hy, _⟩
 cases hy
theorem qqo {a : Swt} (ha : FormS a) : stF (zl4 a) = a := by
 have he := q2a ha.live
 have hd : ∀ e ∈ a.live, q1c (q4y a.live) e.dot = true := fun e h => (q44 he _).2 ⟨e, h, rfl⟩
 have hp : q1u (zl4 a) = a.past := by
  refine qe4 (q2i _) ha.past fun d => ?_
  rw [q2g (q3c ha)]
  show q26 a.live d ∨ q1c (q2t a.past (q4y a.live)) d = true ↔ _
  rw [qaa, Bool.and_eq_true, Bool.not_eq_true', ← Bool.not_eq_true, q44 he]
  have pa : q26 a.live d → q1c a.past d = true := fun h => q3n.1 ha.dots d ((q44 he d).2 h)
  constructor
  ·rintro (h | h)
   ·exact pa h
   ·exact h.1
  ·intro h
   by_cases hd : q26 a.live d
   ·exact .inl hd
   ·exact .inr ⟨h, hd⟩
 refine qqk ?_ hp ?_
 ·show qow a.live (goneP a) a.defer = a.live
  unfold qow
  rw [List.filter_eq_self]
  intro e h
  rw [Bool.and_eq_true, Bool.not_eq_true', decide_eq_true_eq, q4h]
  refine ⟨?_, ha.bars e h⟩
  show q1c (q2t a.past (q4y a.live)) e.dot = false
  rw [qaa, hd e h]
  simp
 ·show q17 a.defer (q1u (zl4 a)) = a.defer
  rw [hp]
  unfold q17
  rw [List.filter_eq_self]
  intro r h
  rw [ha.waits r h]
  rfl
theorem qhw {f g : Fct} (hf : FormF f) (hg : FormF g) (h1 : ∀ e, e ∈ f.adds ↔ e ∈ g.adds) (h2 : ∀ d, q1c f.gone d = true ↔ q1c g.gone d = true) (h3 : ∀ r, r ∈ f.recs ↔ r ∈ g.recs) : f = g := by
 have e1 : f.adds = g.adds := qgt (q42 hf.adds.2) (q42 hg.adds.2) h1
 have e2 : f.gone = g.gone := qe4 hf.gone hg.gone h2
 have e3 : f.recs = g.recs := by
  rw [← ordR_id hg.recs]
  exact qdk (fun y hy => (q4t hg.recs y hy).1) (qab hf.recs) h3
 cases f; cases g
 simp only at e1 e2 e3
 rw [e1, e2, e3]
theorem q31 {f g : Fct} (hf : FormF f) (hg : FormF g) {L : List Ent} (hL : zlm f.adds g.adds = some L) (e : Ent) : e ∈ (q5x f g L).adds ↔ e ∈ f.adds ∨ e ∈ g.adds := by
 have h := q82 hf.adds hg.adds
 rw [hL] at h
 exact h.2.2 e
theorem q3p (f g : Fct) (L : List Ent) (d : Rn) : q1c (q5x f g L).gone d = true ↔ q1c f.gone d = true ∨ q1c g.gone d = true := by
 show q1c (q1t [f.gone, g.gone]) d = true ↔ _
 rw [q4m, Bool.or_eq_true]
theorem q3o {f g : Fct} (hf : FormF f) (hg : FormF g) (L : List Ent) (r : Rec) : r ∈ (q5x f g L).recs ↔ r ∈ f.recs ∨ r ∈ g.recs := by
 show r ∈ q9i (f.recs ++ g.recs) ↔ _
 rw [q4k (qeu hf.recs hg.recs), List.mem_append]
theorem zll {f g : Fct} (hf : FormF f) (hg : FormF g) (h : ¬ Clash f.adds g.adds) : ∃ L, zlm f.adds g.adds = some L := by
 have hs := q82 hf.adds hg.adds
 cases hL : zlm f.adds g.adds with
 | none => rw [hL] at hs; exact absurd hs h
 | some L => exact ⟨L, rfl⟩
structure JF (s : Swt) (f : Fct) : Prop where
 form : FormF f
 st : stF f = s
theorem JF.exp {a : Swt} (ha : FormS a) : JF a (zl4 a) := ⟨q3c ha, qqo ha⟩
theorem JF.formS {s : Swt} {f : Fct} (h : JF s f) : FormS s := h.st ▸ qgs h.form
theorem JF.join {a b : Swt} {f g : Fct} (ha : JF a f) (hb : JF b g) (nc : ¬ Clash f.adds g.adds) :
 ∃ L, zlm f.adds g.adds = some L ∧ JF (q0o a b) (q5x f g L) ∧ ∃ M, q21 a b = some M := by
 obtain ⟨L, hL⟩ := zll ha.form hb.form nc
 obtain ⟨hM, hj⟩ := stF_join ha.form hb.form hL
 rw [ha.st, hb.st] at hM hj
 exact ⟨L, hL, ⟨qck ha.form hb.form hL, hj.symm⟩, hM⟩
theorem qer {f g h : Fct} (hf : FormF f) (hg : FormF g) {L : List Ent} (hL : zlm f.adds g.adds = some L) (h1 : ¬ Clash f.adds h.adds) (h2 : ¬ Clash g.adds h.adds) : ¬ Clash (q5x f g L).adds h.adds := by
 rintro ⟨a, ha, b, hb, hd, hne⟩
 rcases (q31 hf hg hL a).1 ha with ha | ha
 ·exact h1 ⟨a, ha, b, hb, hd, hne⟩
 ·exact h2 ⟨a, ha, b, hb, hd, hne⟩
theorem qba {A B : List Ent} (h : ¬ Clash A B) : ¬ Clash B A := fun hc => h (q8o hc)
theorem q6p {a b : Swt} (ha : FormS a) (hb : FormS b) (nc : NC a b) : FormS (q0o a b) := by
 obtain ⟨L, hL, hj, _⟩ := (JF.exp ha).join (JF.exp hb) nc
 exact hj.formS
theorem qoz {a b : Swt} (ha : FormS a) (hb : FormS b) (nc : NC a b) : q0o a b = q0o b a := by
 obtain ⟨L, hL, h1, _⟩ := (JF.exp ha).join (JF.exp hb) nc
 obtain ⟨L', hL', h2, _⟩ := (JF.exp hb).join (JF.exp ha) nc.symm
 have fa := q3c ha
 have fb := q3c hb
 rw [← h1.st, ← h2.st]
 congr 1
 refine qhw h1.form h2.form (fun e => ?_) (fun d => ?_) (fun r => ?_)
 ·rw [q31 fa fb hL, q31 fb fa hL', or_comm]
 ·rw [q3p, q3p, or_comm]
 ·rw [q3o fa fb, q3o fb fa, or_comm]
theorem qoy {a : Swt} (ha : FormS a) : q0o a a = a := by
 obtain ⟨L, hL, h1, _⟩ := (JF.exp ha).join (JF.exp ha) (qax ha)
 have fa := q3c ha
 have e : q5x (zl4 a) (zl4 a) L = zl4 a := by
  refine qhw h1.form fa (fun e => ?_) (fun d => ?_) (fun r => ?_)
  ·rw [q31 fa fa hL, or_self]
  ·rw [q3p, or_self]
  ·rw [q3o fa fa, or_self]
 rw [← h1.st, e, qqo ha]
theorem qb1 {a b c : Swt} (ha : FormS a) (hb : FormS b) (nab : NC a b) (nac : NC a c) (nbc : NC b c) : NC (q0o a b) c := by
 obtain ⟨L, hL, h1, M, hM⟩ := (JF.exp ha).join (JF.exp hb) nab
 rintro ⟨x, hx, y, hy, hd, hne⟩
 rcases ((qa3 ha hb hM x).1 hx).1 with h | h
 ·exact nac ⟨x, h.1, y, hy, hd, hne⟩
 ·exact nbc ⟨x, h.1, y, hy, hd, hne⟩
theorem q8g {a b c : Swt} (ha : FormS a) (hb : FormS b) (hc : FormS c) (nab : NC a b) (nac : NC a c) (nbc : NC b c) : q0o (q0o a b) c = q0o a (q0o b c) := by
 have fa := q3c ha
 have fb := q3c hb
 have fc := q3c hc
 obtain ⟨L1, hL1, h1, _⟩ := (JF.exp ha).join (JF.exp hb) nab
 obtain ⟨L2, hL2, h2, _⟩ := h1.join (JF.exp hc) (qer fa fb hL1 nac nbc)
 obtain ⟨L3, hL3, h3, _⟩ := (JF.exp hb).join (JF.exp hc) nbc
 obtain ⟨L4, hL4, h4, _⟩ := (JF.exp ha).join h3 (qba (qer fb fc hL3 (qba nab) (qba nac)))
 rw [← h2.st, ← h4.st]
 congr 1
 refine qhw h2.form h4.form (fun e => ?_) (fun d => ?_) (fun r => ?_)
 ·rw [q31 h1.form fc hL2, q31 fa fb hL1, q31 fa h3.form hL4, q31 fb fc hL3, or_assoc]
 ·rw [q3p, q3p, q3p, q3p, or_assoc]
 ·rw [q3o h1.form fc, q3o fa fb, q3o fa h3.form, q3o fb fc, or_assoc]
theorem qrl {a b : Swt} : q7m a b = 0 ↔ FormS a ∧ FormS b ∧ NC a b := by
 rw [qed]
 constructor
 ·rintro ⟨h1, h2, M, hM⟩
  refine ⟨h1, h2, fun hc => ?_⟩
  rw [(q53 h1 h2).1.2 hc] at hM
  cases hM
 ·rintro ⟨h1, h2, hc⟩
  refine ⟨h1, h2, ?_⟩
  cases hm : q21 a b with
  | none => exact absurd ((q53 h1 h2).1.1 hm) hc
  | some M => exact ⟨M, rfl⟩
theorem qee (a b : Swt) : q7m a b = q7m b a := by
 unfold q7m
 by_cases h : FormS a ∧ FormS b
 ·rw [if_pos h, if_pos h.symm]
  by_cases hc : Clash a.live b.live
  ·rw [if_pos hc, if_pos (q8o hc)]
  ·rw [if_neg hc, if_neg fun h' => hc (q8o h')]
 ·rw [if_neg h, if_neg fun h' => h h'.symm]
theorem q4l {a b : Swt} (ha : FormS a) (hb : FormS b) (nc : NC a b) : q7m a b = 0 ∧ q4e a b = q0o a b :=
 have h := qrl.2 ⟨ha, hb, nc⟩
 ⟨h, q3t h⟩
theorem z96 (a b : Swt) : q4e a b = q4e b a := by
 by_cases h : q7m a b = 0
 ·obtain ⟨h1, h2, h3⟩ := qrl.1 h
  rw [q3t h, q3t (by rw [qee]; exact h), qoz h1 h2 h3]
 ·rw [q7u h, q7u (by rw [qee]; exact h)]
theorem z94 {a b c : Swt} (ha : FormS a) (hb : FormS b) (hc : FormS c) (nab : NC a b) (nac : NC a c) (nbc : NC b c) : q0o (q0o (q0o a b) c) b = q0o (q0o a b) c := by
 have hs := q6p ha hb nab
 have nsb : NC (q0o a b) b := qb1 ha hb nab nab (qax hb)
 have nsc : NC (q0o a b) c := qb1 ha hb nab nac nbc
 have e : q0o (q0o a b) b = q0o a b := by rw [q8g ha hb hb nab nab (qax hb), qoy hb]
 rw [q8g hs hc hb nsc nsb nbc.symm, ← qoz hb hc nbc, ← q8g hs hb hc nsb nsc nbc, e]

def zi5 : List SOp := [⟨some 2,.box 31 (.tmp 0),none⟩,⟨some 3,.box 31 (.tmp 1),none⟩,⟨some 4,.assign (.const (.bool false)),none⟩]
instance : Live zi5 := ⟨[0,1]⟩
def zi4 : List SOp := [⟨some 10,.makeMap 110 none,none⟩,⟨some 5,.assign (.tmp 10),none⟩]
instance : Live zi4 := ⟨[2,3]⟩
def zi3 : List SOp := [⟨some 6,.assign (.const (.int .i64 0)),none⟩]
instance : Live zi3 := ⟨[2,3,5]⟩
def zi2 : List SOp := [⟨some 11,.move (.tmp 6),none⟩,⟨some 12,.fieldAddr 31 (.tmp 2) 0,none⟩,⟨some 13,.load 22 (.tmp 12),none⟩,⟨some 14,.call ⟨.builtin .len,#[.tmp 13],#[22]⟩,none⟩,⟨some 15,.binOp .lss 3 (.tmp 11) (.tmp 14) 3,none⟩]
instance : Live zi2 := ⟨[2,3,5,6]⟩
def zi1 : List SOp := [⟨some 18,.move (.tmp 5),none⟩,⟨some 19,.fieldAddr 31 (.tmp 2) 0,none⟩,⟨some 20,.load 22 (.tmp 19),none⟩,⟨some 21,.move (.tmp 6),none⟩,⟨some 22,.indexAddr 22 (.tmp 20) (.tmp 21),none⟩,⟨some 23,.fieldAddr 62 (.tmp 22) 0,none⟩,⟨some 24,.load 41 (.tmp 23),none⟩,⟨some 25,.fieldAddr 31 (.tmp 2) 0,none⟩,⟨some 26,.load 22 (.tmp 25),none⟩,⟨some 27,.move (.tmp 6),none⟩,⟨some 28,.indexAddr 22 (.tmp 26) (.tmp 27),none⟩,⟨some 29,.load 62 (.tmp 28),none⟩,⟨none,.mapUpdate 110 (.tmp 18) (.tmp 24) (.tmp 29),none⟩]
instance : Live zi1 := ⟨[2,3,5,6]⟩
def zi0 : List SOp := [⟨some 16,.move (.tmp 6),none⟩,⟨some 17,.binOp .add 3 (.tmp 16) (.const (.int .i64 1)) 3,none⟩,⟨some 6,.assign (.tmp 17),none⟩]
instance : Live zi0 := ⟨[2,3,5,6]⟩
def zhz : List SOp := [⟨some 7,.assign (.const (.int .i64 0)),none⟩]
instance : Live zhz := ⟨[3,5]⟩
def zhy : List SOp := [⟨some 30,.move (.tmp 7),none⟩,⟨some 31,.fieldAddr 31 (.tmp 3) 0,none⟩,⟨some 32,.load 22 (.tmp 31),none⟩,⟨some 33,.call ⟨.builtin .len,#[.tmp 32],#[22]⟩,none⟩,⟨some 34,.binOp .lss 3 (.tmp 30) (.tmp 33) 3,none⟩]
instance : Live zhy := ⟨[3,5,7]⟩
def zhx : List SOp := [⟨some 38,.move (.tmp 5),none⟩,⟨some 39,.fieldAddr 31 (.tmp 3) 0,none⟩,⟨some 40,.load 22 (.tmp 39),none⟩,⟨some 41,.move (.tmp 7),none⟩,⟨some 42,.indexAddr 22 (.tmp 40) (.tmp 41),none⟩,⟨some 43,.fieldAddr 62 (.tmp 42) 0,none⟩,⟨some 44,.load 41 (.tmp 43),none⟩,⟨some 45,.lookup 110 (.tmp 38) (.tmp 44) true,none⟩,⟨some 37,.move (.tmp 45),none⟩,⟨some 46,.extract (.tmp 37) 0,none⟩,⟨some 47,.extract (.tmp 37) 1,none⟩,⟨some 8,.alloc 62,none⟩,⟨none,.store 62 (.tmp 8) (.tmp 46),none⟩,⟨some 9,.assign (.tmp 47),none⟩]
instance : Live zhx := ⟨[3,5,7]⟩
def qun : List SOp := [⟨some 48,.move (.tmp 9),none⟩,⟨some 49,.move (.tmp 48),none⟩,⟨some 50,.load 62 (.tmp 8),some ((some 49),true)⟩,⟨some 51,.fieldAddr 31 (.tmp 3) 0,some ((some 49),true)⟩,⟨some 52,.load 22 (.tmp 51),some ((some 49),true)⟩,⟨some 53,.move (.tmp 7),some ((some 49),true)⟩,⟨some 54,.indexAddr 22 (.tmp 52) (.tmp 53),some ((some 49),true)⟩,⟨some 55,.load 62 (.tmp 54),some ((some 49),true)⟩,⟨some 56,.binOp .neq 62 (.tmp 50) (.tmp 55) 62,some ((some 49),true)⟩,⟨some 57,.pick (.tmp 49) (.tmp 56) (.const (.bool false)),none⟩]
instance : Live qun := ⟨[3,5,7,8,9]⟩
def qum : List SOp := [⟨some 4,.assign (.const (.bool true)),none⟩]
instance : Live qum := ⟨[]⟩
def qul : List SOp := [⟨some 35,.move (.tmp 7),none⟩,⟨some 36,.binOp .add 3 (.tmp 35) (.const (.int .i64 1)) 3,none⟩,⟨some 7,.assign (.tmp 36),none⟩]
instance : Live qul := ⟨[3,5,7]⟩
def quk : List SOp := [⟨some 4,.assign (.const (.bool false)),none⟩]
instance : Live quk := ⟨[]⟩
def qsw : SC :=
 (.seq (.seq (.ops false zi2) (.cond (.tmp 15) .skip (.exit 0))) (.seq (.block 1 (.ops true zi1)) (.ops false zi0)))
def qsv : SC :=
 (.seq (.seq (.ops false zhy) (.cond (.tmp 34) .skip (.exit 2))) (.seq (.block 3 (.seq (.ops false zhx) (.seq (.ops true qun) (.cond (.tmp 57) (.seq (.ops false qum) .ret) .skip)))) (.ops false qul)))
def t_k27 : SC :=
 (.seq (.ops false zi5) (.seq (.ops false zi4) (.seq (.seq (.ops false zi3) (.block 0 (.loop qsw))) (.seq (.seq (.ops false zhz) (.block 2 (.loop qsv))) (.seq (.ops false quk) .ret)))))
theorem it_k27 : FnIs Tryz.prog 27 58 [.tmp 4] t_k27 := ⟨Tryz.f27, _, Tryz.func27, rfl, rfl, rfl, rfl, by kernel_rfl⟩

section
def zk5 {α : Type} (kd : α → Rn) (d : Rn) : List α → Nat → Option (Nat × α)
 | [], _ => none
 | e :: r, i => if kd e = d then some (i, e) else zk5 kd d r (i + 1)
def qdp {α : Type} (kd : α → Rn) (f : α → AVal) (l : List α) : List (AVal × AVal) := l.map fun e => (.agg [.int .i64 (kd e).1, .int .i64 (kd e).2], f e)
theorem eqA_dot (a b : Rn) : eqA TE0 EQ0 20 41 (.agg [.int .i64 a.1, .int .i64 a.2]) (.agg [.int .i64 b.1, .int .i64 b.2]) = some (decide (a.1 = b.1) && (decide (a.2 = b.2) && true)) := by
 simp (disch := omega) only [↓Bp, Bq, qby, qig, En_P, TD.isAgg, AVal.known, AVal.cells, AVal.one, AVal.plain, cst, reduceCtorEq, ↓reduceIte, Nat.reduceAdd, Nat.reduceMul, Nat.reduceLeDiff, Nat.reduceEqDiff, Nat.reduceBEq, Bt, bqs, eqA, z9o, EQ0, eqL]
theorem qdr {α : Type} (kd : α → Rn) (f : α → AVal) (d : Rn) : ∀ (l : List α) (i : Nat),
 q8s TE0 EQ0 41 (.agg [.int .i64 d.1, .int .i64 d.2]) (qdp kd f l) i = some ((zk5 kd d l i).map fun p => (p.1, f p.2))
 | [], i => rfl
 | e :: l, i => by
  show q8s TE0 EQ0 41 (.agg [.int .i64 d.1, .int .i64 d.2]) ((.agg [.int .i64 (kd e).1, .int .i64 (kd e).2], f e) :: qdp kd f l) i = _
  rw [q8s, eqA_dot, zk5]
  by_cases h : kd e = d
  ·subst h
   simp [zka, qq3]
  ·have hb : (decide (d.1 = (kd e).1) && (decide (d.2 = (kd e).2) && true)) = false := by
    rw [← Bool.not_eq_true]
    intro hh
    simp only [Bool.and_eq_true, decide_eq_true_eq, and_true] at hh
    exact h (Prod.ext hh.1.symm hh.2.symm)
   rw [hb, if_neg h]
   simp only
   rw [qdr kd f d l (i + 1)]
theorem qov {α : Type} {kd : α → Rn} {d : Rn} : ∀ {l : List α} {i : Nat}, (∀ e ∈ l, kd e ≠ d) → zk5 kd d l i = none
 | [], _, _ => rfl
 | e :: l, i, h => by
  rw [zk5, if_neg (h e (by simp))]
  exact qov fun x hx => h x (by simp [hx])
theorem qou {α : Type} {kd : α → Rn} {d : Rn} : ∀ {l : List α} {i : Nat} {p : Nat × α}, zk5 kd d l i = some p → p.2 ∈ l ∧ kd p.2 = d
 | [], _, _, h => by simp [zk5] at h
 | e :: l, i, p, h => by
  rw [zk5] at h
  split at h
  ·rename_i he
   cases h
   exact ⟨by simp, he⟩
  ·have := qou h
   exact ⟨by simp [this.1], this.2⟩
theorem z74 {α : Type} {kd : α → Rn} {d : Rn} : ∀ {l : List α} {i : Nat}, zk5 kd d l i = none → ∀ e ∈ l, kd e ≠ d
 | [], _, _, e, he => by cases he
 | x :: l, i, h, e, he => by
  rw [zk5] at h
  split at h
  ·cases h
  ·rename_i hx
   rcases List.mem_cons.1 he with rfl | he
   ·exact hx
   ·exact z74 h e he
theorem qqz {α : Type} {kd : α → Rn} {f : α → AVal} {l : List α} {i : Nat} {e : α} (h : l[i]? = some e) :
 qdp kd f (l.take (i + 1)) = qdp kd f (l.take i) ++ [(.agg [.int .i64 (kd e).1, .int .i64 (kd e).2], f e)] := by
 unfold qdp
 rw [List.take_add_one, h]
 simp
def mstb (es : List (AVal × AVal)) : Bool := es.all fun p => p.1.stb && p.2.stb
theorem map_no {K : Nat → Bool} {es : List (AVal × AVal)} (h : mstb es = true) : (ABlk.map es).no K = true := by
 show es.all (fun p => p.1.no K && p.2.no K) = true
 rw [List.all_eq_true]
 intro p hp
 have := List.all_eq_true.1 h p hp
 rw [Bool.and_eq_true] at this ⊢
 exact ⟨q1f this.1, q1f this.2⟩
theorem z8q {α : Type} {kd : α → Rn} {f : α → AVal} (hf : ∀ e, (f e).stb = true) (l : List α) : mstb (qdp kd f l) = true := by
 unfold mstb
 rw [List.all_eq_true]
 intro p hp
 obtain ⟨e, _, rfl⟩ := List.mem_map.1 hp
 show (true && (f e).stb) = true
 rw [hf]
 rfl
section
variable {n : Nat} {T : q1x} {M : Mem}
theorem zb2 {l : List (Nat × AVal)} {m : List (Nat × ABlk)}
 (h : allT T l := by repeat (first | exact trivial | refine ⟨by with_unfolding_all rfl, ?_⟩ | (refine ⟨by simp [↓q72, ↓q40, ↓q5e, ↓NoM', hW], ?_⟩)))
 (hm : allM M m := by repeat (first | exact trivial | refine ⟨by with_unfolding_all rfl, ?_⟩ | (refine ⟨by simp [↓q72, ↓q40, ↓q5e, ↓NoM', hW], ?_⟩)))
 (hn : qq5 (qqw m) l := by repeat (first | exact trivial | (refine ⟨?_, ?_⟩; focus (first | with_unfolding_all rfl | (apply q1f; simp only [q0j, AVal.stb, q03, q07, q11, q04, q0s, q0b, q16, Bool.and_true, Bool.true_and, Bool.and_self, hW]; done)))))
 (hb : qrx (qqw m) m := by repeat (first | exact trivial | (refine ⟨?_, ?_⟩; focus (first | with_unfolding_all rfl | (apply map_no; simp only [hW]; done) | (apply qge; simp only [q0j, AVal.stb, q03, q07, q11, q04, q0s, q0b, q16, Bool.and_true, Bool.true_and, Bool.and_self, hW]; done) | exact q2q _ _ | exact qi6 _ _ | exact qi8 _ _ | (apply qal; simp only [q0j, AVal.stb, q03, q07, q11, q04, q0s, q0b, q16, Bool.and_true, Bool.true_and, Bool.and_self, hW]; done) | (apply qia; simp only [qib, z7u, List.all_cons, List.all_nil, q0j, AVal.stb, q03, q07, q11, q04, q0s, q0b, q16, Bool.and_true, Bool.true_and, Bool.and_self, hW]; done) | (simp [ABlk.no, AVal.noC, AVal.no, AVal.stb, q0j, q03, q07, q11, q04, q0s, q0b, q16, hW]; done))))) :
 Wk n ⟨T, M⟩ ⟨tms l, mms m⟩ := Wk.toL l m h hm hn hb
end
abbrev q9c (l : List Ent) : List (AVal × AVal) := qdp Ent.dot q93 l
open Classical in
noncomputable def clsh (a b : Swt) : Bool := decide (Clash a.live b.live)
theorem q87 {a b : Swt} (h : Clash a.live b.live) : clsh a b = true := by classical exact decide_eq_true h
theorem q6w {a b : Swt} (h : NC a b) : clsh a b = false := by classical exact decide_eq_false h
theorem z7m (a b : Swt) (hfa : FormS a) (ha : wtS a ≤ 3000000) (hb : wtS b ≤ 3000000) : Ev (En Tryz.prog rfl).P 27 [q36 a, q36 b] (.ret (.bool (clsh a b))) := by
 refine Ev.of_body it_k27 (by simp) (Run.start ?_)
 unfold t_k27 q36
 obtain ⟨u1, u2, u3, u4, u5⟩ := q27 ha
 obtain ⟨w1, w2, w3, w4, w5⟩ := q27 hb
 have hS := qk2
 have hca := q96 a.live a.past.vec a.past.cloud a.defer
 have hcb := q96 b.live b.past.vec b.past.cloud b.defer
 have e1 := q0m a.live
 have e2 := q0m b.live
 have hmn := fun l => z8q (kd := Ent.dot) qah l
 (have hF := (aI @hca @hcb); refine q01 (k:=?_); clear hF)
 refine Run.while (σ := Nat) (fun i => ⟨tms [(2, .ptr 2 0), (3, .ptr 3 0), (5, .mp 10), (6, .int .i64 (i : Int))], mms [(2, .cells [.sl 4 (q0e a.live), .sl 1 (q05 a.past.vec), .sl 3 (q0c a.past.cloud), .sl 3 (q09 a.defer)]), (3, .cells [.sl 4 (q0e b.live), .sl 1 (q05 b.past.vec), .sl 3 (q0c b.past.cloud), .sl 3 (q09 b.defer)]), (10, .map (q9c (a.live.take i)))]⟩)
  (fun i => i ≤ a.live.length) (fun i => a.live.length - i) 0 (have hW := (aI @q02 (aI @q06 @hmn)); zb2) (Nat.zero_le _) ?_
 intro i hi
 unfold qsw
 by_cases hlt : i < a.live.length
 ·obtain ⟨e, he⟩ : ∃ e, a.live[i]? = some e := ⟨a.live[i], by simp [hlt]⟩
  have g1 := q0u he
  have hf : q8s TE0 EQ0 41 (.agg [.int .i64 e.rep, .int .i64 e.num]) (q9c (a.live.take i)) 0 = some none := by
   have := qdr Ent.dot q93 e.dot (a.live.take i) 0
   rw [qov] at this
   ·exact this
   ·intro x hx hd
    obtain ⟨m, hm⟩ := List.mem_iff_getElem?.1 hx
    have hmi : m < i := by
     have := (List.getElem?_eq_some_iff.1 hm).1
     simp at this
     omega
    rw [List.getElem?_take_of_lt hmi] at hm
    have hlm := (List.getElem?_eq_some_iff.1 hm)
    have hle := (List.getElem?_eq_some_iff.1 he)
    have := List.pairwise_iff_getElem.1 (q42 hfa.live.2) m i hlm.1 hle.1 hmi
    rw [hlm.2, hle.2] at this
    exact q43 this hd
  have hsn : q9c (a.live.take i) ++ [(.agg [.int .i64 e.rep, .int .i64 e.num], .agg [.int .i64 e.rep, .int .i64 e.num, .str e.sku, .int .i64 e.qty])] = q9c (a.live.take (i + 1)) := (qqz he).symm
  (have hF := (aI (aI @hca @hcb) (aI @e1 (aI @g1 @hf))); refine q01 (k:=?_); clear hF)
  (refine Fin.nextW (i + 1) ?_ (have hW := (aI (aI @q02 @q06) (aI @hmn @hsn)); zb2); (try dsimp only))
  exact ⟨hlt, by omega⟩
 ·have hil : a.live.take i = a.live := List.take_of_length_le (by omega)
  rw [hil]
  (have hF := (aI @hca (aI @hcb @e1)); refine q01 (k:=?_); clear hF)
  refine Run.while (σ := Nat) (fun j => ⟨tms [(3, .ptr 3 0), (5, .mp 10), (7, .int .i64 (j : Int))], mms [(3, .cells [.sl 4 (q0e b.live), .sl 1 (q05 b.past.vec), .sl 3 (q0c b.past.cloud), .sl 3 (q09 b.defer)]), (10, .map (q9c a.live))]⟩)
   (fun j => j ≤ b.live.length ∧ ∀ (m : Nat) e, m < j → b.live[m]? = some e → ∀ x ∈ a.live, x.dot = e.dot → x = e) (fun j => b.live.length - j) 0 (have hW := (aI @q02 (aI @q06 @hmn)); zb2) ⟨Nat.zero_le _, fun m e hm => absurd hm (Nat.not_lt_zero _)⟩ ?_
  rintro j ⟨hj, hJ⟩
  unfold qsv
  by_cases hjl : j < b.live.length
  ·obtain ⟨e, he⟩ : ∃ e, b.live[j]? = some e := ⟨b.live[j], by simp [hjl]⟩
   have g2 := q0u he
   have hstep : (∀ x ∈ a.live, x.dot = e.dot → x = e) → ∀ (m : Nat) y, m < j + 1 → b.live[m]? = some y → ∀ x ∈ a.live, x.dot = y.dot → x = y := fun h m y hm hy => by
    by_cases hmj : m = j
    ·subst hmj; rw [he] at hy; cases hy; exact h
    ·exact hJ m y (by omega) hy
   have hf := qdr Ent.dot q93 e.dot a.live 0
   cases hmd : zk5 Ent.dot e.dot a.live 0 with
   | none =>
    rw [hmd] at hf
    replace hf : q8s TE0 EQ0 41 (.agg [.int .i64 e.rep, .int .i64 e.num]) (q9c a.live) 0 = some none := hf
    have hs := hstep fun x hx hd => absurd hd (z74 hmd x hx)
    (have hF := (aI (aI @hca @hcb) (aI @e2 (aI @g2 @hf))); refine q01 (k:=?_); clear hF)
    (refine Fin.nextW (j + 1) ?_ (have hW := (aI @q02 (aI @q06 @hmn)); zb2); (try dsimp only))
    exact ⟨⟨hjl, hs⟩, by omega⟩
   | some p =>
    obtain ⟨m, x⟩ := p
    rw [hmd] at hf
    replace hf : q8s TE0 EQ0 41 (.agg [.int .i64 e.rep, .int .i64 e.num]) (q9c a.live) 0 = some (some (m, .agg [.int .i64 x.rep, .int .i64 x.num, .str x.sku, .int .i64 x.qty])) := hf
    obtain ⟨hx, hd⟩ := qou hmd
    simp only at hx hd
    by_cases hxe : x = e
    ·have hs := hstep fun y hy hyd => by
      rw [← hxe]
      exact qfw hfa.live hy hx (hyd.trans hd.symm)
     rw [hxe] at hf
     have hq : (decide (e.rep = e.rep) && (decide (e.num = e.num) && (decide (e.sku = e.sku) && (decide (e.qty = e.qty) && true)))) = true := by simp
     (have hF := (aI (aI @hca (aI @hcb @e2)) (aI @g2 (aI @hf @hq))); refine q01 (k:=?_); clear hF)
     (refine Fin.nextW (j + 1) ?_ (have hW := (aI @q02 (aI @q06 @hmn)); zb2); (try dsimp only))
     exact ⟨⟨hjl, hs⟩, by omega⟩
    ·rw [q87 ⟨x, hx, e, List.mem_of_getElem? he, hd, hxe⟩]
     (focus (have hF := (aI (aI @hca @hcb) (aI @e2 (aI @g2 @hf))); (repeat' (first | refine go1 (k:=?_) | with_reducible refine Ny.of ?_ ?_ | (refine Hyp.of ?_; intro hc; (try simp only [hc]); (try simp only [Bh] at hc)))); all_goals clear hF))
     ·exact Fin.tmp' rfl rfl
     ·exact absurd (qrm hc.1.1 hc.1.2 hc.2.1 hc.2.2) hxe
  ·rw [q6w (fun ⟨x, hx, y, hy, hd, hne⟩ => by
    obtain ⟨m, hm⟩ := List.mem_iff_getElem?.1 hy
    have hlm : m < b.live.length := (List.getElem?_eq_some_iff.1 hm).1
    exact hne (hJ m y (by omega) hm x hx hd))]
   (have hF := (aI @hca (aI @hcb @e2)); refine q01 (k:=?_); clear hF)
   exact Fin.tmp' rfl rfl
end
def r_k5_1 : List SOp := [⟨some 3,.box 31 (.tmp 0),none⟩,⟨some 4,.box 31 (.tmp 1),none⟩,⟨some 5,.box 31 (.tmp 2),none⟩,⟨some 6,.assign (.const (.bool false)),none⟩]
instance : Live r_k5_1 := ⟨[0,1,2]⟩
def r_k5_2 : List SOp := [⟨some 19,.call ⟨.value (.func 24),#[],#[]⟩,none⟩,⟨some 20,.unOp .not 4 (.tmp 19),none⟩]
instance : Live r_k5_2 := ⟨[3,4,5]⟩
def r_k5_3 : List SOp := [⟨some 6,.assign (.const (.bool false)),none⟩]
instance : Live r_k5_3 := ⟨[]⟩
def r_k5_4 : List SOp := [⟨some 22,.load 31 (.tmp 3),none⟩,⟨some 23,.load 31 (.tmp 4),none⟩,⟨some 24,.call ⟨.value (.func 25),#[.tmp 22,.tmp 23],#[31,31]⟩,none⟩,⟨some 21,.move (.tmp 24),none⟩,⟨some 25,.extract (.tmp 21) 0,none⟩,⟨some 26,.extract (.tmp 21) 1,none⟩,⟨some 7,.alloc 31,none⟩,⟨none,.store 31 (.tmp 7) (.tmp 25),none⟩,⟨some 8,.assign (.tmp 26),none⟩]
instance : Live r_k5_4 := ⟨[3,4,5]⟩
def r_k5_5 : List SOp := [⟨some 28,.load 31 (.tmp 4),none⟩,⟨some 29,.load 31 (.tmp 3),none⟩,⟨some 30,.call ⟨.value (.func 25),#[.tmp 28,.tmp 29],#[31,31]⟩,none⟩,⟨some 27,.move (.tmp 30),none⟩,⟨some 31,.extract (.tmp 27) 0,none⟩,⟨some 32,.extract (.tmp 27) 1,none⟩,⟨some 9,.alloc 31,none⟩,⟨none,.store 31 (.tmp 9) (.tmp 31),none⟩,⟨some 10,.assign (.tmp 32),none⟩]
instance : Live r_k5_5 := ⟨[3,4,5,7,8]⟩
def r_k5_6 : List SOp := [⟨some 33,.move (.tmp 8),none⟩,⟨some 34,.move (.tmp 10),none⟩,⟨some 35,.binOp .neq 32 (.tmp 33) (.tmp 34) 32,none⟩,⟨some 36,.move (.tmp 35),none⟩,⟨some 37,.load 31 (.tmp 7),some ((some 36),false)⟩,⟨some 38,.load 31 (.tmp 9),some ((some 36),false)⟩,⟨some 39,.call ⟨.value (.func 15),#[.tmp 37,.tmp 38],#[31,31]⟩,some ((some 36),false)⟩,⟨some 40,.unOp .not 4 (.tmp 39),some ((some 36),false)⟩,⟨some 41,.pick (.tmp 36) (.const (.bool true)) (.tmp 40),none⟩]
instance : Live r_k5_6 := ⟨[3,4,5,7,8,9,10]⟩
def r_k5_7 : List SOp := [⟨some 6,.assign (.const (.bool false)),none⟩]
instance : Live r_k5_7 := ⟨[]⟩
def r_k5_8 : List SOp := [⟨some 42,.load 31 (.tmp 3),none⟩,⟨some 43,.call ⟨.value (.func 26),#[.tmp 42],#[31]⟩,none⟩,⟨some 44,.unOp .not 4 (.tmp 43),none⟩,⟨some 45,.move (.tmp 44),none⟩,⟨some 46,.load 31 (.tmp 4),some ((some 45),false)⟩,⟨some 47,.call ⟨.value (.func 26),#[.tmp 46],#[31]⟩,some ((some 45),false)⟩,⟨some 48,.unOp .not 4 (.tmp 47),some ((some 45),false)⟩,⟨some 49,.pick (.tmp 45) (.const (.bool true)) (.tmp 48),none⟩]
instance : Live r_k5_8 := ⟨[3,4,5,7,8]⟩
def r_k5_9 : List SOp := [⟨some 50,.move (.tmp 8),none⟩,⟨some 51,.binOp .eql 32 (.tmp 50) (.const (.int .i64 1)) 32,none⟩,⟨some 6,.assign (.tmp 51),none⟩]
instance : Live r_k5_9 := ⟨[8]⟩
def zf5 : List SOp := [⟨some 52,.load 31 (.tmp 3),none⟩,⟨some 53,.load 31 (.tmp 4),none⟩,⟨some 54,.call ⟨.value (.func 27),#[.tmp 52,.tmp 53],#[31,31]⟩,none⟩]
instance : Live zf5 := ⟨[3,4,5,7,8]⟩
def zf4 : List SOp := [⟨some 55,.move (.tmp 8),none⟩,⟨some 56,.binOp .eql 32 (.tmp 55) (.const (.int .i64 10)) 32,none⟩,⟨some 6,.assign (.tmp 56),none⟩]
instance : Live zf4 := ⟨[8]⟩
def zf3 : List SOp := [⟨some 58,.load 31 (.tmp 3),none⟩,⟨some 59,.load 31 (.tmp 3),none⟩,⟨some 60,.call ⟨.value (.func 25),#[.tmp 58,.tmp 59],#[31,31]⟩,none⟩,⟨some 57,.move (.tmp 60),none⟩,⟨some 61,.extract (.tmp 57) 0,none⟩,⟨some 62,.extract (.tmp 57) 1,none⟩,⟨some 11,.alloc 31,none⟩,⟨none,.store 31 (.tmp 11) (.tmp 61),none⟩,⟨some 12,.assign (.tmp 62),none⟩]
instance : Live zf3 := ⟨[3,4,5,7,8]⟩
def zf2 : List SOp := [⟨some 64,.load 31 (.tmp 3),none⟩,⟨some 65,.build 31 #[],none⟩,⟨some 66,.call ⟨.value (.func 25),#[.tmp 64,.tmp 65],#[31,31]⟩,none⟩,⟨some 63,.move (.tmp 66),none⟩,⟨some 67,.extract (.tmp 63) 0,none⟩,⟨some 68,.extract (.tmp 63) 1,none⟩,⟨some 13,.alloc 31,none⟩,⟨none,.store 31 (.tmp 13) (.tmp 67),none⟩,⟨some 14,.assign (.tmp 68),none⟩]
instance : Live zf2 := ⟨[3,4,5,7,8,11,12]⟩
def zf1 : List SOp := [⟨some 69,.move (.tmp 8),none⟩,⟨some 70,.binOp .neq 32 (.tmp 69) (.const (.int .i64 0)) 32,none⟩,⟨some 71,.move (.tmp 70),none⟩,⟨some 72,.move (.tmp 12),some ((some 71),false)⟩,⟨some 73,.binOp .neq 32 (.tmp 72) (.const (.int .i64 0)) 32,some ((some 71),false)⟩,⟨some 74,.pick (.tmp 71) (.const (.bool true)) (.tmp 73),none⟩,⟨some 75,.move (.tmp 74),none⟩,⟨some 76,.move (.tmp 14),some ((some 75),false)⟩,⟨some 77,.binOp .neq 32 (.tmp 76) (.const (.int .i64 0)) 32,some ((some 75),false)⟩,⟨some 78,.pick (.tmp 75) (.const (.bool true)) (.tmp 77),none⟩,⟨some 79,.move (.tmp 78),none⟩,⟨some 80,.load 31 (.tmp 11),some ((some 79),false)⟩,⟨some 81,.load 31 (.tmp 3),some ((some 79),false)⟩,⟨some 82,.call ⟨.value (.func 15),#[.tmp 80,.tmp 81],#[31,31]⟩,some ((some 79),false)⟩,⟨some 83,.unOp .not 4 (.tmp 82),some ((some 79),false)⟩,⟨some 84,.pick (.tmp 79) (.const (.bool true)) (.tmp 83),none⟩,⟨some 85,.move (.tmp 84),none⟩,⟨some 86,.load 31 (.tmp 13),some ((some 85),false)⟩,⟨some 87,.load 31 (.tmp 3),some ((some 85),false)⟩,⟨some 88,.call ⟨.value (.func 15),#[.tmp 86,.tmp 87],#[31,31]⟩,some ((some 85),false)⟩,⟨some 89,.unOp .not 4 (.tmp 88),some ((some 85),false)⟩,⟨some 90,.pick (.tmp 85) (.const (.bool true)) (.tmp 89),none⟩,⟨some 91,.move (.tmp 90),none⟩,⟨some 92,.load 31 (.tmp 7),some ((some 91),false)⟩,⟨some 93,.call ⟨.value (.func 26),#[.tmp 92],#[31]⟩,some ((some 91),false)⟩,⟨some 94,.unOp .not 4 (.tmp 93),some ((some 91),false)⟩,⟨some 95,.pick (.tmp 91) (.const (.bool true)) (.tmp 94),none⟩]
instance : Live zf1 := ⟨[3,4,5,7,8,11,12,13,14]⟩
def zf0 : List SOp := [⟨some 6,.assign (.const (.bool false)),none⟩]
instance : Live zf0 := ⟨[]⟩
def zez : List SOp := [⟨some 96,.load 31 (.tmp 5),none⟩,⟨some 97,.call ⟨.value (.func 26),#[.tmp 96],#[31]⟩,none⟩,⟨some 98,.unOp .not 4 (.tmp 97),none⟩,⟨some 99,.move (.tmp 98),none⟩,⟨some 100,.load 31 (.tmp 3),some ((some 99),false)⟩,⟨some 101,.load 31 (.tmp 5),some ((some 99),false)⟩,⟨some 102,.call ⟨.value (.func 27),#[.tmp 100,.tmp 101],#[31,31]⟩,some ((some 99),false)⟩,⟨some 103,.pick (.tmp 99) (.const (.bool true)) (.tmp 102),none⟩,⟨some 104,.move (.tmp 103),none⟩,⟨some 105,.load 31 (.tmp 4),some ((some 104),false)⟩,⟨some 106,.load 31 (.tmp 5),some ((some 104),false)⟩,⟨some 107,.call ⟨.value (.func 27),#[.tmp 105,.tmp 106],#[31,31]⟩,some ((some 104),false)⟩,⟨some 108,.pick (.tmp 104) (.const (.bool true)) (.tmp 107),none⟩]
instance : Live zez := ⟨[3,4,5,7]⟩
def zey : List SOp := [⟨some 6,.assign (.const (.bool true)),none⟩]
instance : Live zey := ⟨[]⟩
def zex : List SOp := [⟨some 110,.load 31 (.tmp 4),none⟩,⟨some 111,.load 31 (.tmp 5),none⟩,⟨some 112,.call ⟨.value (.func 25),#[.tmp 110,.tmp 111],#[31,31]⟩,none⟩,⟨some 109,.move (.tmp 112),none⟩,⟨some 113,.extract (.tmp 109) 0,none⟩,⟨some 114,.extract (.tmp 109) 1,none⟩,⟨some 15,.alloc 31,none⟩,⟨none,.store 31 (.tmp 15) (.tmp 113),none⟩,⟨some 8,.assign (.tmp 114),none⟩]
instance : Live zex := ⟨[3,4,5,7]⟩
def zew : List SOp := [⟨some 116,.load 31 (.tmp 7),none⟩,⟨some 117,.load 31 (.tmp 5),none⟩,⟨some 118,.call ⟨.value (.func 25),#[.tmp 116,.tmp 117],#[31,31]⟩,none⟩,⟨some 115,.move (.tmp 118),none⟩,⟨some 119,.extract (.tmp 115) 0,none⟩,⟨some 120,.extract (.tmp 115) 1,none⟩,⟨some 16,.alloc 31,none⟩,⟨none,.store 31 (.tmp 16) (.tmp 119),none⟩,⟨some 10,.assign (.tmp 120),none⟩]
instance : Live zew := ⟨[3,4,5,7,8,15]⟩
def zev : List SOp := [⟨some 122,.load 31 (.tmp 3),none⟩,⟨some 123,.load 31 (.tmp 15),none⟩,⟨some 124,.call ⟨.value (.func 25),#[.tmp 122,.tmp 123],#[31,31]⟩,none⟩,⟨some 121,.move (.tmp 124),none⟩,⟨some 125,.extract (.tmp 121) 0,none⟩,⟨some 126,.extract (.tmp 121) 1,none⟩,⟨some 17,.alloc 31,none⟩,⟨none,.store 31 (.tmp 17) (.tmp 125),none⟩,⟨some 12,.assign (.tmp 126),none⟩]
instance : Live zev := ⟨[3,4,8,10,15,16]⟩
def zeu : List SOp := [⟨some 127,.move (.tmp 8),none⟩,⟨some 128,.binOp .neq 32 (.tmp 127) (.const (.int .i64 0)) 32,none⟩,⟨some 129,.move (.tmp 128),none⟩,⟨some 130,.move (.tmp 10),some ((some 129),false)⟩,⟨some 131,.binOp .neq 32 (.tmp 130) (.const (.int .i64 0)) 32,some ((some 129),false)⟩,⟨some 132,.pick (.tmp 129) (.const (.bool true)) (.tmp 131),none⟩,⟨some 133,.move (.tmp 132),none⟩,⟨some 134,.move (.tmp 12),some ((some 133),false)⟩,⟨some 135,.binOp .neq 32 (.tmp 134) (.const (.int .i64 0)) 32,some ((some 133),false)⟩,⟨some 136,.pick (.tmp 133) (.const (.bool true)) (.tmp 135),none⟩,⟨some 137,.move (.tmp 136),none⟩,⟨some 138,.load 31 (.tmp 16),some ((some 137),false)⟩,⟨some 139,.load 31 (.tmp 17),some ((some 137),false)⟩,⟨some 140,.call ⟨.value (.func 15),#[.tmp 138,.tmp 139],#[31,31]⟩,some ((some 137),false)⟩,⟨some 141,.unOp .not 4 (.tmp 140),some ((some 137),false)⟩,⟨some 142,.pick (.tmp 137) (.const (.bool true)) (.tmp 141),none⟩]
instance : Live zeu := ⟨[4,8,10,12,16,17]⟩
def zet : List SOp := [⟨some 6,.assign (.const (.bool false)),none⟩]
instance : Live zet := ⟨[]⟩
def zes : List SOp := [⟨some 144,.load 31 (.tmp 16),none⟩,⟨some 145,.load 31 (.tmp 4),none⟩,⟨some 146,.call ⟨.value (.func 25),#[.tmp 144,.tmp 145],#[31,31]⟩,none⟩,⟨some 143,.move (.tmp 146),none⟩,⟨some 147,.extract (.tmp 143) 0,none⟩,⟨some 148,.extract (.tmp 143) 1,none⟩,⟨some 18,.alloc 31,none⟩,⟨none,.store 31 (.tmp 18) (.tmp 147),none⟩,⟨some 14,.assign (.tmp 148),none⟩]
instance : Live zes := ⟨[4,16]⟩
def zer : List SOp := [⟨some 149,.move (.tmp 14),none⟩,⟨some 150,.binOp .eql 32 (.tmp 149) (.const (.int .i64 0)) 32,none⟩,⟨some 151,.move (.tmp 150),none⟩,⟨some 152,.load 31 (.tmp 18),some ((some 151),true)⟩,⟨some 153,.load 31 (.tmp 16),some ((some 151),true)⟩,⟨some 154,.call ⟨.value (.func 15),#[.tmp 152,.tmp 153],#[31,31]⟩,some ((some 151),true)⟩,⟨some 155,.pick (.tmp 151) (.tmp 154) (.const (.bool false)),none⟩,⟨some 6,.assign (.tmp 155),none⟩]
instance : Live zer := ⟨[14,16,18]⟩
def t_k5 : SC :=
 (.seq (.ops false r_k5_1) (.seq (.seq (.ops false r_k5_2) (.cond (.tmp 20) (.seq (.ops false r_k5_3) .ret) .skip)) (.seq (.ops false r_k5_4) (.seq (.ops false r_k5_5) (.seq (.seq (.ops false r_k5_6) (.cond (.tmp 41) (.seq (.ops false r_k5_7) .ret) .skip)) (.seq (.seq (.ops false r_k5_8) (.cond (.tmp 49) (.seq (.ops false r_k5_9) .ret) .skip)) (.seq (.seq (.ops false zf5) (.cond (.tmp 54) (.seq (.ops false zf4) .ret) .skip)) (.seq (.ops false zf3) (.seq (.ops false zf2) (.seq (.seq (.ops false zf1) (.cond (.tmp 95) (.seq (.ops false zf0) .ret) .skip)) (.seq (.seq (.ops false zez) (.cond (.tmp 108) (.seq (.ops false zey) .ret) .skip)) (.seq (.ops false zex) (.seq (.ops false zew) (.seq (.ops false zev) (.seq (.seq (.ops false zeu) (.cond (.tmp 142) (.seq (.ops false zet) .ret) .skip)) (.seq (.ops false zes) (.seq (.ops false zer) .ret)))))))))))))))))
theorem it_k5 : FnIs Tryz.prog 5 156 [.tmp 6] t_k5 := ⟨Tryz.f5, _, Tryz.func5, rfl, rfl, rfl, rfl, by kernel_rfl⟩

theorem join_no {a : Swt} (ha : FormS a) : q0o a noS = a := by
 obtain ⟨L, hL, h1, _⟩ := (JF.exp ha).join (JF.exp q76) (nc_no a)
 have fa := q3c ha
 have fn := q3c q76
 have e : q5x (zl4 a) (zl4 noS) L = zl4 a := by
  refine qhw h1.form fa (fun e => ?_) (fun d => ?_) (fun r => ?_)
  ·rw [q31 fa fn hL]
   exact ⟨fun h => h.elim id fun h => (nomatch h), .inl⟩
  ·rw [q3p]
   refine ⟨fun h => h.elim id fun h => ?_, .inl⟩
   have h' : q1c (q2t noS.past (q4y noS.live)) d = true := h
   rw [qaa, Bool.and_eq_true] at h'
   have := h'.1
   rw [show noS.past = ⟨[], []⟩ from rfl, qqx] at this
   cases this
  ·rw [q3o fa fn]
   exact ⟨fun h => h.elim id fun h => (nomatch h), .inl⟩
 rw [← h1.st, e, qqo ha]
theorem ev_k5 (a b c : Swt) (hw : wtS a + wtS b + wtS c ≤ 1900000) : Ev (En Tryz.prog rfl).P 5 [q36 a, q36 b, q36 c] (.ret (.bool true)) := by
 refine Ev.of_body it_k5 (by simp) (Run.start ?_)
 unfold t_k5
 have hS := qk2
 have hca := q96 a.live a.past.vec a.past.cloud a.defer
 have hcb := q96 b.live b.past.vec b.past.cloud b.defer
 have hcc := q96 c.live c.past.vec c.past.cloud c.defer
 have c1 := q7f a b (by omega) (by omega)
 have c2 := q7f b a (by omega) (by omega)
 rw [← z96, ← qee] at c2
 have hjw := qa7 a b
 have c3 := q6j (q4e a b) (q4e a b) (by omega) (by omega)
 rw [qi2] at c3
 have f1 := qbo a (by omega)
 have f2 := qbo b (by omega)
 by_cases hf : FormS a ∧ FormS b
 case' neg =>
  have he : q7m a b = 1 := if_neg hf
  rw [he] at c1 c2
  generalize q4e a b = s at *
  have hcs := q96 s.live s.past.vec s.past.cloud s.defer
  unfold q36 at *
  by_cases h1 : FormS a
  ·rw [q1z h1] at f1
   rw [q3l (fun h => hf ⟨h1, h⟩)] at f2
   (have hF := (aI @hca (aI @hcb @hcc)); refine q01 (k:=?_); clear hF)
   refine q00 [] (he := q5k) (k:=?_)
   (have hF := (aI @hca (aI @hcb @hcc)); refine q01 (k:=?_); clear hF)
   refine q00 [_, _] (he := c1) (k:=?_)
   (have hF := (aI (aI @hca @hcb) (aI @hcc @hcs)); refine q01 (k:=?_); clear hF)
   refine q00 [_, _] (he := c2) (k:=?_)
   (have hF := (aI (aI @hca @hcb) (aI @hcc @hcs)); refine q01 (k:=?_); clear hF)
   refine q00 [_, _] (he := c3) (k:=?_)
   (have hF := (aI (aI @hca @hcb) (aI @hcc @hcs)); refine q01 (k:=?_); clear hF)
   refine q00 [_] (he := f1) (k:=?_)
   (have hF := (aI (aI @hca @hcb) (aI @hcc @hcs)); refine q01 (k:=?_); clear hF)
   refine q00 [_] (he := f2) (k:=?_)
   (have hF := (aI (aI @hca @hcb) (aI @hcc @hcs)); refine q01 (k:=?_); clear hF)
   exact Fin.tmp' rfl rfl
  ·rw [q3l h1] at f1
   (have hF := (aI @hca (aI @hcb @hcc)); refine q01 (k:=?_); clear hF)
   refine q00 [] (he := q5k) (k:=?_)
   (have hF := (aI @hca (aI @hcb @hcc)); refine q01 (k:=?_); clear hF)
   refine q00 [_, _] (he := c1) (k:=?_)
   (have hF := (aI (aI @hca @hcb) (aI @hcc @hcs)); refine q01 (k:=?_); clear hF)
   refine q00 [_, _] (he := c2) (k:=?_)
   (have hF := (aI (aI @hca @hcb) (aI @hcc @hcs)); refine q01 (k:=?_); clear hF)
   refine q00 [_, _] (he := c3) (k:=?_)
   (have hF := (aI (aI @hca @hcb) (aI @hcc @hcs)); refine q01 (k:=?_); clear hF)
   refine q00 [_] (he := f1) (k:=?_)
   (have hF := (aI (aI @hca @hcb) (aI @hcc @hcs)); refine q01 (k:=?_); clear hF)
   exact Fin.tmp' rfl rfl
 obtain ⟨h1, h2⟩ := hf
 have l1 := z7m a b h1 (by omega) (by omega)
 rw [q1z h1] at f1
 rw [q1z h2] at f2
 by_cases hn : NC a b
 case' neg =>
  have hcl : Clash a.live b.live := Classical.not_not.1 hn
  have he : q7m a b = 10 := by
   unfold q7m
   rw [if_pos ⟨h1, h2⟩, if_pos hcl]
  rw [he] at c1 c2
  rw [q87 hcl] at l1
  generalize q4e a b = s at *
  have hcs := q96 s.live s.past.vec s.past.cloud s.defer
  unfold q36 at *
  (have hF := (aI @hca (aI @hcb @hcc)); refine q01 (k:=?_); clear hF)
  refine q00 [] (he := q5k) (k:=?_)
  (have hF := (aI @hca (aI @hcb @hcc)); refine q01 (k:=?_); clear hF)
  refine q00 [_, _] (he := c1) (k:=?_)
  (have hF := (aI (aI @hca @hcb) (aI @hcc @hcs)); refine q01 (k:=?_); clear hF)
  refine q00 [_, _] (he := c2) (k:=?_)
  (have hF := (aI (aI @hca @hcb) (aI @hcc @hcs)); refine q01 (k:=?_); clear hF)
  refine q00 [_, _] (he := c3) (k:=?_)
  (have hF := (aI (aI @hca @hcb) (aI @hcc @hcs)); refine q01 (k:=?_); clear hF)
  refine q00 [_] (he := f1) (k:=?_)
  (have hF := (aI (aI @hca @hcb) (aI @hcc @hcs)); refine q01 (k:=?_); clear hF)
  refine q00 [_] (he := f2) (k:=?_)
  (have hF := (aI (aI @hca @hcb) (aI @hcc @hcs)); refine q01 (k:=?_); clear hF)
  refine q00 [_, _] (he := l1) (k:=?_)
  (have hF := (aI (aI @hca @hcb) (aI @hcc @hcs)); refine q01 (k:=?_); clear hF)
  exact Fin.tmp' rfl rfl
 obtain ⟨he, hj⟩ := q4l h1 h2 hn
 have h12 := q6p h1 h2 hn
 have f12 := qbo (q4e a b) (by omega)
 rw [hj, q1z h12] at f12
 have ea := q6j a a (by omega) (by omega)
 rw [qi2] at ea
 have c4 := q7f a a (by omega) (by omega)
 rw [(q4l h1 h1 (qax h1)).2, (q4l h1 h1 (qax h1)).1, qoy h1] at c4
 have c5 := q7f a noS (by omega) (by decide)
 rw [(q4l h1 q76 (nc_no a)).2, (q4l h1 q76 (nc_no a)).1, join_no h1] at c5
 replace c5 : Ev (En Tryz.prog rfl).P 25 [q36 a, .agg [.nil, .nil, .nil, .nil]] _ := c5.wks ⟨Wkn.refl _, Wkn.agg ⟨Wkn.nil 4, Wkn.nil 1, Wkn.nil 3, Wkn.nil 3, trivial⟩, trivial⟩
 rw [q6w hn] at l1
 have f3 := qbo c (by omega)
 have l2 := z7m a c h1 (by omega) (by omega)
 have l3 := z7m b c h2 (by omega) (by omega)
 rw [he, hj] at c1 c2
 rw [hj] at c3 hjw
 have c6 := q7f b c (by omega) (by omega)
 have c7 := q7f (q0o a b) c (by omega) (by omega)
 have hbw := qa7 b c
 have c8 := q7f a (q4e b c) (by omega) (by omega)
 have hlw := qa7 (q0o a b) c
 have c9 := q6j (q4e (q0o a b) c) (q4e (q0o a b) c) (by omega) (by omega)
 rw [qi2] at c9
 have c10 := q7f (q4e (q0o a b) c) b (by omega) (by omega)
 have fin : ∀ h3 : FormS c, ∀ n1 : NC a c, ∀ n2 : NC b c, (q7m b c = 0 ∧ q4e b c = q0o b c) ∧ (q7m (q0o a b) c = 0 ∧ q4e (q0o a b) c = q0o (q0o a b) c) ∧
  (q7m a (q0o b c) = 0 ∧ q4e a (q0o b c) = q0o (q0o a b) c) ∧ (q7m (q0o (q0o a b) c) b = 0 ∧ q4e (q0o (q0o a b) c) b = q0o (q0o a b) c) := fun h3 n1 n2 => by
  have q1 := q4l h2 h3 n2
  have nsc := qb1 h1 h2 hn n1 n2
  have q2 := q4l h12 h3 nsc
  have h23 := q6p h2 h3 n2
  have q3 := q4l h1 h23 (qb1 h2 h3 n2 hn.symm n1.symm).symm
  have hl := q6p h12 h3 nsc
  have nsb : NC (q0o a b) b := qb1 h1 h2 hn hn (qax h2)
  have q4 := q4l hl h2 (qb1 h12 h3 nsc nsb n2.symm)
  rw [← q8g h1 h2 h3 hn n1 n2] at q3
  rw [z94 h1 h2 h3 hn n1 n2] at q4
  exact ⟨q1, q2, q3, q4⟩
 generalize q0o a b = s at *
 have hcs := q96 s.live s.past.vec s.past.cloud s.defer
 by_cases h3 : FormS c
 case' neg =>
  rw [q3l h3] at f3
  clear fin c6 c7 c8 c9 c10
  unfold q36 at *
  (have hF := (aI @hca (aI @hcb @hcc)); refine q01 (k:=?_); clear hF)
  refine q00 [] (he := q5k) (k:=?_)
  (have hF := (aI @hca (aI @hcb @hcc)); refine q01 (k:=?_); clear hF)
  refine q00 [_, _] (he := c1) (k:=?_)
  (have hF := (aI (aI @hca @hcb) (aI @hcc @hcs)); refine q01 (k:=?_); clear hF)
  refine q00 [_, _] (he := c2) (k:=?_)
  (have hF := (aI (aI @hca @hcb) (aI @hcc @hcs)); refine q01 (k:=?_); clear hF)
  refine q00 [_, _] (he := c3) (k:=?_)
  (have hF := (aI (aI @hca @hcb) (aI @hcc @hcs)); refine q01 (k:=?_); clear hF)
  refine q00 [_] (he := f1) (k:=?_)
  (have hF := (aI (aI @hca @hcb) (aI @hcc @hcs)); refine q01 (k:=?_); clear hF)
  refine q00 [_] (he := f2) (k:=?_)
  (have hF := (aI (aI @hca @hcb) (aI @hcc @hcs)); refine q01 (k:=?_); clear hF)
  refine q00 [_, _] (he := l1) (k:=?_)
  (have hF := (aI (aI @hca @hcb) (aI @hcc @hcs)); refine q01 (k:=?_); clear hF)
  refine q00 [_, _] (he := c4) (k:=?_)
  (have hF := (aI (aI @hca @hcb) (aI @hcc @hcs)); refine q01 (k:=?_); clear hF)
  refine q00 [_, _] (he := c5) (k:=?_)
  (have hF := (aI (aI @hca @hcb) (aI @hcc @hcs)); refine q01 (k:=?_); clear hF)
  refine q00 [_, _] (he := ea) (k:=?_)
  (have hF := (aI (aI @hca @hcb) (aI @hcc @hcs)); refine q01 (k:=?_); clear hF)
  refine q00 [_, _] (he := ea) (k:=?_)
  (have hF := (aI (aI @hca @hcb) (aI @hcc @hcs)); refine q01 (k:=?_); clear hF)
  refine q00 [_] (he := f12) (k:=?_)
  (have hF := (aI (aI @hca @hcb) (aI @hcc @hcs)); refine q01 (k:=?_); clear hF)
  refine q00 [_] (he := f3) (k:=?_)
  (have hF := (aI (aI @hca @hcb) (aI @hcc @hcs)); refine q01 (k:=?_); clear hF)
  exact Fin.tmp' rfl rfl
 rw [q1z h3] at f3
 by_cases n1 : NC a c
 case' neg =>
  rw [q87 (Classical.not_not.1 n1)] at l2
  clear fin c6 c7 c8 c9 c10
  unfold q36 at *
  (have hF := (aI @hca (aI @hcb @hcc)); refine q01 (k:=?_); clear hF)
  refine q00 [] (he := q5k) (k:=?_)
  (have hF := (aI @hca (aI @hcb @hcc)); refine q01 (k:=?_); clear hF)
  refine q00 [_, _] (he := c1) (k:=?_)
  (have hF := (aI (aI @hca @hcb) (aI @hcc @hcs)); refine q01 (k:=?_); clear hF)
  refine q00 [_, _] (he := c2) (k:=?_)
  (have hF := (aI (aI @hca @hcb) (aI @hcc @hcs)); refine q01 (k:=?_); clear hF)
  refine q00 [_, _] (he := c3) (k:=?_)
  (have hF := (aI (aI @hca @hcb) (aI @hcc @hcs)); refine q01 (k:=?_); clear hF)
  refine q00 [_] (he := f1) (k:=?_)
  (have hF := (aI (aI @hca @hcb) (aI @hcc @hcs)); refine q01 (k:=?_); clear hF)
  refine q00 [_] (he := f2) (k:=?_)
  (have hF := (aI (aI @hca @hcb) (aI @hcc @hcs)); refine q01 (k:=?_); clear hF)
  refine q00 [_, _] (he := l1) (k:=?_)
  (have hF := (aI (aI @hca @hcb) (aI @hcc @hcs)); refine q01 (k:=?_); clear hF)
  refine q00 [_, _] (he := c4) (k:=?_)
  (have hF := (aI (aI @hca @hcb) (aI @hcc @hcs)); refine q01 (k:=?_); clear hF)
  refine q00 [_, _] (he := c5) (k:=?_)
  (have hF := (aI (aI @hca @hcb) (aI @hcc @hcs)); refine q01 (k:=?_); clear hF)
  refine q00 [_, _] (he := ea) (k:=?_)
  (have hF := (aI (aI @hca @hcb) (aI @hcc @hcs)); refine q01 (k:=?_); clear hF)
  refine q00 [_, _] (he := ea) (k:=?_)
  (have hF := (aI (aI @hca @hcb) (aI @hcc @hcs)); refine q01 (k:=?_); clear hF)
  refine q00 [_] (he := f12) (k:=?_)
  (have hF := (aI (aI @hca @hcb) (aI @hcc @hcs)); refine q01 (k:=?_); clear hF)
  refine q00 [_] (he := f3) (k:=?_)
  (have hF := (aI (aI @hca @hcb) (aI @hcc @hcs)); refine q01 (k:=?_); clear hF)
  refine q00 [_, _] (he := l2) (k:=?_)
  (have hF := (aI (aI @hca @hcb) (aI @hcc @hcs)); refine q01 (k:=?_); clear hF)
  exact Fin.tmp' rfl rfl
 rw [q6w n1] at l2
 by_cases n2 : NC b c
 case' neg =>
  rw [q87 (Classical.not_not.1 n2)] at l3
  clear fin c6 c7 c8 c9 c10
  unfold q36 at *
  (have hF := (aI @hca (aI @hcb @hcc)); refine q01 (k:=?_); clear hF)
  refine q00 [] (he := q5k) (k:=?_)
  (have hF := (aI @hca (aI @hcb @hcc)); refine q01 (k:=?_); clear hF)
  refine q00 [_, _] (he := c1) (k:=?_)
  (have hF := (aI (aI @hca @hcb) (aI @hcc @hcs)); refine q01 (k:=?_); clear hF)
  refine q00 [_, _] (he := c2) (k:=?_)
  (have hF := (aI (aI @hca @hcb) (aI @hcc @hcs)); refine q01 (k:=?_); clear hF)
  refine q00 [_, _] (he := c3) (k:=?_)
  (have hF := (aI (aI @hca @hcb) (aI @hcc @hcs)); refine q01 (k:=?_); clear hF)
  refine q00 [_] (he := f1) (k:=?_)
  (have hF := (aI (aI @hca @hcb) (aI @hcc @hcs)); refine q01 (k:=?_); clear hF)
  refine q00 [_] (he := f2) (k:=?_)
  (have hF := (aI (aI @hca @hcb) (aI @hcc @hcs)); refine q01 (k:=?_); clear hF)
  refine q00 [_, _] (he := l1) (k:=?_)
  (have hF := (aI (aI @hca @hcb) (aI @hcc @hcs)); refine q01 (k:=?_); clear hF)
  refine q00 [_, _] (he := c4) (k:=?_)
  (have hF := (aI (aI @hca @hcb) (aI @hcc @hcs)); refine q01 (k:=?_); clear hF)
  refine q00 [_, _] (he := c5) (k:=?_)
  (have hF := (aI (aI @hca @hcb) (aI @hcc @hcs)); refine q01 (k:=?_); clear hF)
  refine q00 [_, _] (he := ea) (k:=?_)
  (have hF := (aI (aI @hca @hcb) (aI @hcc @hcs)); refine q01 (k:=?_); clear hF)
  refine q00 [_, _] (he := ea) (k:=?_)
  (have hF := (aI (aI @hca @hcb) (aI @hcc @hcs)); refine q01 (k:=?_); clear hF)
  refine q00 [_] (he := f12) (k:=?_)
  (have hF := (aI (aI @hca @hcb) (aI @hcc @hcs)); refine q01 (k:=?_); clear hF)
  refine q00 [_] (he := f3) (k:=?_)
  (have hF := (aI (aI @hca @hcb) (aI @hcc @hcs)); refine q01 (k:=?_); clear hF)
  refine q00 [_, _] (he := l2) (k:=?_)
  (have hF := (aI (aI @hca @hcb) (aI @hcc @hcs)); refine q01 (k:=?_); clear hF)
  refine q00 [_, _] (he := l3) (k:=?_)
  (have hF := (aI (aI @hca @hcb) (aI @hcc @hcs)); refine q01 (k:=?_); clear hF)
  exact Fin.tmp' rfl rfl
 rw [q6w n2] at l3
 obtain ⟨⟨g1, g2⟩, ⟨g3, g4⟩, ⟨g5, g6⟩, g7, g8⟩ := fin h3 n1 n2
 rw [g1, g2] at c6
 rw [g2, g5, g6] at c8
 rw [g3, g4] at c7
 rw [g4] at c9 c10
 rw [g7, g8] at c10
 clear fin
 generalize q0o s c = u at *
 generalize q0o b c = t at *
 have hcu := q96 u.live u.past.vec u.past.cloud u.defer
 have hct := q96 t.live t.past.vec t.past.cloud t.defer
 unfold q36 at *
 (have hF := (aI @hca (aI @hcb @hcc)); refine q01 (k:=?_); clear hF)
 refine q00 [] (he := q5k) (k:=?_)
 (have hF := (aI @hca (aI @hcb @hcc)); refine q01 (k:=?_); clear hF)
 refine q00 [_, _] (he := c1) (k:=?_)
 (have hF := (aI (aI @hca @hcb) (aI @hcc @hcs)); refine q01 (k:=?_); clear hF)
 refine q00 [_, _] (he := c2) (k:=?_)
 (have hF := (aI (aI @hca @hcb) (aI @hcc @hcs)); refine q01 (k:=?_); clear hF)
 refine q00 [_, _] (he := c3) (k:=?_)
 (have hF := (aI (aI @hca @hcb) (aI @hcc @hcs)); refine q01 (k:=?_); clear hF)
 refine q00 [_] (he := f1) (k:=?_)
 (have hF := (aI (aI @hca @hcb) (aI @hcc @hcs)); refine q01 (k:=?_); clear hF)
 refine q00 [_] (he := f2) (k:=?_)
 (have hF := (aI (aI @hca @hcb) (aI @hcc @hcs)); refine q01 (k:=?_); clear hF)
 refine q00 [_, _] (he := l1) (k:=?_)
 (have hF := (aI (aI @hca @hcb) (aI @hcc @hcs)); refine q01 (k:=?_); clear hF)
 refine q00 [_, _] (he := c4) (k:=?_)
 (have hF := (aI (aI @hca @hcb) (aI @hcc @hcs)); refine q01 (k:=?_); clear hF)
 refine q00 [_, _] (he := c5) (k:=?_)
 (have hF := (aI (aI @hca @hcb) (aI @hcc @hcs)); refine q01 (k:=?_); clear hF)
 refine q00 [_, _] (he := ea) (k:=?_)
 (have hF := (aI (aI @hca @hcb) (aI @hcc @hcs)); refine q01 (k:=?_); clear hF)
 refine q00 [_, _] (he := ea) (k:=?_)
 (have hF := (aI (aI @hca @hcb) (aI @hcc @hcs)); refine q01 (k:=?_); clear hF)
 refine q00 [_] (he := f12) (k:=?_)
 (have hF := (aI (aI @hca @hcb) (aI @hcc @hcs)); refine q01 (k:=?_); clear hF)
 refine q00 [_] (he := f3) (k:=?_)
 (have hF := (aI (aI @hca @hcb) (aI @hcc @hcs)); refine q01 (k:=?_); clear hF)
 refine q00 [_, _] (he := l2) (k:=?_)
 (have hF := (aI (aI @hca @hcb) (aI @hcc @hcs)); refine q01 (k:=?_); clear hF)
 refine q00 [_, _] (he := l3) (k:=?_)
 (have hF := (aI (aI @hca @hcb) (aI @hcc @hcs)); refine q01 (k:=?_); clear hF)
 refine q00 [_, _] (he := c6) (k:=?_)
 (have hF := (aI (aI @hca @hcb) (aI @hcc (aI @hcs @hct))); refine q01 (k:=?_); clear hF)
 refine q00 [_, _] (he := c7) (k:=?_)
 (have hF := (aI (aI @hca (aI @hcb @hcc)) (aI @hcs (aI @hct @hcu))); refine q01 (k:=?_); clear hF)
 refine q00 [_, _] (he := c8) (k:=?_)
 (have hF := (aI (aI @hca (aI @hcb @hcc)) (aI @hcs (aI @hct @hcu))); refine q01 (k:=?_); clear hF)
 refine q00 [_, _] (he := c9) (k:=?_)
 (have hF := (aI (aI @hca (aI @hcb @hcc)) (aI @hcs (aI @hct @hcu))); refine q01 (k:=?_); clear hF)
 refine q00 [_, _] (he := c10) (k:=?_)
 (have hF := (aI (aI @hca (aI @hcb @hcc)) (aI @hcs (aI @hct @hcu))); refine q01 (k:=?_); clear hF)
 refine q00 [_, _] (he := c9) (k:=?_)
 (have hF := (aI (aI @hca (aI @hcb @hcc)) (aI @hcs (aI @hct @hcu))); refine q01 (k:=?_); clear hF)
 exact Fin.tmp' rfl rfl

def r_k7_1 : List SOp := [⟨some 2,.box 31 (.tmp 0),none⟩,⟨some 3,.box 31 (.tmp 1),none⟩,⟨some 4,.assign (.const (.bool false)),none⟩]
instance : Live r_k7_1 := ⟨[0,1]⟩
def r_k7_2 : List SOp := [⟨some 13,.call ⟨.value (.func 24),#[],#[]⟩,none⟩,⟨some 14,.unOp .not 4 (.tmp 13),none⟩]
instance : Live r_k7_2 := ⟨[2,3]⟩
def r_k7_3 : List SOp := [⟨some 4,.assign (.const (.bool false)),none⟩]
instance : Live r_k7_3 := ⟨[]⟩
def r_k7_4 : List SOp := [⟨some 16,.load 31 (.tmp 2),none⟩,⟨some 17,.load 31 (.tmp 3),none⟩,⟨some 18,.call ⟨.value (.func 25),#[.tmp 16,.tmp 17],#[31,31]⟩,none⟩,⟨some 15,.move (.tmp 18),none⟩,⟨some 19,.extract (.tmp 15) 0,none⟩,⟨some 20,.extract (.tmp 15) 1,none⟩,⟨some 5,.alloc 31,none⟩,⟨none,.store 31 (.tmp 5) (.tmp 19),none⟩,⟨some 6,.assign (.tmp 20),none⟩]
instance : Live r_k7_4 := ⟨[2,3]⟩
def r_k7_5 : List SOp := [⟨some 21,.load 31 (.tmp 2),none⟩,⟨some 22,.call ⟨.value (.func 26),#[.tmp 21],#[31]⟩,none⟩,⟨some 23,.unOp .not 4 (.tmp 22),none⟩,⟨some 24,.move (.tmp 23),none⟩,⟨some 25,.load 31 (.tmp 3),some ((some 24),false)⟩,⟨some 26,.call ⟨.value (.func 26),#[.tmp 25],#[31]⟩,some ((some 24),false)⟩,⟨some 27,.unOp .not 4 (.tmp 26),some ((some 24),false)⟩,⟨some 28,.pick (.tmp 24) (.const (.bool true)) (.tmp 27),none⟩,⟨some 29,.move (.tmp 28),none⟩,⟨some 30,.load 31 (.tmp 2),some ((some 29),false)⟩,⟨some 31,.load 31 (.tmp 3),some ((some 29),false)⟩,⟨some 32,.call ⟨.value (.func 27),#[.tmp 30,.tmp 31],#[31,31]⟩,some ((some 29),false)⟩,⟨some 33,.pick (.tmp 29) (.const (.bool true)) (.tmp 32),none⟩]
instance : Live r_k7_5 := ⟨[2,3,5,6]⟩
def r_k7_6 : List SOp := [⟨some 34,.move (.tmp 6),none⟩,⟨some 35,.binOp .neq 32 (.tmp 34) (.const (.int .i64 0)) 32,none⟩,⟨some 36,.move (.tmp 35),none⟩,⟨some 37,.fieldAddr 31 (.tmp 5) 0,some ((some 36),true)⟩,⟨some 38,.load 22 (.tmp 37),some ((some 36),true)⟩,⟨some 39,.call ⟨.builtin .len,#[.tmp 38],#[22]⟩,some ((some 36),true)⟩,⟨some 40,.binOp .eql 3 (.tmp 39) (.const (.int .i64 0)) 3,some ((some 36),true)⟩,⟨some 41,.pick (.tmp 36) (.tmp 40) (.const (.bool false)),none⟩,⟨some 4,.assign (.tmp 41),none⟩]
instance : Live r_k7_6 := ⟨[5,6]⟩
def r_k7_7 : List SOp := [⟨some 42,.move (.tmp 6),none⟩,⟨some 43,.binOp .neq 32 (.tmp 42) (.const (.int .i64 0)) 32,none⟩]
instance : Live r_k7_7 := ⟨[2,3,5,6]⟩
def r_k7_8 : List SOp := [⟨some 4,.assign (.const (.bool false)),none⟩]
instance : Live r_k7_8 := ⟨[]⟩
def r_k7_9 : List SOp := [⟨some 7,.assign (.const (.int .i64 0)),none⟩]
instance : Live r_k7_9 := ⟨[2,3,5]⟩
def zcu : List SOp := [⟨some 44,.move (.tmp 7),none⟩,⟨some 45,.fieldAddr 31 (.tmp 5) 0,none⟩,⟨some 46,.load 22 (.tmp 45),none⟩,⟨some 47,.call ⟨.builtin .len,#[.tmp 46],#[22]⟩,none⟩,⟨some 48,.binOp .lss 3 (.tmp 44) (.tmp 47) 3,none⟩]
instance : Live zcu := ⟨[2,3,5,7]⟩
def zct : List SOp := [⟨some 51,.fieldAddr 31 (.tmp 5) 0,none⟩,⟨some 52,.load 22 (.tmp 51),none⟩,⟨some 53,.move (.tmp 7),none⟩,⟨some 54,.indexAddr 22 (.tmp 52) (.tmp 53),none⟩,⟨some 55,.fieldAddr 62 (.tmp 54) 0,none⟩,⟨some 56,.load 41 (.tmp 55),none⟩,⟨some 8,.alloc 41,none⟩,⟨none,.store 41 (.tmp 8) (.tmp 56),none⟩]
instance : Live zct := ⟨[2,3,5,7]⟩
def zcs : List SOp := [⟨some 57,.load 31 (.tmp 2),none⟩,⟨some 58,.load 41 (.tmp 8),none⟩,⟨some 59,.call ⟨.value (.func 17),#[.tmp 57,.tmp 58],#[31,41]⟩,none⟩,⟨some 60,.load 31 (.tmp 3),none⟩,⟨some 61,.load 41 (.tmp 8),none⟩,⟨some 62,.call ⟨.value (.func 17),#[.tmp 60,.tmp 61],#[31,41]⟩,none⟩,⟨some 9,.assign (.tmp 59),none⟩,⟨some 10,.assign (.tmp 62),none⟩]
instance : Live zcs := ⟨[2,3,5,7,8]⟩
def zcr : List SOp := [⟨some 63,.move (.tmp 9),none⟩,⟨some 64,.binOp .eql 3 (.tmp 63) (.const (.int .i64 2)) 3,none⟩,⟨some 65,.move (.tmp 64),none⟩,⟨some 66,.move (.tmp 10),some ((some 65),false)⟩,⟨some 67,.binOp .eql 3 (.tmp 66) (.const (.int .i64 2)) 3,some ((some 65),false)⟩,⟨some 68,.pick (.tmp 65) (.const (.bool true)) (.tmp 67),none⟩,⟨some 69,.move (.tmp 68),none⟩,⟨some 70,.move (.tmp 9),some ((some 69),false)⟩,⟨some 71,.binOp .eql 3 (.tmp 70) (.const (.int .i64 0)) 3,some ((some 69),false)⟩,⟨some 72,.move (.tmp 71),some ((some 69),false)⟩,⟨some 73,.move (.tmp 10),some ((some 72),true)⟩,⟨some 74,.binOp .eql 3 (.tmp 73) (.const (.int .i64 0)) 3,some ((some 72),true)⟩,⟨some 75,.pick (.tmp 72) (.tmp 74) (.const (.bool false)),some ((some 69),false)⟩,⟨some 76,.pick (.tmp 69) (.const (.bool true)) (.tmp 75),none⟩]
instance : Live zcr := ⟨[2,3,5,7,9,10]⟩
def zcq : List SOp := [⟨some 4,.assign (.const (.bool false)),none⟩]
instance : Live zcq := ⟨[]⟩
def zcp : List SOp := [⟨some 49,.move (.tmp 7),none⟩,⟨some 50,.binOp .add 3 (.tmp 49) (.const (.int .i64 1)) 3,none⟩,⟨some 7,.assign (.tmp 50),none⟩]
instance : Live zcp := ⟨[2,3,5,7]⟩
def zco : List SOp := [⟨some 11,.assign (.const (.int .i64 0)),none⟩]
instance : Live zco := ⟨[2,3,5]⟩
def zcn : List SOp := [⟨some 12,.assign (.const (.int .i64 0)),none⟩]
instance : Live zcn := ⟨[2,3,5,11]⟩
def zcm : List SOp := [⟨some 77,.move (.tmp 12),none⟩,⟨some 78,.fieldAddr 31 (.tmp 2) 0,none⟩,⟨some 79,.load 22 (.tmp 78),none⟩,⟨some 80,.call ⟨.builtin .len,#[.tmp 79],#[22]⟩,none⟩,⟨some 81,.binOp .lss 3 (.tmp 77) (.tmp 80) 3,none⟩]
instance : Live zcm := ⟨[2,3,5,11,12]⟩
def zcl : List SOp := [⟨some 84,.load 31 (.tmp 3),none⟩,⟨some 85,.fieldAddr 31 (.tmp 2) 0,none⟩,⟨some 86,.load 22 (.tmp 85),none⟩,⟨some 87,.move (.tmp 12),none⟩,⟨some 88,.indexAddr 22 (.tmp 86) (.tmp 87),none⟩,⟨some 89,.fieldAddr 62 (.tmp 88) 0,none⟩,⟨some 90,.load 41 (.tmp 89),none⟩,⟨some 91,.call ⟨.value (.func 17),#[.tmp 84,.tmp 90],#[31,41]⟩,none⟩,⟨some 92,.binOp .neq 3 (.tmp 91) (.const (.int .i64 1)) 3,none⟩]
instance : Live zcl := ⟨[2,3,5,11,12]⟩
def zck : List SOp := [⟨some 93,.move (.tmp 11),none⟩,⟨some 94,.fieldAddr 31 (.tmp 5) 0,none⟩,⟨some 95,.load 22 (.tmp 94),none⟩,⟨some 96,.call ⟨.builtin .len,#[.tmp 95],#[22]⟩,none⟩,⟨some 97,.binOp .lss 3 (.tmp 93) (.tmp 96) 3,none⟩,⟨some 98,.move (.tmp 97),none⟩,⟨some 99,.fieldAddr 31 (.tmp 5) 0,some ((some 98),true)⟩,⟨some 100,.load 22 (.tmp 99),some ((some 98),true)⟩,⟨some 101,.move (.tmp 11),some ((some 98),true)⟩,⟨some 102,.indexAddr 22 (.tmp 100) (.tmp 101),some ((some 98),true)⟩,⟨some 103,.load 62 (.tmp 102),some ((some 98),true)⟩,⟨some 104,.fieldAddr 31 (.tmp 2) 0,some ((some 98),true)⟩,⟨some 105,.load 22 (.tmp 104),some ((some 98),true)⟩,⟨some 106,.move (.tmp 12),some ((some 98),true)⟩,⟨some 107,.indexAddr 22 (.tmp 105) (.tmp 106),some ((some 98),true)⟩,⟨some 108,.load 62 (.tmp 107),some ((some 98),true)⟩,⟨some 109,.binOp .neq 62 (.tmp 103) (.tmp 108) 62,some ((some 98),true)⟩,⟨some 110,.pick (.tmp 98) (.tmp 109) (.const (.bool false)),none⟩]
instance : Live zck := ⟨[2,3,5,11,12]⟩
def zcj : List SOp := [⟨some 111,.move (.tmp 11),none⟩,⟨some 112,.binOp .add 3 (.tmp 111) (.const (.int .i64 1)) 3,none⟩,⟨some 11,.assign (.tmp 112),none⟩]
instance : Live zcj := ⟨[2,3,5,11,12]⟩
def zci : List SOp := [⟨some 113,.move (.tmp 11),none⟩,⟨some 114,.fieldAddr 31 (.tmp 5) 0,none⟩,⟨some 115,.load 22 (.tmp 114),none⟩,⟨some 116,.call ⟨.builtin .len,#[.tmp 115],#[22]⟩,none⟩,⟨some 117,.binOp .eql 3 (.tmp 113) (.tmp 116) 3,none⟩]
instance : Live zci := ⟨[2,3,5,11,12]⟩
def zch : List SOp := [⟨some 4,.assign (.const (.bool false)),none⟩]
instance : Live zch := ⟨[]⟩
def zcg : List SOp := [⟨some 82,.move (.tmp 12),none⟩,⟨some 83,.binOp .add 3 (.tmp 82) (.const (.int .i64 1)) 3,none⟩,⟨some 12,.assign (.tmp 83),none⟩]
instance : Live zcg := ⟨[2,3,5,11,12]⟩
def zcf : List SOp := [⟨some 4,.assign (.const (.bool true)),none⟩]
instance : Live zcf := ⟨[]⟩
def zau : SC :=
 (.seq (.seq (.ops false zcu) (.cond (.tmp 48) .skip (.exit 0))) (.seq (.block 1 (.seq (.ops false zct) (.seq (.ops true zcs) (.seq (.ops false zcr) (.cond (.tmp 76) (.seq (.ops false zcq) .ret) .skip))))) (.ops false zcp)))
def zas : SC :=
 (.seq (.seq (.ops true zck) (.cond (.tmp 110) .skip (.exit 4))) (.block 5 (.ops false zcj)))
def zat : SC :=
 (.seq (.seq (.ops false zcm) (.cond (.tmp 81) .skip (.exit 2))) (.seq (.block 3 (.seq (.seq (.ops true zcl) (.cond (.tmp 92) (.exit 3) .skip)) (.seq (.block 4 (.loop zas)) (.seq (.ops false zci) (.cond (.tmp 117) (.seq (.ops false zch) .ret) .skip))))) (.ops false zcg)))
def t_k7 : SC :=
 (.seq (.ops false r_k7_1) (.seq (.seq (.ops false r_k7_2) (.cond (.tmp 14) (.seq (.ops false r_k7_3) .ret) .skip)) (.seq (.ops false r_k7_4) (.seq (.seq (.ops false r_k7_5) (.cond (.tmp 33) (.seq (.ops false r_k7_6) .ret) .skip)) (.seq (.seq (.ops false r_k7_7) (.cond (.tmp 43) (.seq (.ops false r_k7_8) .ret) .skip)) (.seq (.seq (.ops false r_k7_9) (.block 0 (.loop zau))) (.seq (.ops false zco) (.seq (.seq (.ops false zcn) (.block 2 (.loop zat))) (.seq (.ops false zcf) .ret)))))))))
theorem it_k7 : FnIs Tryz.prog 7 118 [.tmp 4] t_k7 := ⟨Tryz.f7, _, Tryz.func7, rfl, rfl, rfl, rfl, by kernel_rfl⟩

theorem zk2 {a b : Swt} (ha : FormS a) (hb : FormS b) (nc : NC a b) : ∃ M, q21 a b = some M := (qed.1 (qrl.2 ⟨ha, hb, nc⟩)).2.2
theorem z8x {a b : Swt} (ha : FormS a) (hb : FormS b) (nc : NC a b) {e : Ent} (he : e ∈ (q0o a b).live) :
 (q78 a e.dot = 1 ∧ q78 b e.dot = 1) ∨ (q78 a e.dot = 1 ∧ q78 b e.dot = 0) ∨ (q78 a e.dot = 0 ∧ q78 b e.dot = 1) := by
 obtain ⟨M, hM⟩ := zk2 ha hb nc
 have hj := q6p ha hb nc
 have h1 : q6l (q0o a b) e.dot = 1 := (q47 hj _).2 ⟨e, he, rfl⟩
 obtain ⟨q1, q2, q3, q4, q5⟩ := qp8 ha hb hM e.dot
 rw [show q78 a e.dot = q6l a e.dot from if_pos ha, show q78 b e.dot = q6l b e.dot from if_pos hb]
 rcases q51 a e.dot with h | h | h <;> rcases q51 b e.dot with h' | h' | h'
 ·have := q1 h h'; omega
 ·exact .inr (.inr ⟨h, h'⟩)
 ·have := q3 (.inr h'); omega
 ·exact .inr (.inl ⟨h, h'⟩)
 ·exact .inl ⟨h, h'⟩
 ·have := q3 (.inr h'); omega
 ·have := q3 (.inl h); omega
 ·have := q3 (.inl h); omega
 ·have := q3 (.inl h); omega
theorem z8w {a b : Swt} (ha : FormS a) (hb : FormS b) (nc : NC a b) {e : Ent} (he : e ∈ a.live) (hk : q78 b e.dot = 1) : e ∈ (q0o a b).live := by
 obtain ⟨M, hM⟩ := zk2 ha hb nc
 rw [show q78 b e.dot = q6l b e.dot from if_pos hb] at hk
 obtain ⟨f, hf, hd⟩ := (q47 hb _).1 hk
 have hfe : f = e := Classical.byContradiction fun hne => nc ⟨e, he, f, hf, hd.symm, fun h => hne h.symm⟩
 subst hfe
 exact (qa3 ha hb hM f).2 ⟨.inl ⟨he, .inl ⟨f, hf, rfl⟩, hb.bars f hf⟩, ha.bars f he, hb.bars f hf⟩
theorem qqp {l : List Ent} (h : qs1 l) {i j : Nat} {x y : Ent} (hi : l[i]? = some x) (hj : l[j]? = some y) (hij : i < j) : q2y x.dot y.dot = true := by
 have h1 := List.getElem?_eq_some_iff.1 hi
 have h2 := List.getElem?_eq_some_iff.1 hj
 have := List.pairwise_iff_getElem.1 h i j h1.1 h2.1 hij
 rw [h1.2, h2.2] at this
 exact this
theorem z9s {x y : Rn} (h1 : q2y x y = true) (h2 : q2y y x = true) : False := by
 rw [q3e] at h1 h2
 omega
theorem ev_k7 (a b : Swt) (hw : wtS a + wtS b ≤ 1900000) : Ev (En Tryz.prog rfl).P 7 [q36 a, q36 b] (.ret (.bool true)) := by
 refine Ev.of_body it_k7 (by simp) (Run.start ?_)
 unfold t_k7
 have hS := qk2
 have hca := q96 a.live a.past.vec a.past.cloud a.defer
 have hcb := q96 b.live b.past.vec b.past.cloud b.defer
 have c1 := q7f a b (by omega) (by omega)
 have f1 := qbo a (by omega)
 have f2 := qbo b (by omega)
 have hcn := q96 noS.live noS.past.vec noS.past.cloud noS.defer
 have l0 : (q0e noS.live).length = 0 := rfl
 by_cases hf : FormS a ∧ FormS b
 case' neg =>
  have he : q7m a b = 1 := if_neg hf
  rw [qa8 (by rw [he]; decide), he] at c1
  unfold q36 at *
  by_cases h1 : FormS a
  ·rw [q1z h1] at f1
   rw [q3l (fun h => hf ⟨h1, h⟩)] at f2
   (have hF := (aI @hca @hcb); refine q01 (k:=?_); clear hF)
   refine q00 [] (he := q5k) (k:=?_)
   (have hF := (aI @hca @hcb); refine q01 (k:=?_); clear hF)
   refine q00 [_, _] (he := c1) (k:=?_)
   (have hF := (aI @hca (aI @hcb @hcn)); refine q01 (k:=?_); clear hF)
   refine q00 [_] (he := f1) (k:=?_)
   (have hF := (aI @hca (aI @hcb @hcn)); refine q01 (k:=?_); clear hF)
   refine q00 [_] (he := f2) (k:=?_)
   (have hF := (aI (aI @hca @hcb) (aI @hcn @l0)); refine q01 (k:=?_); clear hF)
   exact Fin.tmp' rfl rfl
  ·rw [q3l h1] at f1
   (have hF := (aI @hca @hcb); refine q01 (k:=?_); clear hF)
   refine q00 [] (he := q5k) (k:=?_)
   (have hF := (aI @hca @hcb); refine q01 (k:=?_); clear hF)
   refine q00 [_, _] (he := c1) (k:=?_)
   (have hF := (aI @hca (aI @hcb @hcn)); refine q01 (k:=?_); clear hF)
   refine q00 [_] (he := f1) (k:=?_)
   (have hF := (aI (aI @hca @hcb) (aI @hcn @l0)); refine q01 (k:=?_); clear hF)
   exact Fin.tmp' rfl rfl
 obtain ⟨h1, h2⟩ := hf
 have l1 := z7m a b h1 (by omega) (by omega)
 rw [q1z h1] at f1
 rw [q1z h2] at f2
 by_cases hn : NC a b
 case' neg =>
  have hcl : Clash a.live b.live := Classical.not_not.1 hn
  have he : q7m a b = 10 := by
   unfold q7m
   rw [if_pos ⟨h1, h2⟩, if_pos hcl]
  rw [qa8 (by rw [he]; decide), he] at c1
  rw [q87 hcl] at l1
  unfold q36 at *
  (have hF := (aI @hca @hcb); refine q01 (k:=?_); clear hF)
  refine q00 [] (he := q5k) (k:=?_)
  (have hF := (aI @hca @hcb); refine q01 (k:=?_); clear hF)
  refine q00 [_, _] (he := c1) (k:=?_)
  (have hF := (aI @hca (aI @hcb @hcn)); refine q01 (k:=?_); clear hF)
  refine q00 [_] (he := f1) (k:=?_)
  (have hF := (aI @hca (aI @hcb @hcn)); refine q01 (k:=?_); clear hF)
  refine q00 [_] (he := f2) (k:=?_)
  (have hF := (aI @hca (aI @hcb @hcn)); refine q01 (k:=?_); clear hF)
  refine q00 [_, _] (he := l1) (k:=?_)
  (have hF := (aI (aI @hca @hcb) (aI @hcn @l0)); refine q01 (k:=?_); clear hF)
  exact Fin.tmp' rfl rfl
 obtain ⟨he, hj⟩ := q4l h1 h2 hn
 have hjw := qa7 a b
 rw [hj] at hjw
 rw [he, hj] at c1
 rw [q6w hn] at l1
 have hlk := fun {e : Ent} => z8x h1 h2 hn (e := e)
 have hst := fun {e : Ent} => z8w h1 h2 hn (e := e)
 have hsj := q42 (q6p h1 h2 hn).live.2
 have hsa := q42 h1.live.2
 generalize q0o a b = s at *
 have hcs := q96 s.live s.past.vec s.past.cloud s.defer
 obtain ⟨v1, v2, v3, v4, v5⟩ := q27 hjw
 obtain ⟨u1, u2, u3, u4, u5⟩ := q27 (show wtS a ≤ 1900000 by omega)
 have e1 := q0m s.live
 have e2 := q0m a.live
 unfold q36 at c1 f1 f2 l1 ⊢
 (have hF := (aI @hca @hcb); refine q01 (k:=?_); clear hF)
 refine q00 [] (he := q5k) (k:=?_)
 (have hF := (aI @hca @hcb); refine q01 (k:=?_); clear hF)
 refine q00 [_, _] (he := c1) (k:=?_)
 (have hF := (aI @hca (aI @hcb @hcs)); refine q01 (k:=?_); clear hF)
 refine q00 [_] (he := f1) (k:=?_)
 (have hF := (aI @hca (aI @hcb @hcs)); refine q01 (k:=?_); clear hF)
 refine q00 [_] (he := f2) (k:=?_)
 (have hF := (aI @hca (aI @hcb @hcs)); refine q01 (k:=?_); clear hF)
 refine q00 [_, _] (he := l1) (k:=?_)
 (have hF := (aI @hca (aI @hcb @hcs)); refine q01 (k:=?_); clear hF)
 refine Run.while (σ := Nat) (fun i => ⟨tms [(2, .ptr 2 0), (3, .ptr 3 0), (5, .ptr 5 0), (7, .int .i64 (i : Int))], mms [(2, .cells [.sl 4 (q0e a.live), .sl 1 (q05 a.past.vec), .sl 3 (q0c a.past.cloud), .sl 3 (q09 a.defer)]), (3, .cells [.sl 4 (q0e b.live), .sl 1 (q05 b.past.vec), .sl 3 (q0c b.past.cloud), .sl 3 (q09 b.defer)]), (5, .cells [.sl 4 (q0e s.live), .sl 1 (q05 s.past.vec), .sl 3 (q0c s.past.cloud), .sl 3 (q09 s.defer)])]⟩)
  (fun i => i ≤ s.live.length) (fun i => s.live.length - i) 0 (have hW := (aI @q02 @q06); q0f) (Nat.zero_le _) ?_
 ·intro i hi
  unfold zau
  by_cases hlt : i < s.live.length
  ·obtain ⟨e, he⟩ : ∃ e, s.live[i]? = some e := ⟨s.live[i], by simp [hlt]⟩
   have g1 := q0u he
   have k1 := qg0 a e.dot (by omega)
   have k2 := qg0 b e.dot (by omega)
   unfold q36 q37 at k1 k2
   rcases hlk (List.mem_of_getElem? he) with ⟨q1, q2⟩ | ⟨q1, q2⟩ | ⟨q1, q2⟩
   all_goals
    rw [q1] at k1
    rw [q2] at k2
    (have hF := (aI (aI @hca @hcb) (aI @hcs (aI @e1 @g1))); refine q01 (k:=?_); clear hF)
    refine q00 [_, _] (he := k1) (k:=?_)
    (have hF := (aI (aI @hca @hcb) (aI @hcs (aI @e1 @g1))); refine q01 (k:=?_); clear hF)
    refine q00 [_, _] (he := k2) (k:=?_)
    (have hF := (aI (aI @hca @hcb) (aI @hcs (aI @e1 @g1))); refine q01 (k:=?_); clear hF)
    (refine Fin.nextW (i + 1) ?_ (have hW := (aI @q02 @q06); q0f); (try dsimp only))
    exact ⟨hlt, by omega⟩
  ·(have hF := (aI (aI @hca @hcb) (aI @hcs @e1)); refine q01 (k:=?_); clear hF)
   refine Run.while (σ := Nat × Nat) (fun i => ⟨tms [(2, .ptr 2 0), (3, .ptr 3 0), (5, .ptr 5 0), (11, .int .i64 (i.2 : Int)), (12, .int .i64 (i.1 : Int))], mms [(2, .cells [.sl 4 (q0e a.live), .sl 1 (q05 a.past.vec), .sl 3 (q0c a.past.cloud), .sl 3 (q09 a.defer)]), (3, .cells [.sl 4 (q0e b.live), .sl 1 (q05 b.past.vec), .sl 3 (q0c b.past.cloud), .sl 3 (q09 b.defer)]), (5, .cells [.sl 4 (q0e s.live), .sl 1 (q05 s.past.vec), .sl 3 (q0c s.past.cloud), .sl 3 (q09 s.defer)])]⟩)
    (fun i => i.1 ≤ a.live.length ∧ i.2 ≤ s.live.length ∧ ∀ (m p : Nat) e, i.1 ≤ m → a.live[m]? = some e → s.live[p]? = some e → i.2 ≤ p) (fun i => a.live.length - i.1) (0, 0) (have hW := (aI @q02 @q06); q0f) ⟨Nat.zero_le _, Nat.zero_le _, fun _ _ _ _ _ _ => Nat.zero_le _⟩ ?_
   rintro ⟨i, t⟩ ⟨hi, ht, hI⟩
   simp only at hi ht hI
   unfold zat
   by_cases hlt : i < a.live.length
   ·obtain ⟨e, he⟩ : ∃ e, a.live[i]? = some e := ⟨a.live[i], by simp [hlt]⟩
    have g1 := q0u he
    have hem := List.mem_of_getElem? he
    have k1 := qg0 b e.dot (by omega)
    unfold q36 q37 at k1
    have hIs : ∀ (m p : Nat) x, i + 1 ≤ m → a.live[m]? = some x → s.live[p]? = some x → t ≤ p := fun m p x hm => hI m p x (by omega)
    have hkr := q51 b e.dot
    rw [← show q78 b e.dot = q6l b e.dot from if_pos h2] at hkr
    have hst' := hst hem
    generalize q78 b e.dot = z at *
    by_cases hz : z = 1
    ·subst hz
     obtain ⟨p, hp⟩ := List.mem_iff_getElem?.1 (hst' rfl)
     have hpl : p < s.live.length := (List.getElem?_eq_some_iff.1 hp).1
     have htp := hI i p e (Nat.le_refl _) he hp
     have hnx : ∀ (m p' : Nat) x, i + 1 ≤ m → a.live[m]? = some x → s.live[p']? = some x → p ≤ p' := fun m p' x hm hx hx' => by
      rcases Nat.lt_or_ge p' p with hlt' | hge
      ·exact (z9s (qqp hsa he hx (by omega)) (qqp hsj hx' hp hlt')).elim
      ·exact hge
     (have hF := (aI (aI @hca (aI @hcb @hcs)) (aI @e1 (aI @e2 @g1))); refine q01 (k:=?_); clear hF)
     refine q00 [_, _] (he := k1) (k:=?_)
     (have hF := (aI (aI @hca (aI @hcb @hcs)) (aI @e1 (aI @e2 @g1))); refine q01 (k:=?_); clear hF)
     refine Run.while (σ := Nat) (fun j => ⟨tms [(2, .ptr 2 0), (3, .ptr 3 0), (5, .ptr 5 0), (11, .int .i64 (j : Int)), (12, .int .i64 (i : Int))], mms [(2, .cells [.sl 4 (q0e a.live), .sl 1 (q05 a.past.vec), .sl 3 (q0c a.past.cloud), .sl 3 (q09 a.defer)]), (3, .cells [.sl 4 (q0e b.live), .sl 1 (q05 b.past.vec), .sl 3 (q0c b.past.cloud), .sl 3 (q09 b.defer)]), (5, .cells [.sl 4 (q0e s.live), .sl 1 (q05 s.past.vec), .sl 3 (q0c s.past.cloud), .sl 3 (q09 s.defer)])]⟩)
      (fun j => j ≤ p) (fun j => p - j) t (have hW := (aI @q02 @q06); q0f) htp ?_
     intro j hj
     unfold zas
     by_cases hjp : j = p
     ·subst hjp
      have g2 := q0u hp
      have hq : (decide (e.rep = e.rep) && (decide (e.num = e.num) && (decide (e.sku = e.sku) && (decide (e.qty = e.qty) && true)))) = true := by simp
      (have hF := (aI (aI (aI @hca @hcb) (aI @hcs @e1)) (aI (aI @e2 @g1) (aI @g2 @hq))); refine q01 (k:=?_); clear hF)
      (refine Fin.nextW ((i + 1, j)) ?_ (have hW := (aI @q02 @q06); q0f); (try dsimp only))
      exact ⟨⟨hlt, by omega, hnx⟩, by omega⟩
     ·have hjl : j < s.live.length := by omega
      obtain ⟨x, hx⟩ : ∃ x, s.live[j]? = some x := ⟨s.live[j], by simp [hjl]⟩
      have g2 := q0u hx
      have hxe : ¬ x = e := fun h => by
       subst h
       exact q43 (qqp hsj hx hp (by omega)) rfl
      (focus (have hF := (aI (aI @hca (aI @hcb @hcs)) (aI (aI @e1 @e2) (aI @g1 @g2))); (repeat' (first | refine go1 (k:=?_) | with_reducible refine Ny.of ?_ ?_ | (refine Hyp.of ?_; intro hc; (try simp only [hc]); (try simp only [Bh] at hc)))); all_goals clear hF))
      ·(refine Fin.nextW (j + 1) ?_ (have hW := (aI @q02 @q06); q0f); (try dsimp only))
       exact ⟨by omega, by omega⟩
      ·exact absurd (qrm hc.1.1 hc.1.2 hc.2.1 hc.2.2) hxe
    ·(have hF := (aI (aI @hca (aI @hcb @hcs)) (aI @e1 (aI @e2 @g1))); refine q01 (k:=?_); clear hF)
     refine q00 [_, _] (he := k1) (k:=?_)
     (have hF := (aI (aI @hca (aI @hcb @hcs)) (aI (aI @e1 @e2) (aI @g1 @hz))); refine q01 (k:=?_); clear hF)
     (refine Fin.nextW ((i + 1, t)) ?_ (have hW := (aI @q02 @q06); q0f); (try dsimp only))
     exact ⟨⟨hlt, ht, hIs⟩, by omega⟩
   ·(have hF := (aI (aI @hca @hcb) (aI @hcs (aI @e1 @e2))); refine q01 (k:=?_); clear hF)
    exact Fin.tmp' rfl rfl

end Go.Proofs.YthejoeiecenjkaaGreat.Avm
