/- Part 6 of the proof: lemmas. -/
import Derived.Test.YthejoeiecenjkaaGreatV5
import Derived.Test.YthejoeiecenjkaaGreatProg
import Derived.KernelRfl
set_option maxRecDepth 100000
set_option maxHeartbeats 4000000
set_option linter.unusedVariables false
set_option linter.unusedSimpArgs false
set_option linter.unusedSectionVars false
set_option linter.defProp false
namespace Go.Proofs.YthejoeiecenjkaaGreat.Avm
open Go.Proofs
def q34 (s : Swt) : AVal := .agg [.sl 4 (q0e s.live), .sl 1 (q05 s.past.vec), .sl 3 (q0d s.past.cloud), .sl 3 (q08 s.defer)]
def encF (f : Fct) : AVal := .agg [.sl 4 (q0e f.adds), .sl 1 (q05 f.gone.vec), .sl 3 (q0d f.gone.cloud), .sl 3 (q08 f.recs)]
theorem qb6 (a : List Ent) (v : List Int) (c : List Sn) (r : List Rec) : q0j [AVal.sl 4 (q0e a), .sl 1 (q05 v), .sl 3 (q0d c), .sl 3 (q08 r)] = true := by simp [q0j, AVal.stb, q02, q03, q04, q09]
theorem q60 (s : Swt) : (q34 s).stb = true := qb6 _ _ _ _
theorem encF_stb (s : Fct) : (encF s).stb = true := qb6 _ _ _ _
theorem qjl : (∀ e, (qam e).stb = true) ∧ (∀ r, (q4i r).stb = true) ∧ (∀ l, q0j (q0e l) = true) ∧ (∀ l, q0j (q08 l) = true) ∧ (∀ s, (q34 s).stb = true) ∧ (∀ s, (encF s).stb = true) := ⟨qbp, qhn, q09, q04, q60, encF_stb⟩
theorem Wk.cells_nil {n : Nat} {T : q1x} {M : Mem} {k : Nat} {cs ds : List AVal} (hk : M k = some (.cells cs)) (h : qsf cs ds) : Wk n ⟨T, M⟩ ⟨T, upd M k (some (.cells ds))⟩ := by
 intro B G a w hR
 obtain ⟨c, el, b1, b2, b3, b4, b5⟩ := hR.mem k _ hk
 have hD : ∀ j e, Dm M j e → Dm (upd M k (some (.cells ds))) j e := fun j e => q5m (by rw [hk]; trivial)
 have hw : ∀ b, b < w.heap.size → ¬ B b → G.ow b = none → w.heap[b]? = w.heap[b]? ∧ ¬ B b ∧ G.ow b = none := fun b _ hn ho => ⟨rfl, hn, ho⟩
 refine ⟨G, hR.update (.refl G w) k (.cells ds) (by show za7 (M k) _; rw [hk]; trivial) (fun _ _ _ => ⟨rfl, rfl⟩) (fun b key _ _ ho _ => ⟨rfl, ho⟩) (fun b hb => hR.ol b hb) ?_, .refl G w⟩
 refine ⟨c, el, b1, b2, b3, by rw [b4, qg6 h], fun i y hy => ?_⟩
 obtain ⟨x, hx, hs⟩ := qg7 h hy
 obtain ⟨u, hu, hr⟩ := b5 i x hx
 refine ⟨u, hu, ?_⟩
 rcases hs with rfl | ⟨rfl, sz, rfl⟩
 ·cases x with
  | own sz' xs' => exact OwnAt.mono hD (fun _ _ _ => ⟨rfl, rfl⟩) hw (fun b _ hb2 hb3 => ⟨rfl, hb2, hb3⟩) hr
  | hole => trivial
  | _ => exact VR.mono hD (fun _ _ _ => ⟨rfl, rfl⟩) hw hr
 ·have hr : VR (Dm M) G B w .nil u := hr
  cases hr
  exact .slnil sz
theorem sub4 : qsf [.nil, .nil, .nil, .nil] [.sl 4 [], .sl 1 [], .sl 3 [], .sl 3 []] := ⟨.inr ⟨rfl, 4, rfl⟩, .inr ⟨rfl, 1, rfl⟩, .inr ⟨rfl, 3, rfl⟩, .inr ⟨rfl, 3, rfl⟩, trivial⟩
theorem sub2 : qsf [.nil, .nil] [.sl 1 [], .sl 3 []] := ⟨.inr ⟨rfl, 1, rfl⟩, .inr ⟨rfl, 3, rfl⟩, trivial⟩
theorem qr1 (l : List Ent) (hl : l.length ≤ 100000000) : Ev (En Tryz.prog rfl).P 63 [.sl 4 (q0e l)] (.ret (.sl 4 (q0e l))) := by
 refine Ev.of_body it_k63 (by simp) (Run.start ?_)
 unfold t_k63
 cases l with
 | nil =>
  have e0 : q0e [] = [] := rfl
  rw [e0]
  (have hF := True.intro; refine q1j (k:=?_); clear hF)
  refine q4j (Hook.nil_eq (En Tryz.prog rfl).hT (sz := 4) TE_22 (by simp only [opS, opA, ev, cst, upd, evs, evp, q8g, qdg, NoM, qba, qhw, En_P, Option.getD, Option.map_some, Option.map_none, List.map_cons, List.map_nil, List.getElem?_cons_zero, List.getElem?_cons_succ, List.getElem?_nil, List.all_cons, List.all_nil, List.length_cons, List.length_nil, List.take_succ_cons, List.take_zero, List.drop_succ_cons, List.drop_zero, List.set_cons_zero, List.set_cons_succ, List.cons_append, List.nil_append, List.append_nil, List.toList_toArray, q78, boxA, q9k, q6h, q3o, q7p, qb7, q1i, q7m, qb5, q8h, q9e, q55, z7y, q7v, q7g, zax, qp0, qqe, zab, zac, qod, unA, qdx, zad, q2s, mmA, q5s, q26, q5k, qhy, q22, zaa, q1y, TyI.zeros, TyI.zeroElem, TyI.okElem, TD.isAgg, Value.cells, AVal.known, AVal.cells, AVal.one, AVal.plain, q0k, AVal.withCells, reduceCtorEq, ↓reduceIte, if_true, if_false, Bool.false_eq_true, false_implies, true_implies, implies_true, true_and, and_true, and_self, ne_eq, not_true, not_false_iff, Bool.and_true, Bool.true_and, Bool.and_false, Bool.false_and, Bool.or_true, Bool.true_or, Bool.or_false, Bool.false_or, Bool.not_true, Bool.not_false, beq_self_eq_true, Nat.reduceAdd, Nat.reduceMul, Nat.reduceLeDiff, Nat.reduceEqDiff, Nat.reduceBEq, Nat.mul_one, Nat.le_refl, Nat.zero_add, Nat.add_zero, Option.isSome_some, decide_true, decide_false, q7h, q9f, List.replicate_succ, List.replicate_zero, List.flatMap_cons, List.flatMap_nil, flat, tms, mms, Array.size_empty, z9r, qhz, q6c, Op.operands, AVal.at, AVal.atR, q6a, qe3, qr9, Option.map_some, List.contains_cons, List.contains_nil, List.isEmpty_nil, List.isEmpty_cons, Int.toNat_natCast, Int.natCast_nonneg, Int.reduceLE, Int.reduceLT, Int.reduceToNat, Nat.reduceLT, Nat.reduceSub, Int.reduceNeg, Int.reduceEq])) ?_
  rintro v M' ⟨rfl, b, rfl⟩
  dsimp only [AS.put]
  (have hF := True.intro; refine q1j (k:=?_); clear hF)
  refine Run.cond _ rfl (fun hc => ?_) (fun hc => ?_)
  ·(have hF := True.intro; refine q1j (k:=?_); clear hF)
   exact Fin.nil rfl
  ·(have hF := True.intro; refine q1j (k:=?_); clear hF)
   exact Fin.tmp' rfl rfl
 | cons x l =>
  have e1 : q0e (x :: l) = qam x :: q0e l := rfl
  have e2 : (q0e l).length = l.length := q0q l
  have hl2 : l.length + 1 ≤ 100000000 := by simpa using hl
  rw [e1]
  (have hF := @e2; refine q01 (k:=?_); clear hF)
  exact Fin.tmp' rfl (q09 (x :: l))
theorem qr0 (l : List Rec) (hl : l.length ≤ 100000000) : EvFresh (En Tryz.prog rfl).P 95 [.sl 3 (q08 l)] 3 (q08 l) := by
 refine EvFresh.of_body it_k95 (by simp) (AW.wkEnd (Run.start ?_))
 unfold t_k95
 cases l with
 | nil =>
  have e0 : q08 [] = [] := rfl
  rw [e0]
  (have hF := True.intro; refine q1j (k:=?_); clear hF)
  refine q4j (Hook.nil_eq (En Tryz.prog rfl).hT (sz := 3) TE_27 (by simp only [opS, opA, ev, cst, upd, evs, evp, q8g, qdg, NoM, qba, qhw, En_P, Option.getD, Option.map_some, Option.map_none, List.map_cons, List.map_nil, List.getElem?_cons_zero, List.getElem?_cons_succ, List.getElem?_nil, List.all_cons, List.all_nil, List.length_cons, List.length_nil, List.take_succ_cons, List.take_zero, List.drop_succ_cons, List.drop_zero, List.set_cons_zero, List.set_cons_succ, List.cons_append, List.nil_append, List.append_nil, List.toList_toArray, q78, boxA, q9k, q6h, q3o, q7p, qb7, q1i, q7m, qb5, q8h, q9e, q55, z7y, q7v, q7g, zax, qp0, qqe, zab, zac, qod, unA, qdx, zad, q2s, mmA, q5s, q26, q5k, qhy, q22, zaa, q1y, TyI.zeros, TyI.zeroElem, TyI.okElem, TD.isAgg, Value.cells, AVal.known, AVal.cells, AVal.one, AVal.plain, q0k, AVal.withCells, reduceCtorEq, ↓reduceIte, if_true, if_false, Bool.false_eq_true, false_implies, true_implies, implies_true, true_and, and_true, and_self, ne_eq, not_true, not_false_iff, Bool.and_true, Bool.true_and, Bool.and_false, Bool.false_and, Bool.or_true, Bool.true_or, Bool.or_false, Bool.false_or, Bool.not_true, Bool.not_false, beq_self_eq_true, Nat.reduceAdd, Nat.reduceMul, Nat.reduceLeDiff, Nat.reduceEqDiff, Nat.reduceBEq, Nat.mul_one, Nat.le_refl, Nat.zero_add, Nat.add_zero, Option.isSome_some, decide_true, decide_false, q7h, q9f, List.replicate_succ, List.replicate_zero, List.flatMap_cons, List.flatMap_nil, flat, tms, mms, Array.size_empty, z9r, qhz, q6c, Op.operands, AVal.at, AVal.atR, q6a, qe3, qr9, Option.map_some, List.contains_cons, List.contains_nil, List.isEmpty_nil, List.isEmpty_cons, Int.toNat_natCast, Int.natCast_nonneg, Int.reduceLE, Int.reduceLT, Int.reduceToNat, Nat.reduceLT, Nat.reduceSub, Int.reduceNeg, Int.reduceEq])) ?_
  rintro v M' ⟨rfl, b, rfl⟩
  dsimp only [AS.put]
  (have hF := True.intro; refine q1j (k:=?_); clear hF)
  refine Run.cond _ rfl (fun hc => ?_) (fun hc => ?_)
  ·(have hF := True.intro; refine q1j (k:=?_); clear hF)
   exact Fin.done ⟨_, Wk.own_nil 2 99 3 rfl rfl, 99, 0, rfl, rfl, rfl⟩
  ·(have hF := True.intro; refine q1j (k:=?_); clear hF)
   exact Fin.done ⟨_, Wk.refl _ _, _, _, rfl, rfl, rfl⟩
 | cons x l =>
  have e1 : q08 (x :: l) = q4i x :: q08 l := rfl
  have e2 : (q08 l).length = l.length := q0m l
  have hl2 : l.length + 1 ≤ 100000000 := by simpa using hl
  rw [e1]
  (have hF := @e2; refine q01 (k:=?_); clear hF)
  exact Fin.done ⟨_, Wk.refl _ _, _, _, rfl, rfl, q04 (x :: l)⟩
theorem zkt {l : List Rec} {i : Nat} {r : Rec} (h : l[i]? = some r) : (q08 l).set i (.agg [.str r.sku, .sl 1 (q05 r.past.vec), .sl 3 (q0d r.past.cloud)]) = q08 l := by
 have hi : i < l.length := by
  rcases Nat.lt_or_ge i l.length with h' | h'
  ·exact h'
  ·rw [List.getElem?_eq_none h'] at h; cases h
 have e : l.set i r = l := by
  rw [List.getElem?_eq_getElem hi] at h
  rw [← Option.some.inj h, List.set_getElem_self]
 have e2 : (q08 l).set i (q4i r) = q08 (l.set i r) := by unfold q08; rw [List.map_set]
 rw [e] at e2
 exact e2
theorem ev_k48 (s : Swt) (hw : wtS s ≤ 30000000) (hc : CanP s.past) (hr : ∀ r ∈ s.defer, qbb r) : Ev (En Tryz.prog rfl).P 48 [q34 s] (.ret (q34 s)) := by
 refine Ev.of_body it_k48 (by simp) (Run.start ?_)
 unfold t_k48 q34
 have hS := qjl
 have hcs := qb6 s.live s.past.vec s.past.cloud s.defer
 have hlen := q7w s.defer
 have hww := hw
 unfold wtS at hww
 have c1 := qr1 s.live (by omega)
 have c2 := qfg s.past (by omega)
 have c3 := qr0 s.defer (by omega)
 have hn : q18 s.past = s.past := hc
 rw [hn] at c2
 have eK := q0m s.defer
 (have hF := @hcs; refine q01 (k:=?_); clear hF)
 refine q00 [.sl 4 (q0e s.live)] (he := c1) (k:=?_)
 (have hF := @hcs; refine q01 (k:=?_); clear hF)
 refine q00 [q0g s.past] (he := c2) (k:=?_)
 unfold q0g
 (have hF := @hcs; refine q01 (k:=?_); clear hF)
 refine stFresh [.sl 3 (q08 s.defer)] (he := c3) (k:=?_)
 (have hF := (aI @hcs @eK); refine q01 (k:=?_); clear hF)
 have hoff : ∀ a b c, qqd [(2, a), (3, b), (14, c)] 14 = false := fun _ _ _ => rfl
 refine Run.while (σ := Nat) (fun i => ⟨tms [(2, .ptr 2 0), (3, .ptr 3 0), (17, .os 14 0), (18, .int .i64 (s.defer.length : Int)), (19, .int .i64 (i : Int))], mms [(2, .cells [.nil, .nil, .nil, .nil]), (3, .cells [.sl 4 (q0e s.live), .sl 1 (q05 s.past.vec), .sl 3 (q0d s.past.cloud), .os 14 0]), (14, .arr 0 3 (q08 s.defer))]⟩)
  (fun i => i ≤ s.defer.length) (fun i => s.defer.length - i) 0 (have hW := (aI @q09 (aI @q04 @hoff)); q0h) (Nat.zero_le _) ?_
 intro i hi
 unfold qs6
 by_cases hlt : i < s.defer.length
 ·obtain ⟨r, hrr⟩ : ∃ r, s.defer[i]? = some r := ⟨s.defer[i], by simp [hlt]⟩
  have g1 := q0x hrr
  have hrl := List.mem_of_getElem? hrr
  have hwr := qi4 hrl
  unfold wtK at hwr
  have c4 := qfg r.past (by omega)
  have hn2 : q18 r.past = r.past := hr r hrl
  rw [hn2] at c4
  have hput := zkt hrr
  (have hF := (aI @eK @g1); refine q01 (k:=?_); clear hF)
  refine q00 [q0g r.past] (he := c4) (k:=?_)
  unfold q0g
  (have hF := (aI @eK @g1); refine q01 (k:=?_); clear hF)
  (refine Fin.nextW (i + 1) ?_ (have hW := (aI (aI @q09 @q04) (aI @hput @hoff)); q0h); (try dsimp only))
  omega
 ·(have hF := @eK; refine q01 (k:=?_); clear hF)
  exact Fin.all (xs := [q34 s]) (by with_unfolding_all rfl) (by simp [q0j, q60]) rfl
theorem zkp (l : List Rn) (i : Nat) (a b : Int) : (q07 l).set i (.agg [.int .i64 a, .int .i64 b]) = q07 (l.set i (a, b)) := by
 unfold q07
 rw [List.map_set]
 rfl




def q7o (l : List Ent) (i : Nat) : List Rn := (l.take i).map Ent.dot ++ List.replicate (l.length - i) (0, 0)
theorem z9c (l : List Ent) : q7o l 0 = List.replicate l.length (0, 0) := by simp [q7o]
theorem zjy {l : List Ent} {i : Nat} (h : i ≤ l.length) : (q7o l i).length = l.length := by simp [q7o]; omega
theorem zjz (l : List Ent) : q7o l l.length = l.map Ent.dot := by simp [q7o]
theorem zjx {l : List Ent} {i : Nat} {e : Ent} (h : l[i]? = some e) : (q7o l i).set i e.dot = q7o l (i + 1) := by
 have hi : i < l.length := by
  rcases Nat.lt_or_ge i l.length with h' | h'
  ·exact h'
  ·rw [List.getElem?_eq_none h'] at h; cases h
 unfold q7o
 rw [List.set_append_right _ _ (by simp; omega), List.take_add_one, h, List.map_append, List.append_assoc]
 congr 1
 have : l.length - i = l.length - (i + 1) + 1 := by omega
 rw [this, List.replicate_succ]
 simp [show i - min i l.length = 0 by omega]
theorem zkq (n : Nat) : List.replicate n (AVal.agg [.int .i64 0, .int .i64 0]) = q07 (List.replicate n (0, 0)) := by simp [q07, q4h]
theorem ev_k47 (l : List Ent) (hl : l.length ≤ 10000000) : Ev (En Tryz.prog rfl).P 47 [.sl 4 (q0e l)] (.ret (.tup [q0g (if q7d l = true then q5g l else ⟨[], []⟩), .int .i64 (if q7d l = true then 0 else 1)])) := by
 refine Ev.of_body it_k47 (by simp) (AW.wkEnd (Run.start ?_))
 unfold t_k47
 have e1 := q0q l
 have hS := qjl
 have c1 := qox l (by omega)
 by_cases hf : q7d l = true
 case' neg =>
  rw [if_neg hf] at c1
  rw [if_neg hf, if_neg hf]
  (have hF := @e1; refine q01 (k:=?_); clear hF)
  refine q00 [.sl 4 (q0e l)] (he := c1) (k:=?_)
  (have hF := @e1; refine q01 (k:=?_); clear hF)
  exact Fin.done ⟨_, Wk.cells_nil (k := 2) rfl sub2, _, by with_unfolding_all rfl, rfl, _, q38 _, rfl⟩
 case' pos =>
  rw [if_pos hf] at c1
  rw [if_pos hf, if_pos hf]
  have hz := z9c l
  have er := zkq l.length
  (have hF := (aI @e1 @er); refine q01 (k:=?_); clear hF)
  refine q00 [.sl 4 (q0e l)] (he := c1) (k:=?_)
  (have hF := (aI @e1 @er); refine q01 (k:=?_); clear hF)
  rw [← hz]
  refine Run.while (σ := Nat) (fun i => ⟨tms [(2, .ptr 2 0), (4, .os 13 0), (14, .sl 4 (q0e l)), (15, .int .i64 (l.length : Int)), (16, .int .i64 (i : Int))], mms [(2, .cells [.nil, .nil]), (13, .arr 0 2 (q07 (q7o l i)))]⟩)
   (fun i => i ≤ l.length) (fun i => l.length - i) 0 (have hW := @q09; q0h) (Nat.zero_le _) ?_
  intro i hi
  unfold qs7
  by_cases hlt : i < l.length
  ·obtain ⟨e, he⟩ : ∃ e, l[i]? = some e := ⟨l[i], by simp [hlt]⟩
   have g1 := q1a he
   have hfs := zjx he
   have hfl := zjy hi
   have e3 := q0v (q7o l i)
   rw [hfl] at e3
   obtain ⟨d0, hd0⟩ : ∃ d, (q7o l i)[i]? = some d := ⟨(q7o l i)[i]'(by omega), by simp [show i < (q7o l i).length by omega]⟩
   have g2 : (q07 (q7o l i))[i]? = some (.agg [.int .i64 d0.1, .int .i64 d0.2]) := q3a hd0
   have hst : (q07 (q7o l i)).set i (.agg [.int .i64 e.rep, .int .i64 e.num]) = q07 (q7o l (i + 1)) := by rw [← hfs]; exact zkp _ _ _ _
   (have hF := (aI (aI @e1 @e3) (aI @g1 @g2)); refine q01 (k:=?_); clear hF)
   (refine Fin.nextW (i + 1) ?_ (have hW := (aI @q09 @hst); q0h); (try dsimp only))
   omega
  ·have hie : i = l.length := by omega
   subst hie
   rw [zjz]
   have c2 := ev_k94 (l.map Ent.dot) (by simp; omega)
   (have hF := @e1; refine q01 (k:=?_); clear hF)
   refine qsg (fun j => j == 13) [.sl 2 (q07 (l.map Ent.dot))] (he := c2) (k:=?_)
   (have hF := @e1; refine q01 (k:=?_); clear hF)
   exact Fin.done ⟨_, Wk.refl _ _, [q0g (q5g l), .int .i64 0], by with_unfolding_all rfl, by simp [q0j, q0r, AVal.stb], _, q38 _, rfl⟩
open Classical in
noncomputable def formF (f : Fct) : Bool := decide (FormF f)
theorem q37 {s : Swt} {W : Nat} (h : wtS s ≤ W) : s.live.length ≤ W ∧ wt s.past ≤ W ∧ s.defer.length ≤ W ∧ q6e s.defer ≤ W ∧ ∀ r ∈ s.defer, wt r.past ≤ W := by
 unfold wtS at h
 have := q7w s.defer
 exact ⟨by omega, by omega, by omega, by omega, fun r hr => by have := qi4 hr; unfold wtK at this; omega⟩
theorem z7p (l : List Ent) : wt (q5g l) ≤ 16 + l.length := by
 have := ofP_wt (l.map Ent.dot)
 rw [List.length_map] at this
 exact this
open Classical in
noncomputable def evtS (f : Fct) : Swt := if evErr f = 0 then evS f else noS

def z3z : List SOp := [zO 1 (.box 62 (.tmp 0)),zO 2 (.assign (.const (.bool false)))]
instance : Live z3z := ⟨[0]⟩
def z3y : List SOp := [zF 3 62 1 0,zL 4 41 3,zO 5 (.call ⟨.value (.func 111),#[.tmp 4],#[41]⟩),zM 6 5,⟨some 7,.fieldAddr 62 (.tmp 1) 1,some ((some 6),true)⟩,⟨some 8,.load 9 (.tmp 7),some ((some 6),true)⟩,⟨some 9,.call ⟨.value (.func 146),#[.tmp 8],#[9]⟩,some ((some 6),true)⟩,zO 10 (.pick (.tmp 6) (.tmp 9) (.const (.bool false))),zM 11 10,⟨some 12,.fieldAddr 62 (.tmp 1) 2,some ((some 11),true)⟩,⟨some 13,.load 3 (.tmp 12),some ((some 11),true)⟩,⟨some 14,.binOp .geq 3 (.tmp 13) (.const (.int .i64 1)) 3,some ((some 11),true)⟩,zO 15 (.pick (.tmp 11) (.tmp 14) (.const (.bool false))),zM 16 15,⟨some 17,.fieldAddr 62 (.tmp 1) 2,some ((some 16),true)⟩,⟨some 18,.load 3 (.tmp 17),some ((some 16),true)⟩,⟨some 19,.binOp .leq 3 (.tmp 18) (.const (.int .i64 1000000)) 3,some ((some 16),true)⟩,zO 20 (.pick (.tmp 16) (.tmp 19) (.const (.bool false))),zG 2 20]
instance : Live z3y := ⟨[1]⟩
def t_k115 : SC :=
 (.seq (.ops false z3z) (.seq (.ops false z3y) .ret))
theorem it_k115 : FnIs Tryz.prog 115 21 [.tmp 2] t_k115 := ⟨Tryz.f115, _, Tryz.func115, rfl, rfl, rfl, rfl, by kernel_rfl⟩

def z3x : List SOp := [zO 2 (.box 41 (.tmp 0)),zO 3 (.box 41 (.tmp 1)),zO 4 (.assign (.const (.bool false)))]
instance : Live z3x := ⟨[0,1]⟩
def z3w : List SOp := [zF 5 41 2 0,zL 6 3 5,zF 7 41 3 0,zL 8 3 7,zO 9 (.binOp .lss 3 (.tmp 6) (.tmp 8) 3),zM 10 9,⟨some 11,.fieldAddr 41 (.tmp 2) 0,some ((some 10),false)⟩,⟨some 12,.load 3 (.tmp 11),some ((some 10),false)⟩,⟨some 13,.fieldAddr 41 (.tmp 3) 0,some ((some 10),false)⟩,⟨some 14,.load 3 (.tmp 13),some ((some 10),false)⟩,⟨some 15,.binOp .eql 3 (.tmp 12) (.tmp 14) 3,some ((some 10),false)⟩,⟨some 16,.move (.tmp 15),some ((some 10),false)⟩,⟨some 17,.fieldAddr 41 (.tmp 2) 1,some ((some 16),true)⟩,⟨some 18,.load 3 (.tmp 17),some ((some 16),true)⟩,⟨some 19,.fieldAddr 41 (.tmp 3) 1,some ((some 16),true)⟩,⟨some 20,.load 3 (.tmp 19),some ((some 16),true)⟩,⟨some 21,.binOp .lss 3 (.tmp 18) (.tmp 20) 3,some ((some 16),true)⟩,⟨some 22,.pick (.tmp 16) (.tmp 21) (.const (.bool false)),some ((some 10),false)⟩,zO 23 (.pick (.tmp 10) (.const (.bool true)) (.tmp 22)),zG 4 23]
instance : Live z3w := ⟨[2,3]⟩
def t_k116 : SC :=
 (.seq (.ops false z3x) (.seq (.ops false z3w) .ret))
theorem it_k116 : FnIs Tryz.prog 116 24 [.tmp 4] t_k116 := ⟨Tryz.f116, _, Tryz.func116, rfl, rfl, rfl, rfl, by kernel_rfl⟩

def zds : List SOp := [zO 2 (.assign (.const (.bool false)))]
instance : Live zds := ⟨[0]⟩
def zdr : List SOp := [zO 3 (.assign (.const (.int .i64 0)))]
instance : Live zdr := ⟨[0]⟩
def zdq : List SOp := [zM 4 3,zM 5 0,zO 6 (.call ⟨.builtin .len,#[.tmp 5],#[22]⟩),zO 7 (.binOp .lss 3 (.tmp 4) (.tmp 6) 3)]
instance : Live zdq := ⟨[0,3]⟩
def zdp : List SOp := [zM 10 0,zM 11 3,zI 12 22 10 11,zL 13 62 12,zO 14 (.call ⟨.value (.func 115),#[.tmp 13],#[62]⟩),zO 15 (.unOp .not 4 (.tmp 14)),zM 16 15,⟨some 17,.move (.tmp 3),some ((some 16),false)⟩,⟨some 18,.binOp .gtr 3 (.tmp 17) (.const (.int .i64 0)) 3,some ((some 16),false)⟩,⟨some 19,.move (.tmp 18),some ((some 16),false)⟩,⟨some 20,.move (.tmp 0),some ((some 19),true)⟩,⟨some 21,.move (.tmp 3),some ((some 19),true)⟩,⟨some 22,.binOp .sub 3 (.tmp 21) (.const (.int .i64 1)) 3,some ((some 19),true)⟩,⟨some 23,.indexAddr 22 (.tmp 20) (.tmp 22),some ((some 19),true)⟩,⟨some 24,.fieldAddr 62 (.tmp 23) 0,some ((some 19),true)⟩,⟨some 25,.load 41 (.tmp 24),some ((some 19),true)⟩,⟨some 26,.move (.tmp 0),some ((some 19),true)⟩,⟨some 27,.move (.tmp 3),some ((some 19),true)⟩,⟨some 28,.indexAddr 22 (.tmp 26) (.tmp 27),some ((some 19),true)⟩,⟨some 29,.fieldAddr 62 (.tmp 28) 0,some ((some 19),true)⟩,⟨some 30,.load 41 (.tmp 29),some ((some 19),true)⟩,⟨some 31,.call ⟨.value (.func 116),#[.tmp 25,.tmp 30],#[41,41]⟩,some ((some 19),true)⟩,⟨some 32,.unOp .not 4 (.tmp 31),some ((some 19),true)⟩,⟨some 33,.pick (.tmp 19) (.tmp 32) (.const (.bool false)),some ((some 16),false)⟩,zO 34 (.pick (.tmp 16) (.const (.bool true)) (.tmp 33))]
instance : Live zdp := ⟨[0,3]⟩
def zdo : List SOp := [zO 2 (.assign (.const (.bool false)))]
instance : Live zdo := ⟨[]⟩
def zdn : List SOp := [zM 8 3,zO 9 (.binOp .add 3 (.tmp 8) (.const (.int .i64 1)) 3),zG 3 9]
instance : Live zdn := ⟨[0,3]⟩
def zdm : List SOp := [zO 2 (.assign (.const (.bool true)))]
instance : Live zdm := ⟨[]⟩
def qry : SC :=
 (.seq (.seq (.ops false zdq) (.cond (.tmp 7) .skip (.exit 0))) (.seq (.block 1 (.seq (.ops true zdp) (.cond (.tmp 34) (.seq (.ops false zdo) .ret) .skip))) (.ops false zdn)))
def t_k67 : SC :=
 (.seq (.ops false zds) (.seq (.seq (.ops false zdr) (.block 0 (.loop qry))) (.seq (.ops false zdm) .ret)))
theorem it_k67 : FnIs Tryz.prog 67 35 [.tmp 2] t_k67 := ⟨Tryz.f67, _, Tryz.func67, rfl, rfl, rfl, rfl, by kernel_rfl⟩

def z3t : List SOp := [zO 1 (.box 91 (.tmp 0)),zO 2 (.assign (.const (.bool false)))]
instance : Live z3t := ⟨[0]⟩
def z3s : List SOp := [zF 3 91 1 0,zL 4 9 3,zO 5 (.binOp .eql 9 (.tmp 4) (.const (.string ⟨#[]⟩)) 9),zM 6 5,⟨some 7,.fieldAddr 91 (.tmp 1) 0,some ((some 6),false)⟩,⟨some 8,.load 9 (.tmp 7),some ((some 6),false)⟩,⟨some 9,.call ⟨.value (.func 146),#[.tmp 8],#[9]⟩,some ((some 6),false)⟩,zO 10 (.pick (.tmp 6) (.const (.bool true)) (.tmp 9)),zM 11 10,⟨some 12,.fieldAddr 91 (.tmp 1) 1,some ((some 11),true)⟩,⟨some 13,.load 26 (.tmp 12),some ((some 11),true)⟩,⟨some 14,.call ⟨.value (.func 68),#[.tmp 13],#[26]⟩,some ((some 11),true)⟩,zO 15 (.pick (.tmp 11) (.tmp 14) (.const (.bool false))),zM 16 15,⟨some 17,.fieldAddr 91 (.tmp 1) 1,some ((some 16),true)⟩,⟨some 18,.load 26 (.tmp 17),some ((some 16),true)⟩,⟨some 19,.call ⟨.value (.func 76),#[.tmp 18],#[26]⟩,some ((some 16),true)⟩,⟨some 20,.unOp .not 4 (.tmp 19),some ((some 16),true)⟩,zO 21 (.pick (.tmp 16) (.tmp 20) (.const (.bool false))),zG 2 21]
instance : Live z3s := ⟨[1]⟩
def t_k118 : SC :=
 (.seq (.ops false z3t) (.seq (.ops false z3s) .ret))
theorem it_k118 : FnIs Tryz.prog 118 22 [.tmp 2] t_k118 := ⟨Tryz.f118, _, Tryz.func118, rfl, rfl, rfl, rfl, by kernel_rfl⟩

def zdj : List SOp := [zO 2 (.assign (.const (.bool false)))]
instance : Live zdj := ⟨[0]⟩
def zdi : List SOp := [zO 3 (.assign (.const (.int .i64 0)))]
instance : Live zdi := ⟨[0]⟩
def zdh : List SOp := [zM 6 3,zM 7 0,zO 8 (.call ⟨.builtin .len,#[.tmp 7],#[27]⟩),zO 9 (.binOp .lss 3 (.tmp 6) (.tmp 8) 3)]
instance : Live zdh := ⟨[0,3]⟩
def zdg : List SOp := [zM 12 0,zM 13 3,zI 14 27 12 13,zL 15 91 14,zO 16 (.call ⟨.value (.func 118),#[.tmp 15],#[91]⟩),zO 17 (.unOp .not 4 (.tmp 16))]
instance : Live zdg := ⟨[0,3]⟩
def zdf : List SOp := [zO 2 (.assign (.const (.bool false)))]
instance : Live zdf := ⟨[]⟩
def zde : List SOp := [zM 18 3,zO 19 (.binOp .gtr 3 (.tmp 18) (.const (.int .i64 0)) 3)]
instance : Live zde := ⟨[0,3]⟩
def qqb : List SOp := [zM 20 0,zM 21 3,zO 22 (.binOp .sub 3 (.tmp 21) (.const (.int .i64 1)) 3),zI 23 27 20 22,zL 24 91 23,zM 25 0,zM 26 3,zI 27 27 25 26,zL 28 91 27,zO 4 (.alloc 91),zO 5 (.alloc 91),⟨none,.store 91 (.tmp 4) (.tmp 24),none⟩,⟨none,.store 91 (.tmp 5) (.tmp 28),none⟩]
instance : Live qqb := ⟨[0,3]⟩
instance : Rd qqb := ⟨fun j => j == 0⟩
def zdd : List SOp := [zF 29 91 4 0,zL 30 9 29,zF 31 91 5 0,zL 32 9 31,zO 33 (.binOp .gtr 9 (.tmp 30) (.tmp 32) 9),zM 34 33,⟨some 35,.fieldAddr 91 (.tmp 4) 0,some ((some 34),false)⟩,⟨some 36,.load 9 (.tmp 35),some ((some 34),false)⟩,⟨some 37,.fieldAddr 91 (.tmp 5) 0,some ((some 34),false)⟩,⟨some 38,.load 9 (.tmp 37),some ((some 34),false)⟩,⟨some 39,.binOp .eql 9 (.tmp 36) (.tmp 38) 9,some ((some 34),false)⟩,⟨some 40,.move (.tmp 39),some ((some 34),false)⟩,⟨some 41,.fieldAddr 91 (.tmp 4) 1,some ((some 40),true)⟩,⟨some 42,.load 26 (.tmp 41),some ((some 40),true)⟩,⟨some 43,.fieldAddr 91 (.tmp 5) 1,some ((some 40),true)⟩,⟨some 44,.load 26 (.tmp 43),some ((some 40),true)⟩,⟨some 45,.call ⟨.value (.func 119),#[.tmp 42,.tmp 44],#[26,26]⟩,some ((some 40),true)⟩,⟨some 46,.binOp .geq 3 (.tmp 45) (.const (.int .i64 0)) 3,some ((some 40),true)⟩,⟨some 47,.pick (.tmp 40) (.tmp 46) (.const (.bool false)),some ((some 34),false)⟩,zO 48 (.pick (.tmp 34) (.const (.bool true)) (.tmp 47))]
instance : Live zdd := ⟨[0,3,4,5]⟩
def zdc : List SOp := [zO 2 (.assign (.const (.bool false)))]
instance : Live zdc := ⟨[]⟩
def qt4 : List SOp := [zM 10 3,zO 11 (.binOp .add 3 (.tmp 10) (.const (.int .i64 1)) 3),zG 3 11]
instance : Live qt4 := ⟨[0,3]⟩
def qt3 : List SOp := [zO 2 (.assign (.const (.bool true)))]
instance : Live qt3 := ⟨[]⟩
def qrx : SC :=
 (.seq (.seq (.ops false zdh) (.cond (.tmp 9) .skip (.exit 0))) (.seq (.block 1 (.seq (.seq (.ops false zdg) (.cond (.tmp 17) (.seq (.ops false zdf) .ret) .skip)) (.seq (.ops false zde) (.cond (.tmp 19) (.seq (.opsW [] qqb) (.seq (.ops false zdd) (.cond (.tmp 48) (.seq (.ops false zdc) .ret) .skip))) .skip)))) (.ops false qt4)))
def t_k69 : SC :=
 (.seq (.ops false zdj) (.seq (.seq (.ops false zdi) (.block 0 (.loop qrx))) (.seq (.ops false qt3) .ret)))
theorem it_k69 : FnIs Tryz.prog 69 49 [.tmp 2] t_k69 := ⟨Tryz.f69, _, Tryz.func69, rfl, rfl, rfl, rfl, by kernel_rfl⟩


def zd1 : List SOp := [zO 2 (.box 91 (.tmp 0)),zO 3 (.box 62 (.tmp 1)),zO 4 (.assign (.const (.bool false)))]
instance : Live zd1 := ⟨[0,1]⟩
def zd0 : List SOp := [zF 5 91 2 0,zL 6 9 5,zO 7 (.binOp .eql 9 (.tmp 6) (.const (.string ⟨#[]⟩)) 9),zM 8 7,⟨some 9,.fieldAddr 91 (.tmp 2) 0,some ((some 8),false)⟩,⟨some 10,.load 9 (.tmp 9),some ((some 8),false)⟩,⟨some 11,.fieldAddr 62 (.tmp 3) 1,some ((some 8),false)⟩,⟨some 12,.load 9 (.tmp 11),some ((some 8),false)⟩,⟨some 13,.binOp .eql 9 (.tmp 10) (.tmp 12) 9,some ((some 8),false)⟩,zO 14 (.pick (.tmp 8) (.const (.bool true)) (.tmp 13)),zM 15 14,⟨some 16,.fieldAddr 91 (.tmp 2) 1,some ((some 15),true)⟩,⟨some 17,.load 26 (.tmp 16),some ((some 15),true)⟩,⟨some 18,.fieldAddr 62 (.tmp 3) 0,some ((some 15),true)⟩,⟨some 19,.load 41 (.tmp 18),some ((some 15),true)⟩,⟨some 20,.call ⟨.value (.func 62),#[.tmp 17,.tmp 19],#[26,41]⟩,some ((some 15),true)⟩,zO 21 (.pick (.tmp 15) (.tmp 20) (.const (.bool false))),zG 4 21]
instance : Live zd0 := ⟨[2,3]⟩
def t_k72 : SC :=
 (.seq (.ops false zd1) (.seq (.ops false zd0) .ret))
theorem it_k72 : FnIs Tryz.prog 72 22 [.tmp 4] t_k72 := ⟨Tryz.f72, _, Tryz.func72, rfl, rfl, rfl, rfl, by kernel_rfl⟩

theorem ev_k115 (e : Ent) : Ev (En Tryz.prog rfl).P 115 [qam e] (.ret (.bool (decide (q23 e = 0)))) := by
 refine Ev.of_body it_k115 (by simp) (Run.start ?_)
 unfold t_k115 qam
 have c1 := zkk e.dot
 have c0 := zkg e.sku
 have hee := z9o e
 change Ev _ _ _ (.ret (.bool (q3n e.rep e.num))) at c1
 generalize q3n e.rep e.num = v1 at c1 hee
 generalize q7b e.sku = v2 at c0 hee
 generalize q23 e = u at hee ⊢
 (have hF := True.intro; refine q01 (k:=?_); clear hF)
 refine q00 [q4h e.dot] (he := c1) (k:=?_)
 cases v1
 ·rw [decide_eq_false (fun h => by have := (hee.1 h).1; simp at this)]
  (have hF := True.intro; refine q01 (k:=?_); clear hF)
  exact Fin.tmp' rfl rfl
 ·(have hF := True.intro; refine q01 (k:=?_); clear hF)
  refine q00 [.str e.sku] (he := c0) (k:=?_)
  cases v2
  ·rw [decide_eq_false (fun h => by have := (hee.1 h).2.1; simp at this)]
   (have hF := True.intro; refine q01 (k:=?_); clear hF)
   exact Fin.tmp' rfl rfl
  ·by_cases h3 : e.qty < 1
   ·rw [decide_eq_false (fun h => (hee.1 h).2.2.1 h3)]
    (have hF := True.intro; refine q01 (k:=?_); clear hF)
    exact Fin.tmp' rfl rfl
   ·by_cases h4 : 1000000 < e.qty
    ·rw [decide_eq_false (fun h => (hee.1 h).2.2.2 h4)]
     (have hF := True.intro; refine q01 (k:=?_); clear hF)
     exact Fin.tmp' rfl rfl
    ·rw [decide_eq_true (hee.2 ⟨rfl, rfl, h3, h4⟩)]
     (have hF := True.intro; refine q01 (k:=?_); clear hF)
     exact Fin.tmp' rfl rfl
theorem ev_k116 (a b : Rn) : Ev (En Tryz.prog rfl).P 116 [q4h a, q4h b] (.ret (.bool (q3b a b))) := by
 refine Ev.of_body it_k116 (by simp) (Run.start ?_)
 unfold t_k116 q4h q3b
 by_cases h1 : a.1 < b.1
 ·rw [show (decide (a.1 < b.1) || (decide (a.1 = b.1) && decide (a.2 < b.2))) = true by simp [h1]]
  (have hF := True.intro; refine q01 (k:=?_); clear hF)
  exact Fin.tmp' rfl rfl
 ·by_cases h2 : a.1 = b.1
  ·rw [show (decide (a.1 < b.1) || (decide (a.1 = b.1) && decide (a.2 < b.2))) = decide (a.2 < b.2) by simp [h1, h2]]
   (have hF := True.intro; refine q01 (k:=?_); clear hF)
   exact Fin.tmp' rfl rfl
  ·rw [show (decide (a.1 < b.1) || (decide (a.1 = b.1) && decide (a.2 < b.2))) = false by simp [h1, h2]]
   (have hF := True.intro; refine q01 (k:=?_); clear hF)
   exact Fin.tmp' rfl rfl
theorem ev_k67 (l : List Ent) (hl : l.length ≤ 1000000000) : Ev (En Tryz.prog rfl).P 67 [.sl 4 (q0e l)] (.ret (.bool (q7d l))) := by
 refine Ev.of_body it_k67 (by simp) (Run.start ?_)
 unfold t_k67
 have e1 := q0q l
 have hS := qps
 (have hF := @e1; refine q01 (k:=?_); clear hF)
 refine Run.while (σ := Nat) (fun i => ⟨tms [(0, .sl 4 (q0e l)), (3, .int .i64 (i : Int))], mms []⟩)
  (fun i => i ≤ l.length ∧ (∀ (j : Nat) q, j < i → l[j]? = some q → q23 q = 0) ∧ ∀ (j : Nat) a b, j + 1 < i → l[j]? = some a → l[j + 1]? = some b → q3b a.dot b.dot = true) (fun i => l.length - i) 0 (have hW := @q09; q0h) ⟨Nat.zero_le _, fun j q hj => absurd hj (Nat.not_lt_zero _), fun j a b hj => by omega⟩ ?_
 rintro i ⟨hi, hI⟩
 unfold qry
 by_cases hlt : i < l.length
 ·obtain ⟨r, hr⟩ : ∃ r, l[i]? = some r := ⟨l[i], by simp [hlt]⟩
  have g1 := q1a hr
  have c1 := ev_k115 r
  have hst := fun h0 h1 => qfe hr hI h0 h1
  have hbad : q23 r ≠ 0 → ¬ q77 l := fun h hf => h (hf.1 i r hr)
  generalize q23 r = v at c1 hst hbad
  (have hF := (aI @e1 @g1); refine q01 (k:=?_); clear hF)
  refine q00 [qam r] (he := c1) (k:=?_)
  by_cases hv : v = 0
  ·rw [decide_eq_true hv]
   have hst := hst hv
   by_cases h0 : i = 0
   ·have hst := hst (fun q hq => by omega)
    subst h0
    (have hF := (aI @e1 @g1); refine q01 (k:=?_); clear hF)
    (refine Fin.nextW (0 + 1) ?_ (have hW := @q09; q0h); (try dsimp only))
    exact ⟨⟨hlt, hst⟩, by omega⟩
   ·obtain ⟨q, hq⟩ : ∃ q, l[i - 1]? = some q := ⟨l[i - 1]'(by omega), by simp [show i - 1 < l.length by omega]⟩
    have g2 := q1a hq
    have hpw : IntKind.i64.wrap ((i : Int) - 1) = ((i - 1 : Nat) : Int) := by rw [q2l (by omega)]; omega
    have c2 := ev_k116 q.dot r.dot
    have hbad2 : q3b q.dot r.dot = false → ¬ q77 l := fun h hf => by
     have := hf.2 (i - 1) q r hq (by rw [show i - 1 + 1 = i by omega]; exact hr)
     rw [h] at this
     cases this
    have hst : q3b q.dot r.dot = true → _ := fun h => hst (fun q' _ hq' => by rw [hq] at hq'; cases hq'; exact h)
    generalize q3b q.dot r.dot = u at c2 hst hbad2
    (have hF := (aI (aI @e1 @g1) (aI @g2 @hpw)); refine q01 (k:=?_); clear hF)
    refine q00 [q4h q.dot, q4h r.dot] (he := c2) (k:=?_)
    cases u
    ·rw [q71 (hbad2 rfl)]
     (have hF := (aI @e1 @g1); refine q01 (k:=?_); clear hF)
     exact Fin.tmp' rfl rfl
    ·have hst := hst rfl
     (have hF := (aI @e1 @g1); refine q01 (k:=?_); clear hF)
     (refine Fin.nextW (i + 1) ?_ (have hW := @q09; q0h); (try dsimp only))
     exact ⟨⟨hlt, hst⟩, by omega⟩
  ·rw [decide_eq_false hv, q71 (hbad hv)]
   (have hF := (aI @e1 @g1); refine q01 (k:=?_); clear hF)
   exact Fin.tmp' rfl rfl
 ·rw [q4u (qoq (by omega) hI)]
  (have hF := @e1; refine q01 (k:=?_); clear hF)
  exact Fin.tmp' rfl rfl
theorem z8k (r : Rec) : q2o r = 0 ↔ (r.sku.size = 0 ∨ q7b r.sku = true) ∧ q1e r.past = true ∧ q3x r.past ≠ 0 := by
 unfold q2o
 by_cases h1 : r.sku.size = 0 <;> cases h2 : q7b r.sku <;> cases h3 : q1e r.past <;> by_cases h4 : q3x r.past = 0 <;> simp [h1, h4]
theorem ev_k118 (r : Rec) (hw : wt r.past ≤ 30000000) : Ev (En Tryz.prog rfl).P 118 [q4i r] (.ret (.bool (decide (q2o r = 0)))) := by
 refine Ev.of_body it_k118 (by simp) (Run.start ?_)
 unfold t_k118 q4i
 have c1 := zkg r.sku
 have c2 := ev_k68 r.past (by omega)
 have c3 := ev_k76 r.past (by omega)
 have e := q8s r.sku
 have hee := z8k r
 generalize q7b r.sku = v1 at c1 hee
 generalize q1e r.past = v2 at c2 hee
 generalize q3x r.past = v3 at c3 hee
 generalize q2o r = u at hee ⊢
 by_cases h0 : r.sku.size = 0
 case' pos =>
  rw [eq_true h0] at e
  (have hF := (aI @e (aI @decide_true @Bool.not_true)); refine q01 (k:=?_); clear hF)
 case' neg =>
  rw [eq_false h0] at e
  cases v1
  case' false =>
   rw [decide_eq_false (fun h => by have := (hee.1 h).1; simp [h0] at this)]
  all_goals
   (have hF := (aI @e (aI @decide_false @Bool.not_false)); refine q01 (k:=?_); clear hF)
   refine q00 [.str r.sku] (he := c1) (k:=?_)
   (have hF := True.intro; refine q01 (k:=?_); clear hF)
  case' false => exact Fin.tmp' rfl rfl
 all_goals
  refine q00 [q0g r.past] (he := c2) (k:=?_)
  cases v2
  ·rw [decide_eq_false (fun h => by have := (hee.1 h).2.1; simp at this)]
   (have hF := True.intro; refine q01 (k:=?_); clear hF)
   exact Fin.tmp' rfl rfl
  ·(have hF := True.intro; refine q01 (k:=?_); clear hF)
   refine q00 [q0g r.past] (he := c3) (k:=?_)
   by_cases h3 : v3 = 0
   ·rw [decide_eq_false (fun h => (hee.1 h).2.2 h3), decide_eq_true h3]
    (have hF := True.intro; refine q01 (k:=?_); clear hF)
    exact Fin.tmp' rfl rfl
   ·rw [decide_eq_true (hee.2 ⟨by simp [h0], rfl, h3⟩), decide_eq_false h3]
    (have hF := True.intro; refine q01 (k:=?_); clear hF)
    exact Fin.tmp' rfl rfl

def z3g : List SOp := [zO 2 (.alloc 26)]
instance : Live z3g := ⟨[0]⟩
def z3f : List SOp := [zO 3 (.alloc 26)]
instance : Live z3f := ⟨[0,2]⟩
def z3e : List SOp := [zO 4 (.assign (.const (.int .i64 0)))]
instance : Live z3e := ⟨[0,2,3]⟩
def z3d : List SOp := [zM 5 4,zM 6 0,zO 7 (.call ⟨.builtin .len,#[.tmp 6],#[38]⟩),zO 8 (.binOp .lss 3 (.tmp 5) (.tmp 7) 3)]
instance : Live z3d := ⟨[0,2,3,4]⟩
def qgo : List SOp := [zF 11 26 3 1,zL 12 24 11,zM 13 0,zM 14 4,zI 15 38 13 14,zF 16 41 15 0,zL 17 3 16,zM 18 0,zM 19 4,zI 20 38 18 19,zF 21 41 20 1,zL 22 3 21,zM 23 0,zM 24 4,zI 25 38 23 24,zF 26 41 25 1,zL 27 3 26,zO 28 (.build 127 #[(0,.tmp 17),(1,.tmp 22),(2,.tmp 27)]),zO 29 (.buildSlice 24 1 #[(0,.tmp 28)]),zO 30 (.call ⟨.builtin .append,#[.tmp 12,.tmp 29],#[24,24]⟩),zF 31 26 3 1,⟨none,.store 24 (.tmp 31) (.tmp 30),none⟩]
instance : Live qgo := ⟨[0,2,3,4]⟩
instance : Rd qgo := ⟨fun j => j == 0⟩
def z3c : List SOp := [zM 9 4,zO 10 (.binOp .add 3 (.tmp 9) (.const (.int .i64 1)) 3),zG 4 10]
instance : Live z3c := ⟨[0,2,3,4]⟩
def z3b : List SOp := [zL 32 26 3,zO 33 (.call ⟨.value (.func 117),#[.tmp 32],#[26]⟩),⟨none,.store 26 (.tmp 2) (.tmp 33),none⟩]
instance : Live z3b := ⟨[2,3]⟩
def qja : SC :=
 (.seq (.seq (.ops false z3d) (.cond (.tmp 8) .skip (.exit 0))) (.seq (.block 1 (.opsW [12] qgo)) (.ops false z3c)))
def t_k121 : SC :=
 (.seq (.ops false z3g) (.seq (.ops false z3f) (.seq (.seq (.ops false z3e) (.block 0 (.loop qja))) (.seq (.ops false z3b) .ret))))
theorem it_k121 : FnIs Tryz.prog 121 34 [.cell 2 26] t_k121 := ⟨Tryz.f121, _, Tryz.func121, rfl, rfl, rfl, rfl, by kernel_rfl⟩

def zd9 : List SOp := [zO 6 (.alloc 26)]
instance : Live zd9 := ⟨[0,1,2]⟩
def zd8 : List SOp := [zO 7 (.assign (.const (.slice none 0 0)))]
instance : Live zd8 := ⟨[0,1,2,6]⟩
def zd7 : List SOp := [zO 8 (.assign (.const (.int .i64 0)))]
instance : Live zd7 := ⟨[0,1,2,6,7]⟩
def zd6 : List SOp := [zM 9 8,zM 10 0,zO 11 (.call ⟨.builtin .len,#[.tmp 10],#[22]⟩),zO 12 (.binOp .lss 3 (.tmp 9) (.tmp 11) 3)]
instance : Live zd6 := ⟨[0,1,2,6,7,8]⟩
def zd5 : List SOp := [zM 15 1,zO 16 (.binOp .eql 9 (.tmp 15) (.const (.string ⟨#[]⟩)) 9),zM 17 16,⟨some 18,.move (.tmp 0),some ((some 17),false)⟩,⟨some 19,.move (.tmp 8),some ((some 17),false)⟩,⟨some 20,.indexAddr 22 (.tmp 18) (.tmp 19),some ((some 17),false)⟩,⟨some 21,.fieldAddr 62 (.tmp 20) 1,some ((some 17),false)⟩,⟨some 22,.load 9 (.tmp 21),some ((some 17),false)⟩,⟨some 23,.move (.tmp 1),some ((some 17),false)⟩,⟨some 24,.binOp .eql 9 (.tmp 22) (.tmp 23) 9,some ((some 17),false)⟩,zO 25 (.pick (.tmp 17) (.const (.bool true)) (.tmp 24)),zM 26 25,⟨some 27,.move (.tmp 2),some ((some 26),true)⟩,⟨some 28,.binOp .lss 3 (.tmp 27) (.const (.int .i64 0)) 3,some ((some 26),true)⟩,⟨some 29,.move (.tmp 28),some ((some 26),true)⟩,⟨some 30,.move (.tmp 0),some ((some 29),false)⟩,⟨some 31,.move (.tmp 8),some ((some 29),false)⟩,⟨some 32,.indexAddr 22 (.tmp 30) (.tmp 31),some ((some 29),false)⟩,⟨some 33,.fieldAddr 62 (.tmp 32) 0,some ((some 29),false)⟩,⟨some 34,.fieldAddr 41 (.tmp 33) 0,some ((some 29),false)⟩,⟨some 35,.load 3 (.tmp 34),some ((some 29),false)⟩,⟨some 36,.move (.tmp 2),some ((some 29),false)⟩,⟨some 37,.binOp .eql 3 (.tmp 35) (.tmp 36) 3,some ((some 29),false)⟩,⟨some 38,.pick (.tmp 29) (.const (.bool true)) (.tmp 37),some ((some 26),true)⟩,zO 39 (.pick (.tmp 26) (.tmp 38) (.const (.bool false)))]
instance : Live zd5 := ⟨[0,1,2,6,7,8]⟩
def zd4 : List SOp := [zM 40 7,zM 41 0,zM 42 8,zI 43 22 41 42,zF 44 62 43 0,zL 45 41 44,zO 46 (.buildSlice 38 1 #[(0,.tmp 45)]),zO 47 (.call ⟨.builtin .append,#[.tmp 40,.tmp 46],#[38,38]⟩),zG 7 47]
instance : Live zd4 := ⟨[0,1,2,6,7,8]⟩
def zd3 : List SOp := [zM 13 8,zO 14 (.binOp .add 3 (.tmp 13) (.const (.int .i64 1)) 3),zG 8 14]
instance : Live zd3 := ⟨[0,1,2,6,7,8]⟩
def zd2 : List SOp := [zM 48 7,zO 49 (.call ⟨.value (.func 121),#[.tmp 48],#[38]⟩),⟨none,.store 26 (.tmp 6) (.tmp 49),none⟩]
instance : Live zd2 := ⟨[6,7]⟩
def qrw : SC :=
 (.seq (.seq (.ops false zd6) (.cond (.tmp 12) .skip (.exit 0))) (.seq (.block 1 (.seq (.ops false zd5) (.cond (.tmp 39) (.ops false zd4) .skip))) (.ops false zd3)))
def t_k71 : SC :=
 (.seq (.ops false zd9) (.seq (.ops false zd8) (.seq (.seq (.ops false zd7) (.block 0 (.loop qrw))) (.seq (.ops false zd2) .ret))))
theorem it_k71 : FnIs Tryz.prog 71 50 [.cell 6 26] t_k71 := ⟨Tryz.f71, _, Tryz.func71, rfl, rfl, rfl, rfl, by kernel_rfl⟩


theorem ev_k69 (l : List Rec) (hl : l.length ≤ 1000000000) (hw : ∀ r ∈ l, wt r.past ≤ 30000000) : Ev (En Tryz.prog rfl).P 69 [.sl 3 (q08 l)] (.ret (.bool (q3h l))) := by
 refine Ev.of_body it_k69 (by simp) (Run.start ?_)
 unfold t_k69
 have e1 := q0m l
 have hS := qjl
 (have hF := @e1; refine q01 (k:=?_); clear hF)
 refine Run.while (σ := Nat) (fun i => ⟨tms [(0, .sl 3 (q08 l)), (3, .int .i64 (i : Int))], mms []⟩)
  (fun i => i ≤ l.length ∧ (∀ (j : Nat) q, j < i → l[j]? = some q → q2o q = 0) ∧ ∀ (j : Nat) a b, j + 1 < i → l[j]? = some a → l[j + 1]? = some b → q3s a b < 0) (fun i => l.length - i) 0 (have hW := @q04; q0h) ⟨Nat.zero_le _, fun j q hj => absurd hj (Nat.not_lt_zero _), fun j a b hj => by omega⟩ ?_
 rintro i ⟨hi, hI⟩
 unfold qrx
 by_cases hlt : i < l.length
 ·obtain ⟨r, hr⟩ : ∃ r, l[i]? = some r := ⟨l[i], by simp [hlt]⟩
  have g1 := q0x hr
  have hwr := hw r (List.mem_of_getElem? hr)
  have c1 := ev_k118 r (by omega)
  have hst := fun h0 h1 => qfc hr hI h0 h1
  have hbad : q2o r ≠ 0 → ¬ q3t l := fun h hf => h (hf.1 i r hr)
  generalize q2o r = v at c1 hst hbad
  (have hF := (aI @e1 @g1); refine q01 (k:=?_); clear hF)
  refine q00 [q4i r] (he := c1) (k:=?_)
  by_cases hv : v = 0
  ·rw [decide_eq_true hv]
   have hst := hst hv
   by_cases h0 : i = 0
   ·have hst := hst (fun q hq => by omega)
    subst h0
    (have hF := (aI @e1 @g1); refine q01 (k:=?_); clear hF)
    (refine Fin.nextW (0 + 1) ?_ (have hW := @q04; q0h); (try dsimp only))
    exact ⟨⟨hlt, hst⟩, by omega⟩
   ·obtain ⟨q, hq⟩ : ∃ q, l[i - 1]? = some q := ⟨l[i - 1]'(by omega), by simp [show i - 1 < l.length by omega]⟩
    have g2 := q0x hq
    have hpw : IntKind.i64.wrap ((i : Int) - 1) = ((i - 1 : Nat) : Int) := by rw [q2l (by omega)]; omega
    have hwq := hw q (List.mem_of_getElem? hq)
    have c2 := ev_k119 q.past r.past (by omega) (by omega)
    have hbad2 : ¬ q3s q r < 0 → ¬ q3t l := fun h hf => h (hf.2 (i - 1) q r hq (by rw [show i - 1 + 1 = i by omega]; exact hr))
    have hst : q3s q r < 0 → _ := fun h => hst (fun q' _ hq' => by rw [hq] at hq'; cases hq'; exact h)
    have h1 := zl4 q.sku r.sku
    have hrg : q93 q.sku r.sku = -1 ∨ q93 q.sku r.sku = 0 ∨ q93 q.sku r.sku = 1 := qf6 _ _
    have h0 : (q.sku = r.sku) = (q93 q.sku r.sku = 0) := propext q5h.symm
    unfold q3s at hst hbad2
    generalize q93 q.sku r.sku = u at *
    rcases hrg with rfl | rfl | rfl
    ·rw [show decide ((-1 : Int) < 0) = true by decide] at h1
     rw [show ((-1 : Int) = 0) = False by simp] at h0
     have hst := hst (by simp)
     (have hF := (aI (aI @e1 (aI @g1 @g2)) (aI @hpw (aI @h1 @h0))); refine q01 (k:=?_); clear hF)
     (have hF := (aI (aI (aI @e1 @g1) (aI @g2 @hpw)) (aI (aI @h1 @h0) (aI @Bool.not_true (aI @Bool.true_or @decide_false)))); refine run2 (k:=?_); clear hF)
     (refine Fin.nextW (i + 1) ?_ (have hW := @q04; q0h); (try dsimp only))
     exact ⟨⟨hlt, hst⟩, by omega⟩
    ·rw [show decide ((0 : Int) < 0) = false by decide] at h1
     rw [show ((0 : Int) = 0) = True by simp] at h0
     simp only [if_true] at hst hbad2
     generalize zaf q.past r.past = u at c2 hst hbad2
     (have hF := (aI (aI @e1 (aI @g1 @g2)) (aI @hpw (aI @h1 @h0))); refine q01 (k:=?_); clear hF)
     (have hF := (aI (aI (aI @e1 @g1) (aI @g2 (aI @hpw @h1))) (aI (aI @h0 @Bool.not_true) (aI @Bool.or_true (aI @Bool.false_or @decide_true)))); refine run2 (k:=?_); clear hF)
     refine q00 [q0g q.past, q0g r.past] (he := c2) (k:=?_)
     by_cases hu : u < 0
     ·have hst := hst hu
      (have hF := (aI @e1 @g1); refine q01 (k:=?_); clear hF)
      (refine Fin.nextW (i + 1) ?_ (have hW := @q04; q0h); (try dsimp only))
      exact ⟨⟨hlt, hst⟩, by omega⟩
     ·rw [q5c (hbad2 hu)]
      (have hF := (aI @e1 @g1); refine q01 (k:=?_); clear hF)
      exact Fin.tmp' rfl rfl
    ·rw [show decide ((1 : Int) < 0) = false by decide] at h1
     rw [show ((1 : Int) = 0) = False by simp] at h0
     rw [q5c (hbad2 (by simp))]
     (have hF := (aI (aI @e1 (aI @g1 @g2)) (aI @hpw (aI @h1 @h0))); refine q01 (k:=?_); clear hF)
     (have hF := (aI (aI (aI @e1 @g1) (aI @g2 @hpw)) (aI (aI @h1 @h0) (aI @Bool.not_false (aI @Bool.or_false @decide_false)))); refine run2 (k:=?_); clear hF)
     exact Fin.tmp' rfl rfl
  ·rw [decide_eq_false hv, q5c (hbad hv)]
   (have hF := (aI @e1 @g1); refine q01 (k:=?_); clear hF)
   exact Fin.tmp' rfl rfl
 ·rw [q2j ⟨fun j q hq => hI.1 j q (by
   rcases Nat.lt_or_ge j l.length with h | h
   ·omega
   ·rw [List.getElem?_eq_none h] at hq; cases hq) hq, fun j a b ha hb => hI.2 j a b (by
   rcases Nat.lt_or_ge (j + 1) l.length with h | h
   ·omega
   ·rw [List.getElem?_eq_none h] at hb; cases hb) ha hb⟩]
  (have hF := @e1; refine q01 (k:=?_); clear hF)
  exact Fin.tmp' rfl rfl
def q51 (ds : List Rn) : List Sn := ds.map fun d => (d.1, d.2, d.2)
theorem qq6 {ds : List Rn} {i : Nat} {d : Rn} (h : ds[i]? = some d) : q51 (ds.take (i + 1)) = q51 (ds.take i) ++ [(d.1, d.2, d.2)] := by
 unfold q51
 rw [List.take_add_one, h, List.map_append]
 rfl
theorem z8q (ds : List Rn) : q18 ⟨[], q51 ds⟩ = ofP ds := by
 refine (q9y _).ext (canP_of2 ds) fun r hr n => ?_
 rw [qgs _ hr, ziw ds hr]
 unfold inP q51
 constructor
 ·rintro ⟨_, h1, h2, h3⟩
  refine ⟨h1, h2, ?_⟩
  rcases h3 with ⟨h3, _⟩ | ⟨s, hs, a1, a2, a3⟩
  ·simp at h3
  ·obtain ⟨d, hd, rfl⟩ := List.mem_map.1 hs
   simp only at a1 a2 a3
   have : d = ((r : Int), n) := by
    cases d with
    | mk x y => simp only at a1 a2 a3; rw [a1, show y = n by omega]
   rw [← this]
   exact hd
 ·rintro ⟨h1, h2, h3⟩
  exact ⟨hr, h1, h2, .inr ⟨((r : Int), n, n), List.mem_map.2 ⟨_, h3, rfl⟩, rfl, Int.le_refl _, Int.le_refl _⟩⟩
theorem ev_k121 (ds : List Rn) (hl : ds.length ≤ 10000000) : Ev (En Tryz.prog rfl).P 121 [.sl 2 (q07 ds)] (.ret (q0g (ofP ds))) := by
 refine Ev.of_body it_k121 (by simp) (Run.start ?_)
 unfold t_k121
 have e1 := q0v ds
 have hS := qjl
 (have hF := @e1; refine q01 (k:=?_); clear hF)
 refine Run.wk (Wk.own_cells (k := 3) (cs' := [.own 1 [], .own 3 []]) rfl rfl ?_) ?_
 ·intro i x y hx hy
  match i with
  | 0 => simp at hx hy; subst hx; subst hy; exact .inr ⟨rfl, 1, rfl⟩
  | 1 => simp at hx hy; subst hx; subst hy; exact .inr ⟨rfl, 3, rfl⟩
  | i + 2 => simp at hx
 refine Run.while (σ := Nat) (fun i => ⟨tms [(0, .sl 2 (q07 ds)), (2, .ptr 2 0), (3, .ptr 3 0), (4, .int .i64 (i : Int))], mms [(2, .cells [.nil, .nil]), (3, .cells [.own 1 [], .own 3 (q0d (q51 (ds.take i)))])]⟩)
  (fun i => i ≤ ds.length) (fun i => ds.length - i) 0 (have hW := @q06; q0h) (Nat.zero_le _) ?_
 intro i hi
 unfold qja
 by_cases hlt : i < ds.length
 ·obtain ⟨d, hd⟩ : ∃ d, ds[i]? = some d := ⟨ds[i], by simp [hlt]⟩
  have g1 : (q07 ds)[i]? = some (.agg [.int .i64 d.1, .int .i64 d.2]) := q3a hd
  have hst := qq6 hd
  have hle : (q51 (ds.take i)).length ≤ ds.length := by unfold q51; rw [List.length_map, List.length_take]; omega
  generalize q51 (ds.take i) = sp at *
  have e2 := q1f sp
  (have hF := (aI @e1 (aI @e2 @g1)); refine q01 (k:=?_); clear hF)
  (have hF := (aI @e1 (aI @e2 @g1)); refine run2 (k:=?_); clear hF)
  (refine Fin.nextW (i + 1) ?_ (have hW := (aI @q06 (aI @hst @q84)); q0h); (try dsimp only))
  omega
 ·rw [List.take_of_length_le (show ds.length ≤ i by omega)]
  have hsl : (q51 ds).length = ds.length := by simp [q51]
  have c1 := qhf ⟨[], q51 ds⟩ (by show 0 + (q51 ds).length ≤ _; omega)
  rw [z8q] at c1
  refine Run.wk (Wk.freeze (k := 3) (cs := [.own 1 [], .own 3 (q0d (q51 ds))]) rfl) ?_
  (have hF := @e1; refine q01 (k:=?_); clear hF)
  refine q00 [q0g ⟨[], q51 ds⟩] (he := c1) (k:=?_)
  unfold q0g
  (have hF := @e1; refine q01 (k:=?_); clear hF)
  exact Fin.all (xs := [q0g (ofP ds)]) (by with_unfolding_all rfl) (by simp [q0j, q0r]) rfl






def zif : List SOp := [zO 2 (.box 31 (.tmp 0)),zO 3 (.box 31 (.tmp 1)),zO 4 (.assign (.const (.bool false)))]
instance : Live zif := ⟨[0,1]⟩
def zie : List SOp := [zF 7 31 2 0,zL 8 22 7,zO 9 (.call ⟨.builtin .len,#[.tmp 8],#[22]⟩),zF 10 31 3 0,zL 11 22 10,zO 12 (.call ⟨.builtin .len,#[.tmp 11],#[22]⟩),zO 13 (.binOp .neq 3 (.tmp 9) (.tmp 12) 3),zM 14 13,⟨some 15,.fieldAddr 31 (.tmp 2) 1,some ((some 14),false)⟩,⟨some 16,.load 26 (.tmp 15),some ((some 14),false)⟩,⟨some 17,.fieldAddr 31 (.tmp 3) 1,some ((some 14),false)⟩,⟨some 18,.load 26 (.tmp 17),some ((some 14),false)⟩,⟨some 19,.call ⟨.value (.func 50),#[.tmp 16,.tmp 18],#[26,26]⟩,some ((some 14),false)⟩,⟨some 20,.unOp .not 4 (.tmp 19),some ((some 14),false)⟩,zO 21 (.pick (.tmp 14) (.const (.bool true)) (.tmp 20)),zM 22 21,⟨some 23,.fieldAddr 31 (.tmp 2) 2,some ((some 22),false)⟩,⟨some 24,.load 27 (.tmp 23),some ((some 22),false)⟩,⟨some 25,.call ⟨.builtin .len,#[.tmp 24],#[27]⟩,some ((some 22),false)⟩,⟨some 26,.fieldAddr 31 (.tmp 3) 2,some ((some 22),false)⟩,⟨some 27,.load 27 (.tmp 26),some ((some 22),false)⟩,⟨some 28,.call ⟨.builtin .len,#[.tmp 27],#[27]⟩,some ((some 22),false)⟩,⟨some 29,.binOp .neq 3 (.tmp 25) (.tmp 28) 3,some ((some 22),false)⟩,zO 30 (.pick (.tmp 22) (.const (.bool true)) (.tmp 29))]
instance : Live zie := ⟨[2,3]⟩
def zid : List SOp := [zO 4 (.assign (.const (.bool false)))]
instance : Live zid := ⟨[]⟩
def zic : List SOp := [zO 5 (.assign (.const (.int .i64 0)))]
instance : Live zic := ⟨[2,3]⟩
def zib : List SOp := [zM 31 5,zF 32 31 2 0,zL 33 22 32,zO 34 (.call ⟨.builtin .len,#[.tmp 33],#[22]⟩),zO 35 (.binOp .lss 3 (.tmp 31) (.tmp 34) 3)]
instance : Live zib := ⟨[2,3,5]⟩
def zia : List SOp := [zF 38 31 2 0,zL 39 22 38,zM 40 5,zI 41 22 39 40,zL 42 62 41,zF 43 31 3 0,zL 44 22 43,zM 45 5,zI 46 22 44 45,zL 47 62 46,zO 48 (.binOp .neq 62 (.tmp 42) (.tmp 47) 62)]
instance : Live zia := ⟨[2,3,5]⟩
def zi9 : List SOp := [zO 4 (.assign (.const (.bool false)))]
instance : Live zi9 := ⟨[]⟩
def zi8 : List SOp := [zM 36 5,zO 37 (.binOp .add 3 (.tmp 36) (.const (.int .i64 1)) 3),zG 5 37]
instance : Live zi8 := ⟨[2,3,5]⟩
def zi7 : List SOp := [zO 6 (.assign (.const (.int .i64 0)))]
instance : Live zi7 := ⟨[2,3]⟩
def qxt : List SOp := [zM 49 6,zF 50 31 2 2,zL 51 27 50,zO 52 (.call ⟨.builtin .len,#[.tmp 51],#[27]⟩),zO 53 (.binOp .lss 3 (.tmp 49) (.tmp 52) 3)]
instance : Live qxt := ⟨[2,3,6]⟩
def qxs : List SOp := [zF 56 31 2 2,zL 57 27 56,zM 58 6,zI 59 27 57 58,zF 60 91 59 0,zL 61 9 60,zF 62 31 3 2,zL 63 27 62,zM 64 6,zI 65 27 63 64,zF 66 91 65 0,zL 67 9 66,zO 68 (.binOp .neq 9 (.tmp 61) (.tmp 67) 9),zM 69 68,⟨some 70,.fieldAddr 31 (.tmp 2) 2,some ((some 69),false)⟩,⟨some 71,.load 27 (.tmp 70),some ((some 69),false)⟩,⟨some 72,.move (.tmp 6),some ((some 69),false)⟩,⟨some 73,.indexAddr 27 (.tmp 71) (.tmp 72),some ((some 69),false)⟩,⟨some 74,.fieldAddr 91 (.tmp 73) 1,some ((some 69),false)⟩,⟨some 75,.load 26 (.tmp 74),some ((some 69),false)⟩,⟨some 76,.fieldAddr 31 (.tmp 3) 2,some ((some 69),false)⟩,⟨some 77,.load 27 (.tmp 76),some ((some 69),false)⟩,⟨some 78,.move (.tmp 6),some ((some 69),false)⟩,⟨some 79,.indexAddr 27 (.tmp 77) (.tmp 78),some ((some 69),false)⟩,⟨some 80,.fieldAddr 91 (.tmp 79) 1,some ((some 69),false)⟩,⟨some 81,.load 26 (.tmp 80),some ((some 69),false)⟩,⟨some 82,.call ⟨.value (.func 50),#[.tmp 75,.tmp 81],#[26,26]⟩,some ((some 69),false)⟩,⟨some 83,.unOp .not 4 (.tmp 82),some ((some 69),false)⟩,zO 84 (.pick (.tmp 69) (.const (.bool true)) (.tmp 83))]
instance : Live qxs := ⟨[2,3,6]⟩
def qxr : List SOp := [zO 4 (.assign (.const (.bool false)))]
instance : Live qxr := ⟨[]⟩
def qxq : List SOp := [zM 54 6,zO 55 (.binOp .add 3 (.tmp 54) (.const (.int .i64 1)) 3),zG 6 55]
instance : Live qxq := ⟨[2,3,6]⟩
def qxp : List SOp := [zO 4 (.assign (.const (.bool true)))]
instance : Live qxp := ⟨[]⟩
def qsd : SC :=
 (.seq (.seq (.ops false zib) (.cond (.tmp 35) .skip (.exit 0))) (.seq (.block 1 (.seq (.ops true zia) (.cond (.tmp 48) (.seq (.ops false zi9) .ret) .skip))) (.ops false zi8)))
def qsc : SC :=
 (.seq (.seq (.ops false qxt) (.cond (.tmp 53) .skip (.exit 2))) (.seq (.block 3 (.seq (.ops true qxs) (.cond (.tmp 84) (.seq (.ops false qxr) .ret) .skip))) (.ops false qxq)))
def t_k15 : SC :=
 (.seq (.ops false zif) (.seq (.seq (.ops false zie) (.cond (.tmp 30) (.seq (.ops false zid) .ret) .skip)) (.seq (.seq (.ops false zic) (.block 0 (.loop qsd))) (.seq (.seq (.ops false zi7) (.block 2 (.loop qsc))) (.seq (.ops false qxp) .ret)))))
theorem it_k15 : FnIs Tryz.prog 15 85 [.tmp 4] t_k15 := ⟨Tryz.f15, _, Tryz.func15, rfl, rfl, rfl, rfl, by kernel_rfl⟩

theorem ev_k71 (l : List Ent) (hl : l.length ≤ 10000000) : Ev (En Tryz.prog rfl).P 71 [.sl 4 (q0e l), .str ⟨#[]⟩, .int .i64 (-1)] (.ret (q0g (q5g l))) := by
 refine Ev.of_body it_k71 (by simp) (Run.start ?_)
 unfold t_k71
 have e1 := q0q l
 have hS := qjl
 (have hF := @e1; refine q01 (k:=?_); clear hF)
 refine Run.wk (Wk.own_nil 7 47 2 rfl rfl) ?_
 refine Run.while (σ := Nat) (fun i => ⟨tms [(0, .sl 4 (q0e l)), (1, .str ⟨#[]⟩), (2, .int .i64 (-1)), (6, .ptr 6 0), (7, .os 47 i), (8, .int .i64 (i : Int))], mms [(6, .cells [.nil, .nil]), (47, .arr i 2 (q07 ((l.take i).map Ent.dot)))]⟩)
  (fun i => i ≤ l.length) (fun i => l.length - i) 0 (have hW := (aI @q09 @q06); q0h) (Nat.zero_le _) ?_
 intro i hi
 unfold qrw
 by_cases hlt : i < l.length
 ·obtain ⟨e, he⟩ : ∃ e, l[i]? = some e := ⟨l[i], by simp [hlt]⟩
  have g1 := q1a he
  have hst : (l.take (i + 1)).map Ent.dot = (l.take i).map Ent.dot ++ [(e.rep, e.num)] := by rw [List.take_add_one, he, List.map_append]; rfl
  have hlen : ((l.take i).map Ent.dot).length ≤ l.length := by rw [List.length_map, List.length_take]; omega
  generalize (l.take i).map Ent.dot = ds at *
  have e2 := q0v ds
  have hs0 : ((⟨#[]⟩ : ByteArray) = ⟨#[]⟩) = True := by simp
  (have hF := (aI (aI @e1 @e2) (aI @g1 (aI @hs0 @decide_true))); refine q01 (k:=?_); clear hF)
  (refine Fin.nextW (i + 1) ?_ (have hW := (aI (aI @q09 @q06) (aI @hst @q6m)); q0h); (try dsimp only))
  omega
 ·rw [List.take_of_length_le (show l.length ≤ i by omega)]
  have hll : (l.map Ent.dot).length = l.length := by simp
  have c1 := ev_k121 (l.map Ent.dot) (by omega)
  (have hF := @e1; refine q01 (k:=?_); clear hF)
  refine qsg (fun j => j == 47) [.sl 2 (q07 (l.map Ent.dot))] (he := c1) (k:=?_)
  (have hF := @e1; refine q01 (k:=?_); clear hF)
  exact Fin.all (xs := [q0g (q5g l)]) (by with_unfolding_all rfl) (by simp [q0j, q0r]) rfl
theorem ev_k72 (r : Rec) (e : Ent) (hw : wt r.past ≤ 900000000) : Ev (En Tryz.prog rfl).P 72 [q4i r, qam e] (.ret (.bool (qeg r e))) := by
 refine Ev.of_body it_k72 (by simp) (Run.start ?_)
 unfold t_k72 q4i qam qeg
 have es := q8s r.sku
 have c1 := ev_k62 r.past e.dot hw
 generalize q1s r.past e.dot = v at c1 ⊢
 by_cases h0 : r.sku.size = 0
 ·rw [decide_eq_true h0, Bool.true_or, Bool.true_and]
  rw [eq_true h0] at es
  (have hF := @es; refine q01 (k:=?_); clear hF)
  refine q00 [q0g r.past, q4h e.dot] (he := c1) (k:=?_)
  (have hF := True.intro; refine q01 (k:=?_); clear hF)
  exact Fin.tmp' rfl rfl
 ·rw [decide_eq_false h0, Bool.false_or]
  rw [eq_false h0] at es
  by_cases h1 : r.sku = e.sku
  ·rw [decide_eq_true h1, Bool.true_and]
   have es2 := es
   rw [h1] at es2
   (have hF := (aI @es (aI @h1 @es2)); refine q01 (k:=?_); clear hF)
   refine q00 [q0g r.past, q4h e.dot] (he := c1) (k:=?_)
   (have hF := True.intro; refine q01 (k:=?_); clear hF)
   exact Fin.tmp' rfl rfl
  ·rw [decide_eq_false h1, Bool.false_and]
   (have hF := (aI @es @h1); refine q01 (k:=?_); clear hF)
   exact Fin.tmp' rfl rfl

def zi6 : List SOp := [zO 1 (.box 31 (.tmp 0)),zO 2 (.assign (.const (.int .i64 0)))]
instance : Live zi6 := ⟨[0]⟩
def zi5 : List SOp := [zF 9 31 1 0,zL 10 22 9,zO 11 (.call ⟨.value (.func 53),#[.tmp 10],#[22]⟩),zO 12 (.binOp .neq 32 (.tmp 11) (.const (.int .i64 0)) 32),zM 13 12,⟨some 14,.fieldAddr 31 (.tmp 1) 1,some ((some 13),false)⟩,⟨some 15,.load 26 (.tmp 14),some ((some 13),false)⟩,⟨some 16,.call ⟨.value (.func 54),#[.tmp 15],#[26]⟩,some ((some 13),false)⟩,⟨some 17,.unOp .not 4 (.tmp 16),some ((some 13),false)⟩,zO 18 (.pick (.tmp 13) (.const (.bool true)) (.tmp 17)),zM 19 18,⟨some 20,.fieldAddr 31 (.tmp 1) 2,some ((some 19),false)⟩,⟨some 21,.load 27 (.tmp 20),some ((some 19),false)⟩,⟨some 22,.call ⟨.value (.func 55),#[.tmp 21],#[27]⟩,some ((some 19),false)⟩,⟨some 23,.binOp .neq 32 (.tmp 22) (.const (.int .i64 0)) 32,some ((some 19),false)⟩,zO 24 (.pick (.tmp 19) (.const (.bool true)) (.tmp 23))]
instance : Live zi5 := ⟨[1]⟩
def zi4 : List SOp := [zO 2 (.assign (.const (.int .i64 1)))]
instance : Live zi4 := ⟨[]⟩
def zi3 : List SOp := [zF 26 31 1 0,zL 27 22 26,zO 28 (.call ⟨.value (.func 47),#[.tmp 27],#[22]⟩),zM 25 28,zX 29 25 0,zX 30 25 1,zO 3 (.alloc 26),⟨none,.store 26 (.tmp 3) (.tmp 29),none⟩,zG 4 30]
instance : Live zi3 := ⟨[1]⟩
def zi2 : List SOp := [zL 31 26 3,zF 32 31 1 1,zL 33 26 32,zO 34 (.call ⟨.value (.func 56),#[.tmp 31,.tmp 33],#[26,26]⟩),zO 35 (.unOp .not 4 (.tmp 34))]
instance : Live zi2 := ⟨[1,3]⟩
def zi1 : List SOp := [zO 2 (.assign (.const (.int .i64 1)))]
instance : Live zi1 := ⟨[]⟩
def zi0 : List SOp := [zF 37 31 1 2,zL 38 27 37,zF 39 31 1 1,zL 40 26 39,zO 41 (.call ⟨.value (.func 57),#[.tmp 38,.tmp 40],#[27,26]⟩),zM 36 41,zX 42 36 0,zX 43 36 1,zG 5 42,zG 6 43]
instance : Live zi0 := ⟨[1]⟩
def zhz : List SOp := [zM 44 5,zO 45 (.call ⟨.builtin .len,#[.tmp 44],#[27]⟩),zF 46 31 1 2,zL 47 27 46,zO 48 (.call ⟨.builtin .len,#[.tmp 47],#[27]⟩),zO 49 (.binOp .neq 3 (.tmp 45) (.tmp 48) 3)]
instance : Live zhz := ⟨[1,5]⟩
def zhy : List SOp := [zO 2 (.assign (.const (.int .i64 1)))]
instance : Live zhy := ⟨[]⟩
def quk : List SOp := [zF 51 31 1 0,zL 52 22 51,zF 53 31 1 2,zL 54 27 53,zO 55 (.call ⟨.value (.func 58),#[.tmp 52,.tmp 54],#[22,27]⟩),zM 50 55,zX 56 50 0,zX 57 50 1,zG 7 56,zG 8 57]
instance : Live quk := ⟨[1]⟩
def quj : List SOp := [zM 58 7,zO 59 (.call ⟨.builtin .len,#[.tmp 58],#[22]⟩),zF 60 31 1 0,zL 61 22 60,zO 62 (.call ⟨.builtin .len,#[.tmp 61],#[22]⟩),zO 63 (.binOp .neq 3 (.tmp 59) (.tmp 62) 3)]
instance : Live quj := ⟨[1,7]⟩
def qui : List SOp := [zO 2 (.assign (.const (.int .i64 1)))]
instance : Live qui := ⟨[]⟩
def quh : List SOp := [zO 2 (.assign (.const (.int .i64 0)))]
instance : Live quh := ⟨[]⟩
def t_k18 : SC :=
 (.seq (.ops false zi6) (.seq (.seq (.ops false zi5) (.cond (.tmp 24) (.seq (.ops false zi4) .ret) .skip)) (.seq (.seq (.ops false zi3) (.seq (.ops false zi2) (.cond (.tmp 35) (.seq (.ops false zi1) .ret) .skip))) (.seq (.seq (.ops false zi0) (.seq (.ops false zhz) (.cond (.tmp 49) (.seq (.ops false zhy) .ret) .skip))) (.seq (.seq (.ops false quk) (.seq (.ops false quj) (.cond (.tmp 63) (.seq (.ops false qui) .ret) .skip))) (.seq (.ops false quh) .ret))))))
theorem it_k18 : FnIs Tryz.prog 18 64 [.tmp 2] t_k18 := ⟨Tryz.f18, _, Tryz.func18, rfl, rfl, rfl, rfl, by kernel_rfl⟩

def zho : List SOp := [zO 1 (.box 31 (.tmp 0)),zO 2 (.assign (.const (.bool false)))]
instance : Live zho := ⟨[0]⟩
def zhn : List SOp := [zF 5 31 1 0,zL 6 22 5,zO 7 (.call ⟨.value (.func 67),#[.tmp 6],#[22]⟩),zO 8 (.unOp .not 4 (.tmp 7)),zM 9 8,⟨some 10,.fieldAddr 31 (.tmp 1) 1,some ((some 9),false)⟩,⟨some 11,.load 26 (.tmp 10),some ((some 9),false)⟩,⟨some 12,.call ⟨.value (.func 68),#[.tmp 11],#[26]⟩,some ((some 9),false)⟩,⟨some 13,.unOp .not 4 (.tmp 12),some ((some 9),false)⟩,zO 14 (.pick (.tmp 9) (.const (.bool true)) (.tmp 13)),zM 15 14,⟨some 16,.fieldAddr 31 (.tmp 1) 2,some ((some 15),false)⟩,⟨some 17,.load 27 (.tmp 16),some ((some 15),false)⟩,⟨some 18,.call ⟨.value (.func 69),#[.tmp 17],#[27]⟩,some ((some 15),false)⟩,⟨some 19,.unOp .not 4 (.tmp 18),some ((some 15),false)⟩,zO 20 (.pick (.tmp 15) (.const (.bool true)) (.tmp 19))]
instance : Live zhn := ⟨[1]⟩
def zhm : List SOp := [zO 2 (.assign (.const (.bool false)))]
instance : Live zhm := ⟨[]⟩
def zhl : List SOp := [zF 21 31 1 0,zL 22 22 21,zO 23 (.call ⟨.value (.func 71),#[.tmp 22,.const (.string ⟨#[]⟩),.const (.int .i64 (-1))],#[22,9,3]⟩),zF 24 31 1 1,zL 25 26 24,zO 26 (.call ⟨.value (.func 70),#[.tmp 23,.tmp 25],#[26,26]⟩),zO 27 (.unOp .not 4 (.tmp 26))]
instance : Live zhl := ⟨[1]⟩
def zhk : List SOp := [zO 2 (.assign (.const (.bool false)))]
instance : Live zhk := ⟨[]⟩
def zhj : List SOp := [zO 3 (.assign (.const (.int .i64 0)))]
instance : Live zhj := ⟨[1]⟩
def zhi : List SOp := [zM 28 3,zF 29 31 1 2,zL 30 27 29,zO 31 (.call ⟨.builtin .len,#[.tmp 30],#[27]⟩),zO 32 (.binOp .lss 3 (.tmp 28) (.tmp 31) 3)]
instance : Live zhi := ⟨[1,3]⟩
def zhh : List SOp := [zF 35 31 1 2,zL 36 27 35,zM 37 3,zI 38 27 36 37,zF 39 91 38 1,zL 40 26 39,zF 41 31 1 1,zL 42 26 41,zO 43 (.call ⟨.value (.func 70),#[.tmp 40,.tmp 42],#[26,26]⟩)]
instance : Live zhh := ⟨[1,3]⟩
def zhg : List SOp := [zO 2 (.assign (.const (.bool false)))]
instance : Live zhg := ⟨[]⟩
def qu8 : List SOp := [zO 4 (.assign (.const (.int .i64 0)))]
instance : Live qu8 := ⟨[1,3]⟩
def qu7 : List SOp := [zM 44 4,zF 45 31 1 0,zL 46 22 45,zO 47 (.call ⟨.builtin .len,#[.tmp 46],#[22]⟩),zO 48 (.binOp .lss 3 (.tmp 44) (.tmp 47) 3)]
instance : Live qu7 := ⟨[1,3,4]⟩
def qu6 : List SOp := [zF 51 31 1 2,zL 52 27 51,zM 53 3,zI 54 27 52 53,zL 55 91 54,zF 56 31 1 0,zL 57 22 56,zM 58 4,zI 59 22 57 58,zL 60 62 59,zO 61 (.call ⟨.value (.func 72),#[.tmp 55,.tmp 60],#[91,62]⟩)]
instance : Live qu6 := ⟨[1,3,4]⟩
def qu5 : List SOp := [zO 2 (.assign (.const (.bool false)))]
instance : Live qu5 := ⟨[]⟩
def qu4 : List SOp := [zM 49 4,zO 50 (.binOp .add 3 (.tmp 49) (.const (.int .i64 1)) 3),zG 4 50]
instance : Live qu4 := ⟨[1,3,4]⟩
def qu3 : List SOp := [zM 33 3,zO 34 (.binOp .add 3 (.tmp 33) (.const (.int .i64 1)) 3),zG 3 34]
instance : Live qu3 := ⟨[1,3]⟩
def qu2 : List SOp := [zO 2 (.assign (.const (.bool true)))]
instance : Live qu2 := ⟨[]⟩
def qsa : SC :=
 (.seq (.seq (.ops false qu7) (.cond (.tmp 48) .skip (.exit 2))) (.seq (.block 3 (.seq (.ops true qu6) (.cond (.tmp 61) (.seq (.ops false qu5) .ret) .skip))) (.ops false qu4)))
def qsb : SC :=
 (.seq (.seq (.ops false zhi) (.cond (.tmp 32) .skip (.exit 0))) (.seq (.block 1 (.seq (.seq (.ops true zhh) (.cond (.tmp 43) (.seq (.ops false zhg) .ret) .skip)) (.seq (.ops false qu8) (.block 2 (.loop qsa))))) (.ops false qu3)))
def t_k26 : SC :=
 (.seq (.ops false zho) (.seq (.seq (.ops false zhn) (.cond (.tmp 20) (.seq (.ops false zhm) .ret) .skip)) (.seq (.seq (.ops true zhl) (.cond (.tmp 27) (.seq (.ops false zhk) .ret) .skip)) (.seq (.seq (.ops false zhj) (.block 0 (.loop qsb))) (.seq (.ops false qu2) .ret)))))
theorem it_k26 : FnIs Tryz.prog 26 62 [.tmp 2] t_k26 := ⟨Tryz.f26, _, Tryz.func26, rfl, rfl, rfl, rfl, by kernel_rfl⟩

theorem ev_k18 (s : Swt) (hw : wtS s ≤ 3000000) : Ev (En Tryz.prog rfl).P 18 [q34 s] (.ret (.int .i64 (if formS s = true then 0 else 1))) := by
 refine Ev.of_body it_k18 (by simp) (Run.start ?_)
 unfold t_k18 q34
 obtain ⟨w1, w2, w3, w4, w5⟩ := q37 hw
 have hS := qjl
 have hcs := qb6 s.live s.past.vec s.past.cloud s.defer
 have e1 := q0q s.live
 have e2 := q0m s.defer
 have c1 := qox s.live (by omega)
 have c2 := qow s.past (by omega)
 have c3 := q33 s.defer (by omega) (fun r hr => by have := w5 r hr; omega)
 have hch := qb0 (s := s)
 by_cases h1 : q7d s.live = true
 case' neg =>
  rw [if_neg h1] at c1
  rw [if_neg (fun h => h1 (hch.1 (q3y.1 h)).1)]
  (have hF := @hcs; refine q01 (k:=?_); clear hF)
  refine q00 [.sl 4 (q0e s.live)] (he := c1) (k:=?_)
  (have hF := @hcs; refine q01 (k:=?_); clear hF)
  exact Fin.tmp' rfl rfl
 rw [if_pos h1] at c1
 by_cases h2 : q1e s.past = true
 case' neg =>
  rw [show q1e s.past = false by simpa using h2] at c2
  rw [if_neg (fun h => h2 (hch.1 (q3y.1 h)).2.1)]
  (have hF := @hcs; refine q01 (k:=?_); clear hF)
  refine q00 [.sl 4 (q0e s.live)] (he := c1) (k:=?_)
  (have hF := @hcs; refine q01 (k:=?_); clear hF)
  refine q00 [q0g s.past] (he := c2) (k:=?_)
  (have hF := @hcs; refine q01 (k:=?_); clear hF)
  exact Fin.tmp' rfl rfl
 rw [h2] at c2
 by_cases h3 : q3h s.defer = true
 case' neg =>
  rw [if_neg h3] at c3
  rw [if_neg (fun h => h3 (hch.1 (q3y.1 h)).2.2.1)]
  (have hF := @hcs; refine q01 (k:=?_); clear hF)
  refine q00 [.sl 4 (q0e s.live)] (he := c1) (k:=?_)
  (have hF := @hcs; refine q01 (k:=?_); clear hF)
  refine q00 [q0g s.past] (he := c2) (k:=?_)
  (have hF := @hcs; refine q01 (k:=?_); clear hF)
  refine q00 [.sl 3 (q08 s.defer)] (he := c3) (k:=?_)
  (have hF := @hcs; refine q01 (k:=?_); clear hF)
  exact Fin.tmp' rfl rfl
 rw [if_pos h3] at c3
 have c4 := ev_k47 s.live (by omega)
 rw [if_pos h1, if_pos h1] at c4
 have hdw := z7p s.live
 have c5 := ev_k56 (q5g s.live) s.past (by omega) (by omega)
 have c6 := ev_k57 s.defer s.past (by omega) (fun r hr => by have := w5 r hr; omega) (by omega)
 have c7 := ev_k58 s.live s.defer (by omega) (by omega)
 rw [if_pos ⟨h3, h2⟩, show qrm s.defer s.past = q16 s.defer s.past from if_pos ⟨h3, h2⟩] at c6
 rw [if_pos ⟨h1, h3⟩, if_pos ⟨h1, h3⟩] at c7
 have e3 := q0m (q16 s.defer s.past)
 have e4 := q0q (q3r s.defer s.live)
 have b3 : (q16 s.defer s.past).length ≤ s.defer.length := List.length_filter_le _ _
 have b4 : (q3r s.defer s.live).length ≤ s.live.length := List.length_filter_le _ _
 generalize q5g s.live = d at *
 generalize q16 s.defer s.past = W at *
 generalize q3r s.defer s.live = L at *
 (have hF := @hcs; refine q01 (k:=?_); clear hF)
 refine q00 [.sl 4 (q0e s.live)] (he := c1) (k:=?_)
 (have hF := @hcs; refine q01 (k:=?_); clear hF)
 refine q00 [q0g s.past] (he := c2) (k:=?_)
 (have hF := @hcs; refine q01 (k:=?_); clear hF)
 refine q00 [.sl 3 (q08 s.defer)] (he := c3) (k:=?_)
 (have hF := @hcs; refine q01 (k:=?_); clear hF)
 refine q00 [.sl 4 (q0e s.live)] (he := c4) (k:=?_)
 unfold q0g
 (have hF := @hcs; refine q01 (k:=?_); clear hF)
 refine q00 [q0g d, q0g s.past] (he := c5) (k:=?_)
 by_cases h4 : q0n d s.past = true
 case' neg =>
  rw [if_neg (fun h => h4 (hch.1 (q3y.1 h)).2.2.2.1), show q0n d s.past = false by simpa using h4]
  (have hF := @hcs; refine q01 (k:=?_); clear hF)
  exact Fin.tmp' rfl rfl
 rw [h4]
 (have hF := @hcs; refine q01 (k:=?_); clear hF)
 refine q00 [.sl 3 (q08 s.defer), q0g s.past] (he := c6) (k:=?_)
 by_cases h5 : W.length = s.defer.length
 case' neg =>
  rw [if_neg (fun h => h5 (hch.1 (q3y.1 h)).2.2.2.2.1)]
  (have hF := (aI @hcs (aI @e2 @e3)); refine q01 (k:=?_); clear hF)
  all_goals first | (exfalso; omega) | exact Fin.tmp' rfl rfl
 (have hF := (aI (aI @hcs @e2) (aI @e3 @h5)); refine q01 (k:=?_); clear hF)
 refine q00 [.sl 4 (q0e s.live), .sl 3 (q08 s.defer)] (he := c7) (k:=?_)
 by_cases h6 : L.length = s.live.length
 ·rw [if_pos (q3y.2 (hch.2 ⟨h1, h2, h3, h4, h5, h6⟩))]
  (have hF := (aI (aI @hcs @e1) (aI @e4 @h6)); refine q01 (k:=?_); clear hF)
  all_goals first | (exfalso; omega) | exact Fin.tmp' rfl rfl
 ·rw [if_neg (fun h => h6 (hch.1 (q3y.1 h)).2.2.2.2.2)]
  (have hF := (aI @hcs (aI @e1 @e4)); refine q01 (k:=?_); clear hF)
  all_goals first | (exfalso; omega) | exact Fin.tmp' rfl rfl
theorem zka (s : Swt) (hw : wtS s ≤ 3000000) : Ev (En Tryz.prog rfl).P 26 [q34 s] (.ret (.bool (formS s))) := by
 refine Ev.of_body it_k26 (by simp) (Run.start ?_)
 unfold t_k26 q34
 obtain ⟨w1, w2, w3, w4, w5⟩ := q37 hw
 have hS := qjl
 have hcs := qb6 s.live s.past.vec s.past.cloud s.defer
 have e1 := q0q s.live
 have e2 := q0m s.defer
 have c1 := ev_k67 s.live (by omega)
 have c2 := ev_k68 s.past (by omega)
 have c3 := ev_k69 s.defer (by omega) (fun r hr => by have := w5 r hr; omega)
 have hch : formS s = true ↔ _ := q3y.trans (qb0 (s := s))
 have hno : ∀ {p : Prop}, (formS s = true → p) → ¬ p → formS s = false := fun h hp => by
  cases hh : formS s
  ·rfl
  ·exact absurd (h hh) hp
 cases h1 : q7d s.live
 case' false =>
  rw [h1] at c1
  rw [hno (fun h => (hch.1 h).1) (by rw [h1]; decide)]
  (have hF := @hcs; refine q01 (k:=?_); clear hF)
  refine q00 [.sl 4 (q0e s.live)] (he := c1) (k:=?_)
  (have hF := @hcs; refine q01 (k:=?_); clear hF)
  exact Fin.tmp' rfl rfl
 rw [h1] at c1
 cases h2 : q1e s.past
 case' false =>
  rw [h2] at c2
  rw [hno (fun h => (hch.1 h).2.1) (by rw [h2]; decide)]
  (have hF := @hcs; refine q01 (k:=?_); clear hF)
  refine q00 [.sl 4 (q0e s.live)] (he := c1) (k:=?_)
  (have hF := @hcs; refine q01 (k:=?_); clear hF)
  refine q00 [q0g s.past] (he := c2) (k:=?_)
  (have hF := @hcs; refine q01 (k:=?_); clear hF)
  exact Fin.tmp' rfl rfl
 rw [h2] at c2
 cases h3 : q3h s.defer
 case' false =>
  rw [h3] at c3
  rw [hno (fun h => (hch.1 h).2.2.1) (by rw [h3]; decide)]
  (have hF := @hcs; refine q01 (k:=?_); clear hF)
  refine q00 [.sl 4 (q0e s.live)] (he := c1) (k:=?_)
  (have hF := @hcs; refine q01 (k:=?_); clear hF)
  refine q00 [q0g s.past] (he := c2) (k:=?_)
  (have hF := @hcs; refine q01 (k:=?_); clear hF)
  refine q00 [.sl 3 (q08 s.defer)] (he := c3) (k:=?_)
  (have hF := @hcs; refine q01 (k:=?_); clear hF)
  exact Fin.tmp' rfl rfl
 rw [h3] at c3
 have c4 := ev_k71 s.live (by omega)
 have hdw := z7p s.live
 have c5 := ev_k70 (q5g s.live) s.past (by omega) (by omega)
 rw [qi9, z78] at hch
 generalize q5g s.live = d at *
 (have hF := @hcs; refine q01 (k:=?_); clear hF)
 refine q00 [.sl 4 (q0e s.live)] (he := c1) (k:=?_)
 (have hF := @hcs; refine q01 (k:=?_); clear hF)
 refine q00 [q0g s.past] (he := c2) (k:=?_)
 (have hF := @hcs; refine q01 (k:=?_); clear hF)
 refine q00 [.sl 3 (q08 s.defer)] (he := c3) (k:=?_)
 (have hF := @hcs; refine q01 (k:=?_); clear hF)
 refine q00 [.sl 4 (q0e s.live), .str ⟨#[]⟩, .int .i64 (-1)] (he := c4) (k:=?_)
 (have hF := @hcs; refine q01 (k:=?_); clear hF)
 refine q00 [q0g d, q0g s.past] (he := c5) (k:=?_)
 by_cases h4 : q0n d s.past = true
 case' neg =>
  rw [hno (fun h => (hch.1 h).2.2.2.1) h4, show q0n d s.past = false by simpa using h4]
  (have hF := @hcs; refine q01 (k:=?_); clear hF)
  exact Fin.tmp' rfl rfl
 rw [h4]
 (have hF := @hcs; refine q01 (k:=?_); clear hF)
 refine Run.while (σ := Nat) (fun i => ⟨tms [(1, .ptr 1 0), (3, .int .i64 (i : Int))], mms [(1, .cells [.sl 4 (q0e s.live), .sl 1 (q05 s.past.vec), .sl 3 (q0d s.past.cloud), .sl 3 (q08 s.defer)])]⟩)
  (fun i => i ≤ s.defer.length ∧ ∀ (j : Nat) r, j < i → s.defer[j]? = some r → q0n r.past s.past = false ∧ ∀ e ∈ s.live, qeg r e = false) (fun i => s.defer.length - i) 0 (have hW := (aI @q04 @q09); q0h) ⟨Nat.zero_le _, fun j r hj => absurd hj (Nat.not_lt_zero _)⟩ ?_
 rintro i ⟨hi, hI⟩
 unfold qsb
 by_cases hlt : i < s.defer.length
 ·obtain ⟨r, hr⟩ : ∃ r, s.defer[i]? = some r := ⟨s.defer[i], by simp [hlt]⟩
  have g1 := q0x hr
  have hrm := List.mem_of_getElem? hr
  have hwr := w5 r hrm
  have c6 := ev_k70 r.past s.past (by omega) (by omega)
  (have hF := (aI (aI @hcs @e1) (aI @e2 @g1)); refine q01 (k:=?_); clear hF)
  refine q00 [q0g r.past, q0g s.past] (he := c6) (k:=?_)
  cases h5 : q0n r.past s.past
  case' true =>
   rw [hno (fun h => (hch.1 h).2.2.2.2.1 r hrm) (by rw [h5]; decide)]
   (have hF := (aI (aI @hcs @e1) (aI @e2 @g1)); refine q01 (k:=?_); clear hF)
   exact Fin.tmp' rfl rfl
  (have hF := (aI (aI @hcs @e1) (aI @e2 @g1)); refine q01 (k:=?_); clear hF)
  refine Run.while (σ := Nat) (fun j => ⟨tms [(1, .ptr 1 0), (3, .int .i64 (i : Int)), (4, .int .i64 (j : Int))], mms [(1, .cells [.sl 4 (q0e s.live), .sl 1 (q05 s.past.vec), .sl 3 (q0d s.past.cloud), .sl 3 (q08 s.defer)])]⟩)
   (fun j => j ≤ s.live.length ∧ ∀ (m : Nat) e, m < j → s.live[m]? = some e → qeg r e = false) (fun j => s.live.length - j) 0 (have hW := (aI @q04 @q09); q0h) ⟨Nat.zero_le _, fun m e hm => absurd hm (Nat.not_lt_zero _)⟩ ?_
  rintro j ⟨hj, hJ⟩
  unfold qsa
  by_cases hjl : j < s.live.length
  ·obtain ⟨e, he⟩ : ∃ e, s.live[j]? = some e := ⟨s.live[j], by simp [hjl]⟩
   have g2 := q1a he
   have c7 := ev_k72 r e (by omega)
   (have hF := (aI (aI @hcs @e1) (aI @e2 (aI @g1 @g2))); refine q01 (k:=?_); clear hF)
   refine q00 [q4i r, qam e] (he := c7) (k:=?_)
   cases h6 : qeg r e
   ·(have hF := (aI (aI @hcs @e1) (aI @e2 (aI @g1 @g2))); refine q01 (k:=?_); clear hF)
    (refine Fin.nextW (j + 1) ?_ (have hW := (aI @q04 @q09); q0h); (try dsimp only))
    refine ⟨⟨hjl, fun m x hm hx => ?_⟩, by omega⟩
    by_cases hmj : m = j
    ·subst hmj; rw [he] at hx; cases hx; exact h6
    ·exact hJ m x (by omega) hx
   ·rw [hno (fun h => (hch.1 h).2.2.2.2.2 e (List.mem_of_getElem? he)) (fun h => h ⟨r, hrm, h6⟩)]
    (have hF := (aI (aI @hcs @e1) (aI @e2 (aI @g1 @g2))); refine q01 (k:=?_); clear hF)
    exact Fin.tmp' rfl rfl
  ·(have hF := (aI (aI @hcs @e1) (aI @e2 @g1)); refine q01 (k:=?_); clear hF)
   (refine Fin.nextW (i + 1) ?_ (have hW := (aI @q04 @q09); q0h); (try dsimp only))
   refine ⟨⟨hlt, fun m x hm hx => ?_⟩, by omega⟩
   by_cases hmj : m = i
   ·subst hmj
    rw [hr] at hx
    cases hx
    exact ⟨h5, fun e hem => by
     obtain ⟨m, hm⟩ := List.mem_iff_getElem?.1 hem
     have : m < s.live.length := (List.getElem?_eq_some_iff.1 hm).1
     exact hJ m e (by omega) hm⟩
   ·exact hI m x (by omega) hx
 ·have hall : ∀ r ∈ s.defer, q0n r.past s.past = false ∧ ∀ e ∈ s.live, qeg r e = false := fun r hr => by
   obtain ⟨m, hm⟩ := List.mem_iff_getElem?.1 hr
   have : m < s.defer.length := (List.getElem?_eq_some_iff.1 hm).1
   exact hI m r (by omega) hm
  rw [hch.2 ⟨h1, h2, h3, h4, fun r hr => (hall r hr).1, fun e he hc => by
   obtain ⟨r, hr, hcv⟩ := hc
   have := (hall r hr).2 e he
   rw [this] at hcv
   cases hcv⟩]
  (have hF := (aI @hcs (aI @e1 @e2)); refine q01 (k:=?_); clear hF)
  exact Fin.tmp' rfl rfl

def zhx : List SOp := [zO 2 (.box 31 (.tmp 0)),zO 3 (.box 31 (.tmp 1)),zO 4 (.alloc 31),zO 5 (.assign (.const (.int .i64 0)))]
instance : Live zhx := ⟨[0,1]⟩
def zhw : List SOp := [zL 11 31 2,zO 12 (.call ⟨.value (.func 18),#[.tmp 11],#[31]⟩),zO 13 (.binOp .neq 32 (.tmp 12) (.const (.int .i64 0)) 32),zM 14 13,⟨some 15,.load 31 (.tmp 3),some ((some 14),false)⟩,⟨some 16,.call ⟨.value (.func 18),#[.tmp 15],#[31]⟩,some ((some 14),false)⟩,⟨some 17,.binOp .neq 32 (.tmp 16) (.const (.int .i64 0)) 32,some ((some 14),false)⟩,zO 18 (.pick (.tmp 14) (.const (.bool true)) (.tmp 17))]
instance : Live zhw := ⟨[2,3,4]⟩
def zhv : List SOp := [zO 19 (.build 31 #[]),⟨none,.store 31 (.tmp 4) (.tmp 19),none⟩,zO 5 (.assign (.const (.int .i64 1)))]
instance : Live zhv := ⟨[4]⟩
def zhu : List SOp := [zF 21 31 2 0,zL 22 22 21,zF 23 31 2 1,zL 24 26 23,zF 25 31 3 0,zL 26 22 25,zF 27 31 3 1,zL 28 26 27,zO 29 (.call ⟨.value (.func 65),#[.tmp 22,.tmp 24,.tmp 26,.tmp 28],#[22,26,22,26]⟩),zM 20 29,zX 30 20 0,zX 31 20 1,zG 6 30,zG 7 31]
instance : Live zhu := ⟨[2,3,4]⟩
def zht : List SOp := [zM 32 7,zO 33 (.binOp .neq 32 (.tmp 32) (.const (.int .i64 0)) 32)]
instance : Live zht := ⟨[2,3,4,6,7]⟩
def zhs : List SOp := [zO 34 (.build 31 #[]),zM 35 7,⟨none,.store 31 (.tmp 4) (.tmp 34),none⟩,zG 5 35]
instance : Live zhs := ⟨[4,7]⟩
def zhr : List SOp := [zF 37 31 2 2,zL 38 27 37,zF 39 31 3 2,zL 40 27 39,zO 41 (.call ⟨.value (.func 66),#[.tmp 38,.tmp 40],#[27,27]⟩),zM 36 41,zX 42 36 0,zX 43 36 1,zG 8 42,zG 9 43]
instance : Live zhr := ⟨[2,3,4,6]⟩
def zhq : List SOp := [zM 45 6,zM 46 8,zO 47 (.call ⟨.value (.func 58),#[.tmp 45,.tmp 46],#[22,27]⟩),zM 44 47,zX 48 44 0,zX 49 44 1,zG 6 48]
instance : Live zhq := ⟨[2,3,4,6,8]⟩
def zhp : List SOp := [zF 50 31 2 1,zL 51 26 50,zF 52 31 3 1,zL 53 26 52,zO 54 (.buildSlice 116 2 #[(0,.tmp 51),(1,.tmp 53)]),zO 55 (.call ⟨.value (.func 49),#[.tmp 54],#[116]⟩),zO 10 (.alloc 26),⟨none,.store 26 (.tmp 10) (.tmp 55),none⟩]
instance : Live zhp := ⟨[2,3,4,6,8]⟩
def qua : List SOp := [zM 57 8,zL 58 26 10,zO 59 (.call ⟨.value (.func 57),#[.tmp 57,.tmp 58],#[27,26]⟩),zM 56 59,zX 60 56 0,zX 61 56 1,zG 8 60]
instance : Live qua := ⟨[4,6,8,10]⟩
def qu9 : List SOp := [zM 62 6,zL 63 26 10,zM 64 8,zO 65 (.build 31 #[(0,.tmp 62),(1,.tmp 63),(2,.tmp 64)]),zO 66 (.call ⟨.value (.func 48),#[.tmp 65],#[31]⟩),⟨none,.store 31 (.tmp 4) (.tmp 66),none⟩,zO 5 (.assign (.const (.int .i64 0)))]
instance : Live qu9 := ⟨[4,6,8,10]⟩
def t_k25 : SC :=
 (.seq (.ops false zhx) (.seq (.seq (.ops false zhw) (.cond (.tmp 18) (.seq (.ops false zhv) .ret) .skip)) (.seq (.ops false zhu) (.seq (.seq (.ops false zht) (.cond (.tmp 33) (.seq (.ops false zhs) .ret) .skip)) (.seq (.ops false zhr) (.seq (.ops false zhq) (.seq (.ops false zhp) (.seq (.ops false qua) (.seq (.ops false qu9) .ret)))))))))
theorem it_k25 : FnIs Tryz.prog 25 67 [.cell 4 31, .tmp 5] t_k25 := ⟨Tryz.f25, _, Tryz.func25, rfl, rfl, rfl, rfl, by kernel_rfl⟩

theorem qds {a b : Swt} (ha : FormS a) (hb : FormS b) : q83 a b = errO (q2q a b) := by
 unfold q83
 rw [if_pos ⟨ha, hb⟩]
 have := (q4w ha hb).1
 cases h : q2q a b with
 | none => rw [if_pos (this.1 h)]; rfl
 | some M => rw [if_neg (fun hc => by have := this.2 hc; rw [h] at this; cases this)]; rfl
theorem qfa {a b : Swt} (ha : FormS a) (hb : FormS b) {M : List Ent} (hM : q2q a b = some M) : q4r a b = ⟨q3r (q4p a b) M, q1v [a.past, b.past], q16 (q4p a b) (q1v [a.past, b.past])⟩ := by
 have h0 : q83 a b = 0 := by rw [qds ha hb, hM]; rfl
 rw [q3m h0]
 unfold q2w
 rw [hM]
 rfl
theorem z7f {s : Swt} (h : ¬ FormS s) : (if formS s = true then (0 : Int) else 1) = 1 := if_neg (fun h' => h (q3y.1 h'))
theorem qoo {s : Swt} (h : FormS s) : (if formS s = true then (0 : Int) else 1) = 0 := if_pos (q82 h)
theorem zkb (a b : Swt) (ha : wtS a ≤ 2000000) (hb : wtS b ≤ 2000000) : Ev (En Tryz.prog rfl).P 25 [q34 a, q34 b] (.ret (.tup [q34 (q4r a b), .int .i64 (q83 a b)])) := by
 refine Ev.of_body it_k25 (by simp) (AW.wkEnd (Run.start ?_))
 unfold t_k25
 obtain ⟨u1, u2, u3, u4, u5⟩ := q37 ha
 obtain ⟨w1, w2, w3, w4, w5⟩ := q37 hb
 have hS := qjl
 have hca := qb6 a.live a.past.vec a.past.cloud a.defer
 have hcb := qb6 b.live b.past.vec b.past.cloud b.defer
 have c1 := ev_k18 a (by omega)
 have c2 := ev_k18 b (by omega)
 unfold q34 at c1 c2 ⊢
 by_cases h1 : FormS a
 case' neg =>
  rw [z7f h1] at c1
  have he : q83 a b = 1 := if_neg (fun h => h1 h.1)
  rw [q7l (by rw [he]; decide), he]
  (have hF := (aI @hca @hcb); refine q01 (k:=?_); clear hF)
  refine q00 [_] (he := c1) (k:=?_)
  (have hF := (aI @hca @hcb); refine q01 (k:=?_); clear hF)
  exact Fin.done ⟨_, Wk.cells_nil (k := 4) rfl sub4, [q34 noS, .int .i64 1], by with_unfolding_all rfl, by simp [q0j, q60, AVal.stb], _, q38 _, rfl⟩
 rw [qoo h1] at c1
 by_cases h2 : FormS b
 case' neg =>
  rw [z7f h2] at c2
  have he : q83 a b = 1 := if_neg (fun h => h2 h.2)
  rw [q7l (by rw [he]; decide), he]
  (have hF := (aI @hca @hcb); refine q01 (k:=?_); clear hF)
  refine q00 [_] (he := c1) (k:=?_)
  (have hF := (aI @hca @hcb); refine q01 (k:=?_); clear hF)
  refine q00 [_] (he := c2) (k:=?_)
  (have hF := (aI @hca @hcb); refine q01 (k:=?_); clear hF)
  exact Fin.done ⟨_, Wk.cells_nil (k := 4) rfl sub4, [q34 noS, .int .i64 1], by with_unfolding_all rfl, by simp [q0j, q60, AVal.stb], _, q38 _, rfl⟩
 rw [qoo h2] at c2
 have c3 := ev_k65 a.live b.live a.past b.past (by omega) (by omega) (by omega) (by omega) ⟨q4u h1.live, q3g.2 h1.past, q4u h2.live, q3g.2 h2.past⟩
 change Ev _ _ _ (.ret (.tup [.sl 4 (q0e (qek (q2q a b))), .int .i64 (errO (q2q a b))])) at c3
 have hej := qds h1 h2
 cases hM : q2q a b with
 | none =>
  rw [hM] at c3 hej
  change Ev _ _ _ (.ret (.tup [.sl 4 (q0e []), .int .i64 10])) at c3
  change q83 a b = 10 at hej
  rw [q7l (by rw [hej]; decide), hej]
  (have hF := (aI @hca @hcb); refine q01 (k:=?_); clear hF)
  refine q00 [_] (he := c1) (k:=?_)
  (have hF := (aI @hca @hcb); refine q01 (k:=?_); clear hF)
  refine q00 [_] (he := c2) (k:=?_)
  (have hF := (aI @hca @hcb); refine q01 (k:=?_); clear hF)
  refine q00 [.sl 4 (q0e a.live), q0g a.past, .sl 4 (q0e b.live), q0g b.past] (he := c3) (k:=?_)
  (have hF := (aI @hca @hcb); refine q01 (k:=?_); clear hF)
  exact Fin.done ⟨_, Wk.cells_nil (k := 4) rfl sub4, [q34 noS, .int .i64 10], by with_unfolding_all rfl, by simp [q0j, q60, AVal.stb], _, q38 _, rfl⟩
 | some M =>
  rw [hM] at c3 hej
  change Ev _ _ _ (.ret (.tup [.sl 4 (q0e M), .int .i64 0])) at c3
  change q83 a b = 0 at hej
  have hMf := qf5 h1 h2 hM
  have hlM : M.length ≤ a.live.length + b.live.length := by
   have := z6y (q1m b.past) (q1m a.past) (A := a.live) (B := b.live) (a.live.length + b.live.length)
   change (qek (q2q a b)).length ≤ _ at this
   rw [hM] at this
   exact this
  have hRf := qf9 h1 h2
  have c4 := ev_k66 a.defer b.defer (by omega) (by omega) (fun r hr => by have := u5 r hr; omega) (fun r hr => by have := w5 r hr; omega)
  rw [if_pos ⟨q2j h1.defer, q2j h2.defer⟩, show zam a.defer b.defer = q4p a b from if_pos ⟨q2j h1.defer, q2j h2.defer⟩] at c4
  have hwR : q6e (q4p a b) ≤ q6e a.defer + q6e b.defer := by
   have := qfz (a.defer ++ b.defer)
   rw [qrl] at this
   exact this
  have hlR := q7w (q4p a b)
  have c5 := ev_k58 M (q4p a b) (by omega) (by omega)
  rw [if_pos ⟨q4u hMf, q2j hRf⟩, if_pos ⟨q4u hMf, q2j hRf⟩] at c5
  have c6 := ev_k49 [a.past, b.past] (show 2 ≤ 1000000000 by omega) (by simp only [List.map_cons, List.map_nil, List.sum_cons, List.sum_nil]; omega)
  have hjw := q9m [a.past, b.past]
  simp only [List.map_cons, List.map_nil, List.sum_cons, List.sum_nil] at hjw
  have hjc : q1e (q1v [a.past, b.past]) = true := q3g.2 (q2f _)
  have c7 := ev_k57 (q4p a b) (q1v [a.past, b.past]) (by omega) (fun r hr => by have := qi4 hr; unfold wtK at this; omega) (by omega)
  rw [if_pos ⟨q2j hRf, hjc⟩, show qrm (q4p a b) (q1v [a.past, b.past]) = q16 (q4p a b) (q1v [a.past, b.past]) from if_pos ⟨q2j hRf, hjc⟩] at c7
  have hje := qfa h1 h2 hM
  have hjf := qae h1 h2 hM
  rw [← q3m hej] at hjf
  have hwj := z79 a b
  rw [← q3m hej] at hwj
  have c8 := ev_k48 (q4r a b) (by omega) hjf.past (fun r hr => (q3z hjf.defer r hr).1)
  rw [hej]
  rw [hje] at c8 ⊢
  clear hje hjf hwj hjw
  generalize q1v [a.past, b.past] = q at *
  generalize q16 (q4p a b) q = W at *
  generalize q3r (q4p a b) M = L at *
  generalize q4p a b = R at *
  (have hF := (aI @hca @hcb); refine q01 (k:=?_); clear hF)
  refine q00 [_] (he := c1) (k:=?_)
  (have hF := (aI @hca @hcb); refine q01 (k:=?_); clear hF)
  refine q00 [_] (he := c2) (k:=?_)
  (have hF := (aI @hca @hcb); refine q01 (k:=?_); clear hF)
  refine q00 [.sl 4 (q0e a.live), q0g a.past, .sl 4 (q0e b.live), q0g b.past] (he := c3) (k:=?_)
  (have hF := (aI @hca @hcb); refine q01 (k:=?_); clear hF)
  refine q00 [.sl 3 (q08 a.defer), .sl 3 (q08 b.defer)] (he := c4) (k:=?_)
  (have hF := (aI @hca @hcb); refine q01 (k:=?_); clear hF)
  refine q00 [.sl 4 (q0e M), .sl 3 (q08 R)] (he := c5) (k:=?_)
  (have hF := (aI @hca @hcb); refine q01 (k:=?_); clear hF)
  refine q00 [.sl 2 (q1q [a.past, b.past])] (he := c6) (k:=?_)
  unfold q0g
  (have hF := (aI @hca @hcb); refine q01 (k:=?_); clear hF)
  refine q00 [.sl 3 (q08 R), q0g q] (he := c7) (k:=?_)
  (have hF := (aI @hca @hcb); refine q01 (k:=?_); clear hF)
  refine q00 [q34 ⟨L, q, W⟩] (he := c8) (k:=?_)
  unfold q34
  (have hF := (aI @hca @hcb); refine q01 (k:=?_); clear hF)
  exact Fin.done ⟨_, Wk.refl _ _, [q34 ⟨L, q, W⟩, .int .i64 0], by with_unfolding_all rfl, by simp [q0j, q60, AVal.stb], _, q38 _, rfl⟩

def z3a : List SOp := [zO 4 (.assign (.const (.bool false)))]
instance : Live z3a := ⟨[0,1]⟩
def z38 : List SOp := [zM 6 0,zO 7 (.call ⟨.builtin .len,#[.tmp 6],#[22]⟩),zM 8 1,zO 9 (.call ⟨.builtin .len,#[.tmp 8],#[22]⟩),zO 10 (.binOp .neq 3 (.tmp 7) (.tmp 9) 3)]
instance : Live z38 := ⟨[0,1]⟩
def z37 : List SOp := [zO 4 (.assign (.const (.bool false)))]
instance : Live z37 := ⟨[]⟩
def z36 : List SOp := [zM 11 0,zO 12 (.call ⟨.builtin .len,#[.tmp 11],#[22]⟩),zO 13 (.move (.const (.int .i64 0)))]
instance : Live z36 := ⟨[0,1]⟩
def z35 : List SOp := [zO 14 (.binOp .lss 3 (.tmp 13) (.tmp 12) 3)]
instance : Live z35 := ⟨[0,1,12,13]⟩
def z34 : List SOp := [zM 15 13,zG 5 15]
instance : Live z34 := ⟨[0,1,12,13]⟩
def z33 : List SOp := [zM 16 0,zM 17 5,zI 18 22 16 17,zL 19 62 18,zM 20 1,zM 21 5,zI 22 22 20 21,zL 23 62 22,zO 24 (.binOp .neq 62 (.tmp 19) (.tmp 23) 62)]
instance : Live z33 := ⟨[0,1,5,12,13]⟩
def z32 : List SOp := [zO 4 (.assign (.const (.bool false)))]
instance : Live z32 := ⟨[]⟩
def z31 : List SOp := [zO 25 (.binOp .add 3 (.tmp 13) (.const (.int .i64 1)) 3),zM 13 25]
instance : Live z31 := ⟨[0,1,12,13]⟩
def qn3 : List SOp := [zO 4 (.assign (.const (.bool true)))]
instance : Live qn3 := ⟨[]⟩
def qj9 : SC :=
 (.seq (.ops false z35) (.seq (.cond (.tmp 14) .skip (.exit 0)) (.seq (.block 1 (.seq (.ops false z34) (.seq (.ops true z33) (.cond (.tmp 24) (.seq (.ops false z32) .ret) .skip)))) (.ops false z31))))
def t_k122 : SC :=
 (.seq (.ops false z3a) (.seq (.seq (.ops false z38) (.cond (.tmp 10) (.seq (.ops false z37) .ret) .skip)) (.seq (.seq (.ops false z36) (.block 0 (.loop qj9))) (.seq (.ops false qn3) .ret))))
theorem it_k122 : FnIs Tryz.prog 122 26 [.tmp 4] t_k122 := ⟨Tryz.f122, _, Tryz.func122, rfl, rfl, rfl, rfl, by kernel_rfl⟩

def z2r : List SOp := [zO 6 (.assign (.const (.bool false)))]
instance : Live z2r := ⟨[0,1,2]⟩
def z2q : List SOp := [zM 10 0,zO 11 (.call ⟨.builtin .len,#[.tmp 10],#[27]⟩),zM 12 1,zO 13 (.call ⟨.builtin .len,#[.tmp 12],#[27]⟩),zO 14 (.binOp .neq 3 (.tmp 11) (.tmp 13) 3)]
instance : Live z2q := ⟨[0,1,2]⟩
def z2p : List SOp := [zO 6 (.assign (.const (.bool false)))]
instance : Live z2p := ⟨[]⟩
def z2o : List SOp := [zM 15 0,zO 16 (.call ⟨.builtin .len,#[.tmp 15],#[27]⟩),zO 17 (.move (.const (.int .i64 0)))]
instance : Live z2o := ⟨[0,1,2]⟩
def z2n : List SOp := [zO 18 (.binOp .lss 3 (.tmp 17) (.tmp 16) 3)]
instance : Live z2n := ⟨[1,2,15,16,17]⟩
def z2m : List SOp := [zM 19 17,zI 20 27 15 17,zL 21 91 20,zO 8 (.alloc 91),zG 7 19,⟨none,.store 91 (.tmp 8) (.tmp 21),none⟩]
instance : Live z2m := ⟨[1,2,15,16,17]⟩
def z2l : List SOp := [zM 22 1,zM 23 7,zI 24 27 22 23,zL 25 91 24,zO 9 (.alloc 91),⟨none,.store 91 (.tmp 9) (.tmp 25),none⟩]
instance : Live z2l := ⟨[1,2,7,8,15,16,17]⟩
def z2k : List SOp := [zM 26 2,zL 27 91 8,zL 28 91 9,zO 29 (.call ⟨.value (.tmp 26),#[.tmp 27,.tmp 28],#[91,91]⟩),zO 30 (.unOp .not 4 (.tmp 29))]
instance : Live z2k := ⟨[1,2,8,9,15,16,17]⟩
def z2j : List SOp := [zO 6 (.assign (.const (.bool false)))]
instance : Live z2j := ⟨[]⟩
def qmx : List SOp := [zO 31 (.binOp .add 3 (.tmp 17) (.const (.int .i64 1)) 3),zM 17 31]
instance : Live qmx := ⟨[1,2,15,16,17]⟩
def qmw : List SOp := [zO 6 (.assign (.const (.bool true)))]
instance : Live qmw := ⟨[]⟩
def qj7 : SC :=
 (.seq (.ops false z2n) (.seq (.cond (.tmp 18) .skip (.exit 0)) (.seq (.block 1 (.seq (.ops false z2m) (.seq (.ops false z2l) (.seq (.ops false z2k) (.cond (.tmp 30) (.seq (.ops false z2j) .ret) .skip))))) (.ops false qmx))))
def t_k124 : SC :=
 (.seq (.ops false z2r) (.seq (.seq (.ops false z2q) (.cond (.tmp 14) (.seq (.ops false z2p) .ret) .skip)) (.seq (.seq (.ops false z2o) (.block 0 (.loop qj7))) (.seq (.ops false qmw) .ret))))
theorem it_k124 : FnIs Tryz.prog 124 32 [.tmp 6] t_k124 := ⟨Tryz.f124, _, Tryz.func124, rfl, rfl, rfl, rfl, by kernel_rfl⟩

def zcz : List SOp := [zO 2 (.box 31 (.tmp 0)),zO 3 (.box 31 (.tmp 1)),zO 4 (.assign (.const (.bool false)))]
instance : Live zcz := ⟨[0,1]⟩
def zcy : List SOp := [zF 5 31 2 0,zL 6 22 5,zF 7 31 3 0,zL 8 22 7,zO 9 (.call ⟨.value (.func 122),#[.tmp 6,.tmp 8],#[22,22]⟩),zM 10 9,⟨some 11,.fieldAddr 31 (.tmp 2) 1,some ((some 10),true)⟩,⟨some 12,.load 26 (.tmp 11),some ((some 10),true)⟩,⟨some 13,.fieldAddr 31 (.tmp 3) 1,some ((some 10),true)⟩,⟨some 14,.load 26 (.tmp 13),some ((some 10),true)⟩,⟨some 15,.call ⟨.value (.func 123),#[.tmp 12,.tmp 14],#[26,26]⟩,some ((some 10),true)⟩,⟨some 16,.binOp .eql 3 (.tmp 15) (.const (.int .i64 0)) 3,some ((some 10),true)⟩,zO 17 (.pick (.tmp 10) (.tmp 16) (.const (.bool false))),zM 18 17,⟨some 19,.fieldAddr 31 (.tmp 2) 2,some ((some 18),true)⟩,⟨some 20,.load 27 (.tmp 19),some ((some 18),true)⟩,⟨some 21,.fieldAddr 31 (.tmp 3) 2,some ((some 18),true)⟩,⟨some 22,.load 27 (.tmp 21),some ((some 18),true)⟩,⟨some 23,.call ⟨.value (.func 124),#[.tmp 20,.tmp 22,.func 125],#[27,27,164]⟩,some ((some 18),true)⟩,zO 24 (.pick (.tmp 18) (.tmp 23) (.const (.bool false))),zG 4 24]
instance : Live zcy := ⟨[2,3]⟩
def t_k74 : SC :=
 (.seq (.ops false zcz) (.seq (.ops false zcy) .ret))
theorem it_k74 : FnIs Tryz.prog 74 25 [.tmp 4] t_k74 := ⟨Tryz.f74, _, Tryz.func74, rfl, rfl, rfl, rfl, by kernel_rfl⟩

def z2i : List SOp := [zO 2 (.box 91 (.tmp 0)),zO 3 (.box 91 (.tmp 1)),zO 4 (.assign (.const (.bool false)))]
instance : Live z2i := ⟨[0,1]⟩
def z2h : List SOp := [zL 5 91 2,zL 6 91 3,zO 7 (.call ⟨.value (.func 106),#[.tmp 5,.tmp 6],#[91,91]⟩),zO 8 (.binOp .eql 3 (.tmp 7) (.const (.int .i64 0)) 3),zG 4 8]
instance : Live z2h := ⟨[2,3]⟩
def t_k125 : SC :=
 (.seq (.ops false z2i) (.seq (.ops false z2h) .ret))
theorem it_k125 : FnIs Tryz.prog 125 9 [.tmp 4] t_k125 := ⟨Tryz.f125, _, Tryz.func125, rfl, rfl, rfl, rfl, by kernel_rfl⟩

noncomputable def eqC {α : Type} (a b : α) : Bool := @decide (a = b) (Classical.propDecidable _)
theorem q3d {α : Type} {a b : α} (h : a = b) : eqC a b = true := by classical exact decide_eq_true h
theorem q19 {α : Type} {a b : α} (h : ¬ a = b) : eqC a b = false := by classical exact decide_eq_false h
theorem q72 {α : Type} {a b : α} : eqC a b = true ↔ a = b := by classical exact decide_eq_true_iff
theorem qr2 {x y : Ent} (h1 : x.rep = y.rep) (h2 : x.num = y.num) (h3 : x.sku = y.sku) (h4 : x.qty = y.qty) : x = y := by
 cases x; cases y
 simp only at h1 h2 h3 h4
 rw [h1, h2, h3, h4]
theorem rec_ext {x y : Rec} (h1 : x.sku = y.sku) (h2 : x.past = y.past) : x = y := by
 cases x; cases y
 simp only at h1 h2
 rw [h1, h2]
theorem qon {α : Type} {a b : List α} {i : Nat} {x y : α} (hx : a[i]? = some x) (hy : b[i]? = some y) (h : ¬ x = y) : ¬ a = b := fun e => by
 rw [e, hy] at hx
 exact h (Option.some.inj hx).symm
theorem qak (a b : List Ent) (ha : a.length ≤ 1000000000) (hb : b.length ≤ 1000000000) : Ev (En Tryz.prog rfl).P 122 [.sl 4 (q0e a), .sl 4 (q0e b)] (.ret (.bool (eqC a b))) := by
 refine Ev.of_body it_k122 (by simp) (Run.start ?_)
 unfold t_k122
 have e1 := q0q a
 have e2 := q0q b
 have hS := qjl
 by_cases hab : a.length = b.length
 case' neg =>
  rw [q19 fun h => hab (by rw [h])]
  (have hF := (aI @e1 @e2); refine q01 (k:=?_); clear hF)
  all_goals first | (exfalso; omega) | exact Fin.tmp' rfl rfl
 (have hF := (aI @e1 (aI @e2 @hab)); refine q01 (k:=?_); clear hF)
 refine Run.while (σ := Nat) (fun i => ⟨tms [(0, .sl 4 (q0e a)), (1, .sl 4 (q0e b)), (12, .int .i64 (b.length : Int)), (13, .int .i64 (i : Int))], mms []⟩) (fun i => i ≤ b.length ∧ ∀ j, j < i → a[j]? = b[j]?) (fun i => b.length - i) 0 (have hW := @q09; q0h) ⟨Nat.zero_le _, fun j hj => absurd hj (Nat.not_lt_zero _)⟩ ?_
 rintro i ⟨hi, hp⟩
 unfold qj9
 by_cases hlt : i < b.length
 ·obtain ⟨x, hx⟩ : ∃ x, a[i]? = some x := ⟨a[i]'(by omega), by simp [show i < a.length by omega]⟩
  obtain ⟨y, hy⟩ : ∃ y, b[i]? = some y := ⟨b[i], by simp [hlt]⟩
  have g1 := q1a hx
  have g2 := q1a hy
  by_cases he : x = y
  ·have hs := q6f hp (hx.trans ((congrArg some he).trans hy.symm))
   subst he
   (have hF := (aI (aI @e1 @e2) (aI @hab (aI @g1 @g2))); refine q01 (k:=?_); clear hF)
   (refine Fin.nextW (i + 1) ?_ (have hW := @q09; q0h); (try dsimp only))
   exact ⟨⟨hlt, hs⟩, by omega⟩
  ·rw [q19 (qon hx hy he)]
   by_cases r1 : x.rep = y.rep
   ·by_cases r2 : x.num = y.num
    ·by_cases r3 : x.sku = y.sku
     ·have r4 : ¬ x.qty = y.qty := fun h => he (qr2 r1 r2 r3 h)
      (have hF := (aI (aI (aI @e1 @e2) (aI @hab @g1)) (aI (aI @g2 @r1) (aI @r2 (aI @r3 @r4)))); refine q01 (k:=?_); clear hF)
      exact Fin.tmp' rfl rfl
     ·(have hF := (aI (aI (aI @e1 @e2) (aI @hab @g1)) (aI (aI @g2 @r1) (aI @r2 @r3))); refine q01 (k:=?_); clear hF)
      exact Fin.tmp' rfl rfl
    ·(have hF := (aI (aI @e1 (aI @e2 @hab)) (aI (aI @g1 @g2) (aI @r1 @r2))); refine q01 (k:=?_); clear hF)
     exact Fin.tmp' rfl rfl
   ·(have hF := (aI (aI @e1 (aI @e2 @hab)) (aI @g1 (aI @g2 @r1))); refine q01 (k:=?_); clear hF)
    exact Fin.tmp' rfl rfl
 ·rw [q3d (q30 (by omega) fun j hj => hp j (by omega))]
  (have hF := (aI @e1 (aI @e2 @hab)); refine q01 (k:=?_); clear hF)
  exact Fin.tmp' rfl rfl
theorem ev_k125 (a b : Rec) (ha : wt a.past ≤ 50000000) (hb : wt b.past ≤ 50000000) : Ev (En Tryz.prog rfl).P 125 [q4i a, q4i b] (.ret (.bool (decide (q3s a b = 0)))) := by
 refine Ev.of_body it_k125 (by simp) (Run.start ?_)
 unfold t_k125 q4i
 have hS := qjl
 have c1 := qhg a b ha hb
 generalize q3s a b = v at *
 (have hF := True.intro; refine q01 (k:=?_); clear hF)
 refine q00 [q4i a, q4i b] (he := c1) (k:=?_)
 (have hF := True.intro; refine q01 (k:=?_); clear hF)
 exact Fin.tmp' rfl rfl
theorem qaj (a b : List Rec) (ha : a.length ≤ 1000000000) (hb : b.length ≤ 1000000000) (hwa : ∀ r ∈ a, wt r.past ≤ 50000000) (hwb : ∀ r ∈ b, wt r.past ≤ 50000000) (hca : ∀ r ∈ a, qbb r) (hcb : ∀ r ∈ b, qbb r) :
 Ev (En Tryz.prog rfl).P 124 [.sl 3 (q08 a), .sl 3 (q08 b), .fn 125 []] (.ret (.bool (eqC a b))) := by
 refine Ev.of_body it_k124 (by simp) (Run.start ?_)
 unfold t_k124
 have e1 := q0m a
 have e2 := q0m b
 have hS := qjl
 by_cases hab : a.length = b.length
 case' neg =>
  rw [q19 fun h => hab (by rw [h])]
  (have hF := (aI @e1 @e2); refine q01 (k:=?_); clear hF)
  all_goals first | (exfalso; omega) | exact Fin.tmp' rfl rfl
 (have hF := (aI @e1 (aI @e2 @hab)); refine q01 (k:=?_); clear hF)
 refine Run.while (σ := Nat) (fun i => ⟨tms [(1, .sl 3 (q08 b)), (2, .fn 125 []), (15, .sl 3 (q08 a)), (16, .int .i64 (b.length : Int)), (17, .int .i64 (i : Int))], mms []⟩) (fun i => i ≤ b.length ∧ ∀ j, j < i → a[j]? = b[j]?) (fun i => b.length - i) 0 (have hW := @q04; q0h) ⟨Nat.zero_le _, fun j hj => absurd hj (Nat.not_lt_zero _)⟩ ?_
 rintro i ⟨hi, hp⟩
 unfold qj7
 by_cases hlt : i < b.length
 ·obtain ⟨x, hx⟩ : ∃ x, a[i]? = some x := ⟨a[i]'(by omega), by simp [show i < a.length by omega]⟩
  obtain ⟨y, hy⟩ : ∃ y, b[i]? = some y := ⟨b[i], by simp [hlt]⟩
  have g1 := q0x hx
  have g2 := q0x hy
  have hxm := List.mem_of_getElem? hx
  have hym := List.mem_of_getElem? hy
  have c1 := ev_k125 x y (hwa x hxm) (hwb y hym)
  have hs : q3s x y = 0 → _ := fun h => q6f hp (hx.trans ((congrArg some (qr8 (hca x hxm) (hcb y hym) h)).trans hy.symm))
  have hn : ¬ q3s x y = 0 → ¬ a = b := fun h => qon hx hy (fun e => h (by rw [e]; exact qe0 y))
  generalize q3s x y = v at *
  (have hF := (aI (aI @e1 @e2) (aI @hab (aI @g1 @g2))); refine q01 (k:=?_); clear hF)
  refine q00 [q4i x, q4i y] (he := c1) (k:=?_)
  by_cases hv : v = 0
  ·have hs := hs hv
   rw [decide_eq_true hv]
   (have hF := (aI (aI @e1 @e2) (aI @hab (aI @g1 @g2))); refine q01 (k:=?_); clear hF)
   (refine Fin.nextW (i + 1) ?_ (have hW := @q04; q0h); (try dsimp only))
   exact ⟨⟨hlt, hs⟩, by omega⟩
  ·rw [decide_eq_false hv, q19 (hn hv)]
   (have hF := (aI (aI @e1 @e2) (aI @hab (aI @g1 @g2))); refine q01 (k:=?_); clear hF)
   exact Fin.tmp' rfl rfl
 ·rw [q3d (q30 (by omega) fun j hj => hp j (by omega))]
  (have hF := (aI @e1 (aI @e2 @hab)); refine q01 (k:=?_); clear hF)
  exact Fin.tmp' rfl rfl
theorem zk4 (a b : Swt) (ha : wtS a ≤ 30000000) (hb : wtS b ≤ 30000000) (pa : CanP a.past) (pb : CanP b.past) (ra : ∀ r ∈ a.defer, qbb r) (rb : ∀ r ∈ b.defer, qbb r) : Ev (En Tryz.prog rfl).P 74 [q34 a, q34 b] (.ret (.bool (eqC a b))) := by
 refine Ev.of_body it_k74 (by simp) (Run.start ?_)
 unfold t_k74 q34
 obtain ⟨u1, u2, u3, u4, u5⟩ := q37 ha
 obtain ⟨w1, w2, w3, w4, w5⟩ := q37 hb
 have hS := qjl
 have hca := qb6 a.live a.past.vec a.past.cloud a.defer
 have hcb := qb6 b.live b.past.vec b.past.cloud b.defer
 have c1 := qak a.live b.live (by omega) (by omega)
 have c2 := zkj a.past b.past (by omega) (by omega)
 have c3 := qaj a.defer b.defer (by omega) (by omega) (fun r hr => by have := u5 r hr; omega) (fun r hr => by have := w5 r hr; omega) ra rb
 by_cases h1 : a.live = b.live
 case' neg =>
  rw [q19 h1] at c1
  rw [q19 (fun h => h1 (by rw [h]))]
  (have hF := (aI @hca @hcb); refine q01 (k:=?_); clear hF)
  refine q00 [.sl 4 (q0e a.live), .sl 4 (q0e b.live)] (he := c1) (k:=?_)
  (have hF := (aI @hca @hcb); refine q01 (k:=?_); clear hF)
  exact Fin.tmp' rfl rfl
 rw [q3d h1] at c1
 by_cases h2 : zaf a.past b.past = 0
 case' neg =>
  rw [q19 (fun h => h2 (by rw [h]; exact q9t.2 rfl))]
  generalize zaf a.past b.past = v at *
  (have hF := (aI @hca @hcb); refine q01 (k:=?_); clear hF)
  refine q00 [.sl 4 (q0e a.live), .sl 4 (q0e b.live)] (he := c1) (k:=?_)
  (have hF := (aI @hca @hcb); refine q01 (k:=?_); clear hF)
  refine q00 [q0g a.past, q0g b.past] (he := c2) (k:=?_)
  (have hF := (aI @hca (aI @hcb @h2)); refine q01 (k:=?_); clear hF)
  exact Fin.tmp' rfl rfl
 rw [h2] at c2
 have hp : a.past = b.past := by
  have h := q9t.1 h2
  have e1 : q18 a.past = a.past := pa
  have e2 : q18 b.past = b.past := pb
  rw [e1, e2] at h
  exact h
 have hf : eqC a b = eqC a.defer b.defer := by
  by_cases h3 : a.defer = b.defer
  ·rw [q3d h3, q3d (qg3 h1 hp h3)]
  ·rw [q19 h3, q19 (fun h => h3 (by rw [h]))]
 rw [hf]
 generalize eqC a.defer b.defer = v at *
 (have hF := (aI @hca @hcb); refine q01 (k:=?_); clear hF)
 refine q00 [.sl 4 (q0e a.live), .sl 4 (q0e b.live)] (he := c1) (k:=?_)
 (have hF := (aI @hca @hcb); refine q01 (k:=?_); clear hF)
 refine q00 [q0g a.past, q0g b.past] (he := c2) (k:=?_)
 (have hF := (aI @hca @hcb); refine q01 (k:=?_); clear hF)
 refine q00 [.sl 3 (q08 a.defer), .sl 3 (q08 b.defer), .fn 125 []] (he := c3) (k:=?_)
 (have hF := (aI @hca @hcb); refine q01 (k:=?_); clear hF)
 exact Fin.tmp' rfl rfl
theorem qjn (p q : Pst) : qq8 p q = eqC p q := by
 by_cases h : p = q
 ·rw [q3d h, h]; exact qa7 ⟨rfl, rfl⟩
 ·rw [q19 h]
  refine q53 fun ⟨h1, h2⟩ => h ?_
  cases p; cases q
  simp only at h1 h2
  rw [h1, h2]
theorem qeo (a b : Swt) (ha : wtS a ≤ 100000000) (hb : wtS b ≤ 100000000) : Ev (En Tryz.prog rfl).P 15 [q34 a, q34 b] (.ret (.bool (eqC a b))) := by
 refine Ev.of_body it_k15 (by simp) (Run.start ?_)
 unfold t_k15 q34
 obtain ⟨u1, u2, u3, u4, u5⟩ := q37 ha
 obtain ⟨w1, w2, w3, w4, w5⟩ := q37 hb
 have u6 := u2
 unfold wt at u6
 have hS := qjl
 have hca := qb6 a.live a.past.vec a.past.cloud a.defer
 have hcb := qb6 b.live b.past.vec b.past.cloud b.defer
 have e1 := q0q a.live
 have e2 := q0m a.defer
 have e3 := q0q b.live
 have e4 := q0m b.defer
 have c1 := zk7 a.past b.past (by omega) (by omega)
 rw [qjn] at c1
 by_cases h1 : a.live.length = b.live.length
 case' neg =>
  rw [q19 fun h => h1 (by rw [h])]
  (have hF := (aI (aI @hca (aI @hcb @e1)) (aI @e2 (aI @e3 @e4))); refine q01 (k:=?_); clear hF)
  all_goals first | (exfalso; omega) | exact Fin.tmp' rfl rfl
 by_cases h2 : a.past = b.past
 case' neg =>
  rw [q19 h2] at c1
  rw [q19 fun h => h2 (by rw [h])]
  (have hF := (aI (aI @hca (aI @hcb @e1)) (aI (aI @e2 @e3) (aI @e4 @h1))); refine q01 (k:=?_); clear hF)
  refine q00 [q0g a.past, q0g b.past] (he := c1) (k:=?_)
  (have hF := (aI (aI @hca (aI @hcb @e1)) (aI (aI @e2 @e3) (aI @e4 @h1))); refine q01 (k:=?_); clear hF)
  exact Fin.tmp' rfl rfl
 rw [q3d h2] at c1
 by_cases h3 : a.defer.length = b.defer.length
 case' neg =>
  rw [q19 fun h => h3 (by rw [h])]
  (have hF := (aI (aI @hca (aI @hcb @e1)) (aI (aI @e2 @e3) (aI @e4 @h1))); refine q01 (k:=?_); clear hF)
  refine q00 [q0g a.past, q0g b.past] (he := c1) (k:=?_)
  (have hF := (aI (aI @hca (aI @hcb @e1)) (aI (aI @e2 @e3) (aI @e4 @h1))); refine q01 (k:=?_); clear hF)
  all_goals first | (exfalso; omega) | exact Fin.tmp' rfl rfl
 (have hF := (aI (aI @hca (aI @hcb @e1)) (aI (aI @e2 @e3) (aI @e4 @h1))); refine q01 (k:=?_); clear hF)
 refine q00 [q0g a.past, q0g b.past] (he := c1) (k:=?_)
 (have hF := (aI (aI (aI @hca @hcb) (aI @e1 @e2)) (aI (aI @e3 @e4) (aI @h1 @h3))); refine q01 (k:=?_); clear hF)
 refine Run.while (σ := Nat) (fun i => ⟨tms [(2, .ptr 2 0), (3, .ptr 3 0), (5, .int .i64 (i : Int))], mms [(2, .cells [.sl 4 (q0e a.live), .sl 1 (q05 a.past.vec), .sl 3 (q0d a.past.cloud), .sl 3 (q08 a.defer)]), (3, .cells [.sl 4 (q0e b.live), .sl 1 (q05 b.past.vec), .sl 3 (q0d b.past.cloud), .sl 3 (q08 b.defer)])]⟩)
  (fun i => i ≤ b.live.length ∧ ∀ j, j < i → a.live[j]? = b.live[j]?) (fun i => b.live.length - i) 0 (have hW := (aI @q04 @q09); q0h) ⟨Nat.zero_le _, fun j hj => absurd hj (Nat.not_lt_zero _)⟩ ?_
 rintro i ⟨hi, hp⟩
 unfold qsd
 by_cases hlt : i < b.live.length
 ·obtain ⟨x, hx⟩ : ∃ x, a.live[i]? = some x := ⟨a.live[i]'(by omega), by simp [show i < a.live.length by omega]⟩
  obtain ⟨y, hy⟩ : ∃ y, b.live[i]? = some y := ⟨b.live[i], by simp [hlt]⟩
  have g1 := q1a hx
  have g2 := q1a hy
  by_cases he : x = y
  ·have hs := q6f hp (hx.trans ((congrArg some he).trans hy.symm))
   subst he
   (have hF := (aI (aI (aI @hca @hcb) (aI @e1 (aI @e2 @e3))) (aI (aI @e4 @h1) (aI @h3 (aI @g1 @g2)))); refine q01 (k:=?_); clear hF)
   (refine Fin.nextW (i + 1) ?_ (have hW := (aI @q04 @q09); q0h); (try dsimp only))
   exact ⟨⟨hlt, hs⟩, by omega⟩
  ·rw [q19 (fun h => qon hx hy he (by rw [h]))]
   by_cases r1 : x.rep = y.rep
   ·by_cases r2 : x.num = y.num
    ·by_cases r3 : x.sku = y.sku
     ·have r4 : ¬ x.qty = y.qty := fun h => he (qr2 r1 r2 r3 h)
      (have hF := (aI (aI (aI @hca (aI @hcb @e1)) (aI (aI @e2 @e3) (aI @e4 @h1))) (aI (aI @h3 (aI @g1 @g2)) (aI (aI @r1 @r2) (aI @r3 @r4)))); refine q01 (k:=?_); clear hF)
      exact Fin.tmp' rfl rfl
     ·(have hF := (aI (aI (aI @hca (aI @hcb @e1)) (aI @e2 (aI @e3 @e4))) (aI (aI @h1 (aI @h3 @g1)) (aI (aI @g2 @r1) (aI @r2 @r3)))); refine q01 (k:=?_); clear hF)
      exact Fin.tmp' rfl rfl
    ·(have hF := (aI (aI (aI @hca (aI @hcb @e1)) (aI @e2 (aI @e3 @e4))) (aI (aI @h1 (aI @h3 @g1)) (aI @g2 (aI @r1 @r2)))); refine q01 (k:=?_); clear hF)
     exact Fin.tmp' rfl rfl
   ·(have hF := (aI (aI (aI @hca @hcb) (aI @e1 (aI @e2 @e3))) (aI (aI @e4 (aI @h1 @h3)) (aI @g1 (aI @g2 @r1)))); refine q01 (k:=?_); clear hF)
    exact Fin.tmp' rfl rfl
 ·have hle : a.live = b.live := q30 (by omega) fun j hj => hp j (by omega)
  (have hF := (aI (aI @hca (aI @hcb @e1)) (aI (aI @e2 @e3) (aI @e4 @h1))); refine q01 (k:=?_); clear hF)
  clear hi hlt hp
  refine Run.while (σ := Nat) (fun i => ⟨tms [(2, .ptr 2 0), (3, .ptr 3 0), (6, .int .i64 (i : Int))], mms [(2, .cells [.sl 4 (q0e a.live), .sl 1 (q05 a.past.vec), .sl 3 (q0d a.past.cloud), .sl 3 (q08 a.defer)]), (3, .cells [.sl 4 (q0e b.live), .sl 1 (q05 b.past.vec), .sl 3 (q0d b.past.cloud), .sl 3 (q08 b.defer)])]⟩)
   (fun i => i ≤ b.defer.length ∧ ∀ j, j < i → a.defer[j]? = b.defer[j]?) (fun i => b.defer.length - i) 0 (have hW := (aI @q04 @q09); q0h) ⟨Nat.zero_le _, fun j hj => absurd hj (Nat.not_lt_zero _)⟩ ?_
  rintro i ⟨hi, hp⟩
  unfold qsc
  by_cases hlt : i < b.defer.length
  ·obtain ⟨x, hx⟩ : ∃ x, a.defer[i]? = some x := ⟨a.defer[i]'(by omega), by simp [show i < a.defer.length by omega]⟩
   obtain ⟨y, hy⟩ : ∃ y, b.defer[i]? = some y := ⟨b.defer[i], by simp [hlt]⟩
   have g1 := q0x hx
   have g2 := q0x hy
   have hwr := u5 x (List.mem_of_getElem? hx)
   unfold wt at hwr
   have c2 := zk7 x.past y.past (by omega) (by omega)
   rw [qjn] at c2
   by_cases r1 : x.sku = y.sku
   ·by_cases r2 : x.past = y.past
    ·rw [q3d r2] at c2
     have hs := q6f hp (hx.trans ((congrArg some (rec_ext r1 r2)).trans hy.symm))
     (have hF := (aI (aI (aI @hca @hcb) (aI @e1 (aI @e2 @e3))) (aI (aI @e4 (aI @h1 @h3)) (aI @g1 (aI @g2 @r1)))); refine q01 (k:=?_); clear hF)
     refine q00 [q0g x.past, q0g y.past] (he := c2) (k:=?_)
     (have hF := (aI (aI (aI @hca @hcb) (aI @e1 (aI @e2 @e3))) (aI (aI @e4 (aI @h1 @h3)) (aI @g1 (aI @g2 @r1)))); refine q01 (k:=?_); clear hF)
     (refine Fin.nextW (i + 1) ?_ (have hW := (aI @q04 @q09); q0h); (try dsimp only))
     exact ⟨⟨hlt, hs⟩, by omega⟩
    ·rw [q19 r2] at c2
     rw [q19 (fun h => qon hx hy (fun h => r2 (by rw [h])) (by rw [h]))]
     (have hF := (aI (aI (aI @hca @hcb) (aI @e1 (aI @e2 @e3))) (aI (aI @e4 (aI @h1 @h3)) (aI @g1 (aI @g2 @r1)))); refine q01 (k:=?_); clear hF)
     refine q00 [q0g x.past, q0g y.past] (he := c2) (k:=?_)
     (have hF := (aI (aI (aI @hca @hcb) (aI @e1 (aI @e2 @e3))) (aI (aI @e4 (aI @h1 @h3)) (aI @g1 (aI @g2 @r1)))); refine q01 (k:=?_); clear hF)
     exact Fin.tmp' rfl rfl
   ·rw [q19 (fun h => qon hx hy (fun h => r1 (by rw [h])) (by rw [h]))]
    (have hF := (aI (aI (aI @hca @hcb) (aI @e1 (aI @e2 @e3))) (aI (aI @e4 (aI @h1 @h3)) (aI @g1 (aI @g2 @r1)))); refine q01 (k:=?_); clear hF)
    exact Fin.tmp' rfl rfl
  ·rw [q3d (qg3 hle h2 (q30 (by omega) fun j hj => hp j (by omega)))]
   (have hF := (aI (aI (aI @hca @hcb) (aI @e1 @e2)) (aI (aI @e3 @e4) (aI @h1 @h3))); refine q01 (k:=?_); clear hF)
   exact Fin.tmp' rfl rfl




structure MgR where
 i : Nat
 j : Nat
 out : List Rec




theorem zjc {a b : Swt} (h : ¬ q83 a b = 0) : q4r a b = noS := if_neg h

def zih : List SOp := [zO 0 (.alloc 31)]
instance : Live zih := ⟨[]⟩
def zig : List SOp := [zO 1 (.build 41 #[(0,.const (.int .i64 0)),(1,.const (.int .i64 1))]),zO 2 (.build 62 #[(0,.tmp 1),(1,.const (.string ⟨#[65]⟩)),(2,.const (.int .i64 5))]),zO 3 (.buildSlice 22 1 #[(0,.tmp 2)]),zO 4 (.buildSlice 23 1 #[(0,.const (.int .i64 1))]),zO 5 (.build 26 #[(0,.tmp 4)]),zO 6 (.build 31 #[(0,.tmp 3),(1,.tmp 5)]),⟨none,.store 31 (.tmp 0) (.tmp 6),none⟩]
instance : Live zig := ⟨[0]⟩
def t_k14 : SC :=
 (.seq (.ops false zih) (.seq (.ops false zig) .ret))
theorem it_k14 : FnIs Tryz.prog 14 7 [.cell 0 31] t_k14 := ⟨Tryz.f14, _, Tryz.func14, rfl, rfl, rfl, rfl, by kernel_rfl⟩


def a1E : Ent := ⟨0, 1, sA, 5⟩
def a1P : Pst := ⟨[1], []⟩
def a1S : Swt := ⟨[a1E], a1P, []⟩
theorem a1rows : (ofT [(0, 1)]).map q13 = [[(1, 1)], [], [], [], [], [], [], [], [], [], [], [], [], [], [], []] := by
 have h : ofT [(0, 1)] = [[(1, 1)], [], [], [], [], [], [], [], [], [], [], [], [], [], [], []] := by decide
 rw [h]
 have n0 : q13 [] = [] := q5v Can.nil
 have n1 : q13 [(1, 1)] = [(1, 1)] := (qaz (c := [(1, 1)]) (by decide) (by simp)).trans (by decide)
 simp only [List.map_cons, List.map_nil, n0, n1]
theorem a1rows2 : (q0l [a1P, ⟨[], []⟩]).map q13 = [[(1, 1)], [], [], [], [], [], [], [], [], [], [], [], [], [], [], []] := by
 have h : q0l [a1P, ⟨[], []⟩] = [[(1, 1)], [], [], [], [], [], [], [], [], [], [], [], [], [], [], []] := by decide
 rw [h]
 have n0 : q13 [] = [] := q5v Can.nil
 have n1 : q13 [(1, 1)] = [(1, 1)] := (qaz (c := [(1, 1)]) (by decide) (by simp)).trans (by decide)
 simp only [List.map_cons, List.map_nil, n0, n1]
theorem a1dots : q5g [a1E] = a1P := by
 show ofP [(0, 1)] = a1P
 unfold ofP
 rw [qgq, a1rows]
 rfl
theorem a1join : q1v [a1P, ⟨[], []⟩] = a1P := by
 unfold q1v
 rw [qgq, a1rows2]
 rfl
theorem a1ent : q23 a1E = 0 := by unfold q23; simp [a1E, good_A]
theorem a1form : q77 [a1E] := ⟨fun i e h => by
 match i with
 | 0 => simp at h; subst h; exact a1ent
 | i + 1 => simp at h, fun i a b h h' => by simp at h'⟩
theorem qop : q3t [] := ⟨fun i r h => by simp at h, fun i a b h => by simp at h⟩
theorem a1sub : qsf [.sl 4 (q0e [a1E]), .sl 1 (q05 [1]), .nil, .nil] [.sl 4 (q0e [a1E]), .sl 1 (q05 [1]), .sl 3 [], .sl 3 []] := ⟨.inl rfl, .inl rfl, .inr ⟨rfl, 3, rfl⟩, .inr ⟨rfl, 3, rfl⟩, trivial⟩
theorem ev_k14 : Ev (En Tryz.prog rfl).P 14 [] (.ret (q34 a1S)) := by
 refine Ev.of_body it_k14 (by simp) (AW.wkEnd (Run.start ?_))
 unfold t_k14
 (have hF := True.intro; refine q01 (k:=?_); clear hF)
 exact Fin.done ⟨_, Wk.cells_nil (k := 0) rfl a1sub, [q34 a1S], by with_unfolding_all rfl, by simp [q0j, q60], _, q38 _, rfl⟩

def zh6 : List SOp := [zO 2 (.box 31 (.tmp 0)),zO 3 (.box 31 (.tmp 1)),zO 4 (.assign (.const (.bool false))),zO 5 (.assign (.const (.int .i64 0)))]
instance : Live zh6 := ⟨[0,1]⟩
def zh5 : List SOp := [zL 9 31 2,zL 10 31 3,zO 11 (.call ⟨.value (.func 25),#[.tmp 9,.tmp 10],#[31,31]⟩),zM 8 11,zX 12 8 0,zX 13 8 1,zO 6 (.alloc 31),⟨none,.store 31 (.tmp 6) (.tmp 12),none⟩,zG 7 13]
instance : Live zh5 := ⟨[2,3]⟩
def zh4 : List SOp := [zM 14 7,zO 15 (.binOp .eql 32 (.tmp 14) (.const (.int .i64 0)) 32),zM 16 15,⟨some 17,.load 31 (.tmp 6),some ((some 16),true)⟩,⟨some 18,.load 31 (.tmp 3),some ((some 16),true)⟩,⟨some 19,.call ⟨.value (.func 74),#[.tmp 17,.tmp 18],#[31,31]⟩,some ((some 16),true)⟩,zO 20 (.pick (.tmp 16) (.tmp 19) (.const (.bool false))),zM 21 7,zG 4 20,zG 5 21]
instance : Live zh4 := ⟨[3,6,7]⟩
def t_k31 : SC :=
 (.seq (.ops false zh6) (.seq (.ops false zh5) (.seq (.ops false zh4) .ret)))
theorem it_k31 : FnIs Tryz.prog 31 22 [.tmp 4, .tmp 5] t_k31 := ⟨Tryz.f31, _, Tryz.func31, rfl, rfl, rfl, rfl, by kernel_rfl⟩

def zh3 : List SOp := [zO 2 (.box 31 (.tmp 0)),zO 3 (.box 31 (.tmp 1)),zO 4 (.assign (.const (.int .i64 0))),zO 5 (.assign (.const (.int .i64 0)))]
instance : Live zh3 := ⟨[0,1]⟩
def zh2 : List SOp := [zL 11 31 2,zL 12 31 3,zO 13 (.call ⟨.value (.func 25),#[.tmp 11,.tmp 12],#[31,31]⟩),zM 10 13,zX 14 10 0,zX 15 10 1,zO 6 (.alloc 31),⟨none,.store 31 (.tmp 6) (.tmp 14),none⟩,zG 7 15]
instance : Live zh2 := ⟨[2,3]⟩
def zh1 : List SOp := [zM 16 7,zO 17 (.binOp .neq 32 (.tmp 16) (.const (.int .i64 0)) 32)]
instance : Live zh1 := ⟨[2,3,6,7]⟩
def zh0 : List SOp := [zM 18 7,zO 4 (.assign (.const (.int .i64 0))),zG 5 18]
instance : Live zh0 := ⟨[7]⟩
def zgz : List SOp := [zL 19 31 6,zL 20 31 3,zO 21 (.call ⟨.value (.func 74),#[.tmp 19,.tmp 20],#[31,31]⟩),zL 22 31 6,zL 23 31 2,zO 24 (.call ⟨.value (.func 74),#[.tmp 22,.tmp 23],#[31,31]⟩),zG 8 21,zG 9 24]
instance : Live zgz := ⟨[2,3,6]⟩
def zgy : List SOp := [zM 26 8,zM 27 26,⟨some 28,.move (.tmp 9),some ((some 27),true)⟩,zO 29 (.pick (.tmp 27) (.tmp 28) (.const (.bool false))),zG 25 29]
instance : Live zgy := ⟨[8,9]⟩
def zgx : List SOp := [zO 4 (.assign (.const (.int .i64 0))),zO 5 (.assign (.const (.int .i64 0)))]
instance : Live zgx := ⟨[]⟩
def zgw : List SOp := [zM 31 8,zG 30 31]
instance : Live zgw := ⟨[8,9]⟩
def zgv : List SOp := [zO 4 (.assign (.const (.int .i64 1))),zO 5 (.assign (.const (.int .i64 0)))]
instance : Live zgv := ⟨[]⟩
def qtw : List SOp := [zM 33 9,zG 32 33]
instance : Live qtw := ⟨[9]⟩
def qtv : List SOp := [zO 4 (.assign (.const (.int .i64 2))),zO 5 (.assign (.const (.int .i64 0)))]
instance : Live qtv := ⟨[]⟩
def qtu : List SOp := [zO 4 (.assign (.const (.int .i64 3))),zO 5 (.assign (.const (.int .i64 0)))]
instance : Live qtu := ⟨[]⟩
def t_k33 : SC :=
 (.seq (.ops false zh3) (.seq (.ops false zh2) (.seq (.seq (.ops false zh1) (.cond (.tmp 17) (.seq (.ops false zh0) .ret) .skip)) (.seq (.seq (.ops true zgz) (.block 0 (.seq (.ops false zgy) (.cond (.tmp 25) (.seq (.ops false zgx) .ret) (.seq (.ops false zgw) (.cond (.tmp 30) (.seq (.ops false zgv) .ret) (.seq (.ops false qtw) (.cond (.tmp 32) (.seq (.ops false qtv) .ret) .skip)))))))) (.seq (.ops false qtu) .ret)))))
theorem it_k33 : FnIs Tryz.prog 33 34 [.tmp 4, .tmp 5] t_k33 := ⟨Tryz.f33, _, Tryz.func33, rfl, rfl, rfl, rfl, by kernel_rfl⟩



def zgu : List SOp := [zO 0 (.alloc 31)]
instance : Live zgu := ⟨[]⟩
def zgt : List SOp := [zO 1 (.buildSlice 23 1 #[(0,.const (.int .i64 1))]),zO 2 (.build 26 #[(0,.tmp 1)]),zO 3 (.build 31 #[(1,.tmp 2)]),⟨none,.store 31 (.tmp 0) (.tmp 3),none⟩]
instance : Live zgt := ⟨[0]⟩
def t_k34 : SC :=
 (.seq (.ops false zgu) (.seq (.ops false zgt) .ret))
theorem it_k34 : FnIs Tryz.prog 34 4 [.cell 0 31] t_k34 := ⟨Tryz.f34, _, Tryz.func34, rfl, rfl, rfl, rfl, by kernel_rfl⟩



noncomputable def qbt (a b : Swt) : Bool := decide (q83 a b = 0) && eqC (q4r a b) b
noncomputable def ordE (a b : Swt) : Int := if q83 a b = 0 then (if eqC (q4r a b) b = true then (if eqC (q4r a b) a = true then 0 else 1) else (if eqC (q4r a b) a = true then 2 else 3)) else 0
theorem qh2 (a b : Swt) : wtS (q4r a b) ≤ 16 + wtS a + wtS b := by
 by_cases h : q83 a b = 0
 ·rw [q3m h]; exact z79 a b
 ·rw [zjc h]
  exact Nat.zero_le _
theorem qfh {a b : Swt} (h : q83 a b = 0) : FormS a ∧ FormS b ∧ FormS (q4r a b) := by
 obtain ⟨h1, h2, M, hM⟩ := qoz.1 h
 exact ⟨h1, h2, by rw [q3m h]; exact qae h1 h2 hM⟩
theorem q2c {s : Swt} (h : FormS s) : CanP s.past ∧ ∀ r ∈ s.defer, qbb r := ⟨h.past, fun r hr => (q3z h.defer r hr).1⟩
theorem qdo (a b : Swt) (ha : wtS a ≤ 2000000) (hb : wtS b ≤ 2000000) : Ev (En Tryz.prog rfl).P 31 [q34 a, q34 b] (.ret (.tup [.bool (qbt a b), .int .i64 (q83 a b)])) := by
 refine Ev.of_body it_k31 (by simp) (Run.start ?_)
 unfold t_k31 qbt
 have hS := qjl
 have hca := qb6 a.live a.past.vec a.past.cloud a.defer
 have hcb := qb6 b.live b.past.vec b.past.cloud b.defer
 have c1 := zkb a b ha hb
 have hjw := qh2 a b
 by_cases h : q83 a b = 0
 ·obtain ⟨f1, f2, f3⟩ := qfh h
  have c2 := zk4 (q4r a b) b (by omega) (by omega) (q2c f3).1 (q2c f2).1 (q2c f3).2 (q2c f2).2
  clear f3
  rw [h] at c1 ⊢
  rw [decide_eq_true rfl, Bool.true_and]
  generalize q4r a b = s at *
  have hcs := qb6 s.live s.past.vec s.past.cloud s.defer
  generalize eqC s b = u at *
  unfold q34 at c1 c2 ⊢
  (have hF := (aI @hca @hcb); refine q01 (k:=?_); clear hF)
  refine q00 [_, _] (he := c1) (k:=?_)
  (have hF := (aI @hca (aI @hcb @hcs)); refine q01 (k:=?_); clear hF)
  refine q00 [_, _] (he := c2) (k:=?_)
  (have hF := (aI @hca @hcb); refine q01 (k:=?_); clear hF)
  exact Fin.two (x := .bool u) (x' := .int .i64 0) rfl rfl rfl rfl (.inl rfl) (.inl rfl)
 ·rw [decide_eq_false h, Bool.false_and]
  generalize q83 a b = v at *
  generalize q4r a b = s at *
  have hcs := qb6 s.live s.past.vec s.past.cloud s.defer
  unfold q34 at c1 ⊢
  (have hF := (aI @hca @hcb); refine q01 (k:=?_); clear hF)
  refine q00 [_, _] (he := c1) (k:=?_)
  (have hF := (aI (aI @hca @hcb) (aI @hcs @h)); refine q01 (k:=?_); clear hF)
  exact Fin.two (x := .bool false) (x' := .int .i64 v) rfl rfl rfl rfl (.inl rfl) (.inl rfl)
theorem ev_k33 (a b : Swt) (ha : wtS a ≤ 2000000) (hb : wtS b ≤ 2000000) : Ev (En Tryz.prog rfl).P 33 [q34 a, q34 b] (.ret (.tup [.int .i64 (ordE a b), .int .i64 (q83 a b)])) := by
 refine Ev.of_body it_k33 (by simp) (Run.start ?_)
 unfold t_k33 ordE
 have hS := qjl
 have hca := qb6 a.live a.past.vec a.past.cloud a.defer
 have hcb := qb6 b.live b.past.vec b.past.cloud b.defer
 have c1 := zkb a b ha hb
 have hjw := qh2 a b
 by_cases h : q83 a b = 0
 ·obtain ⟨f1, f2, f3⟩ := qfh h
  have c2 := zk4 (q4r a b) b (by omega) (by omega) (q2c f3).1 (q2c f2).1 (q2c f3).2 (q2c f2).2
  have c3 := zk4 (q4r a b) a (by omega) (by omega) (q2c f3).1 (q2c f1).1 (q2c f3).2 (q2c f1).2
  clear f3
  rw [h] at c1 ⊢
  rw [if_pos rfl]
  generalize q4r a b = s at *
  have hcs := qb6 s.live s.past.vec s.past.cloud s.defer
  generalize eqC s b = u at *
  generalize eqC s a = v at *
  unfold q34 at c1 c2 c3 ⊢
  cases u <;> cases v
  all_goals
   (have hF := (aI @hca @hcb); refine q01 (k:=?_); clear hF)
   refine q00 [_, _] (he := c1) (k:=?_)
   (have hF := (aI @hca (aI @hcb @hcs)); refine q01 (k:=?_); clear hF)
   refine q00 [_, _] (he := c2) (k:=?_)
   (have hF := (aI @hca (aI @hcb @hcs)); refine q01 (k:=?_); clear hF)
   refine q00 [_, _] (he := c3) (k:=?_)
   (have hF := (aI @hca @hcb); refine q01 (k:=?_); clear hF)
   exact Fin.two (x' := .int .i64 0) rfl rfl rfl rfl (.inl rfl) (.inl rfl)
 ·rw [if_neg h]
  generalize q83 a b = v at *
  generalize q4r a b = s at *
  have hcs := qb6 s.live s.past.vec s.past.cloud s.defer
  unfold q34 at c1 ⊢
  (have hF := (aI @hca @hcb); refine q01 (k:=?_); clear hF)
  refine q00 [_, _] (he := c1) (k:=?_)
  (have hF := (aI (aI @hca @hcb) (aI @hcs @h)); refine q01 (k:=?_); clear hF)
  exact Fin.two (x := .int .i64 0) (x' := .int .i64 v) rfl rfl rfl rfl (.inl rfl) (.inl rfl)

def q7c : Swt := ⟨[], a1P, []⟩
theorem qrh : CanP a1P := by rw [← a1join]; exact q2f _
theorem z8b (p : Pst) : q0n (q5g []) p = true := q46.2 fun d hd => by
 rw [q4g (by simp)] at hd
 obtain ⟨e, he, _⟩ := hd
 cases he
theorem zjt : q77 [] := ⟨fun i e h => by simp at h, fun i a b h => by simp at h⟩
theorem z87 : FormS a1S := ⟨a1form, qrh, qop, by
 show q0n (q5g [a1E]) a1P = true
 rw [a1dots]
 exact qpy _, fun r hr => (nomatch hr), fun e _ ⟨r, hr, _⟩ => (nomatch hr)⟩
theorem qfb : FormS q7c := ⟨zjt, qrh, qop, z8b _, fun r hr => (nomatch hr), fun e he => (nomatch he)⟩
theorem a1has : q1s a1P a1E.dot = true := by
 rw [← a1dots, q4g (fun e he => by simp at he; subst he; exact a1ent)]
 exact ⟨a1E, by simp, rfl⟩
theorem z6z : q2q a1S q7c = some [] := by
 have hk : q1m a1P a1E = false := by unfold q1m; rw [a1has]; rfl
 show (q7i (q1m a1P) (q1m a1P) 0 [] []).map (qi1 (q1m a1P a1E) a1E ++ ·) = some []
 rw [hk]
 rfl
theorem join_a1 : q1v [a1P, a1P] = a1P := qdj (q2f _) qrh fun d => by rw [q4s, Bool.or_self]
theorem err_gone : q83 a1S q7c = 0 := by rw [qds z87 qfb, z6z]; rfl
theorem qqn : q4r a1S q7c = ⟨[], a1P, []⟩ := by
 rw [qfa z87 qfb z6z]
 show Swt.mk (q3r (qa3 []) []) (q1v [a1P, a1P]) (q16 (qa3 []) _) = _
 rw [join_a1]
 rfl
theorem ev_k34 : Ev (En Tryz.prog rfl).P 34 [] (.ret (q34 q7c)) := by
 refine Ev.of_body it_k34 (by simp) (AW.wkEnd (Run.start ?_))
 unfold t_k34
 (have hF := True.intro; refine q01 (k:=?_); clear hF)
 exact Fin.done ⟨_, Wk.cells_nil (k := 0) rfl (show qsf [.nil, .sl 1 (q05 [1]), .nil, .nil] [.sl 4 (q0e []), .sl 1 (q05 [1]), .sl 3 [], .sl 3 []] from ⟨.inr ⟨rfl, 4, rfl⟩, .inl rfl, .inr ⟨rfl, 3, rfl⟩, .inr ⟨rfl, 3, rfl⟩, trivial⟩), [q34 q7c], by with_unfolding_all rfl, by simp [q0j, q60], _, q38 _, rfl⟩
theorem z9w : Tryz.prog.cellsOf 31 = 4 := by kernel_rfl
def cellsS (s : Swt) : List AVal := [.sl 4 (q0e s.live), .sl 1 (q05 s.past.vec), .sl 3 (q0d s.past.cloud), .sl 3 (q08 s.defer)]
theorem qqc : Opens Tryz.prog 31 Swt (fun s => okP s.past) cellsS wtS :=
 (Opens.struct Tryz.underlying31 z9w (OpensF.cons (k := 1) op_ents (fun _ => rfl) z9v rfl (OpensF.cons (k := 2) ziq (fun _ => rfl) qap rfl (OpensF.cons (k := 1) op_recs (fun _ => rfl) z9t rfl (OpensF.nil _))))).map
  (fun x => ⟨x.1, x.2.1, x.2.2.1⟩) (fun x h => h.2.1) (fun _ => rfl)
  (fun x => by
   show x.1.length + wt x.2.1 + q6e x.2.2.1 ≤ wtL (fun _ => 1) x.1 + (wt x.2.1 + ((q6e x.2.2.1 + 1) + 0)) + 1
   rw [qpv]; omega)

abbrev NC (a b : Swt) : Prop := ¬ Clash a.live b.live
theorem q8b {A B : List Ent} (h : Clash A B) : Clash B A := by
 obtain ⟨a, ha, b, hb, hd, hne⟩ := h
 exact ⟨b, hb, a, ha, hd.symm, fun e => hne e.symm⟩
theorem NC.symm {a b : Swt} (h : NC a b) : NC b a := fun hc => h (q8b hc)
theorem qfd {l : List Ent} (h : q77 l) {a b : Ent} (ha : a ∈ l) (hb : b ∈ l) (hd : a.dot = b.dot) : a = b := by
 have hs : za8 l := q50 h.2
 obtain ⟨i, hi⟩ := List.mem_iff_getElem?.1 ha
 obtain ⟨j, hj⟩ := List.mem_iff_getElem?.1 hb
 have lt_of : ∀ {i j : Nat} {a b : Ent}, l[i]? = some a → l[j]? = some b → i < j → q3b a.dot b.dot = true := fun {i j a b} hi hj hij => by
  obtain ⟨h1, e1⟩ := List.getElem?_eq_some_iff.1 hi
  obtain ⟨h2, e2⟩ := List.getElem?_eq_some_iff.1 hj
  have := List.pairwise_iff_getElem.1 hs i j h1 h2 hij
  rw [e1, e2] at this
  exact this
 rcases Nat.lt_trichotomy i j with h' | h' | h'
 ·have := lt_of hi hj h'; exact absurd hd (q5a this)
 ·subst h'; rw [hi] at hj; exact Option.some.inj hj
 ·have := lt_of hj hi h'; exact absurd hd.symm (q5a this)
theorem qd1 {a : Swt} (ha : FormS a) : NC a a := by
 rintro ⟨x, hx, y, hy, hd, hne⟩
 exact hne (qfd ha.live hx hy hd)
theorem zb0 {a : Swt} (ha : FormS a) : stF (expF a) = a := by
 have he := q2d ha.live
 have hd : ∀ e ∈ a.live, q1s (q5g a.live) e.dot = true := fun e h => (q4g he _).2 ⟨e, h, rfl⟩
 have hp : q1t (expF a) = a.past := by
  refine qdj (q2f _) ha.past fun d => ?_
  rw [q2b (q4o ha)]
  show q43 a.live d ∨ q1s (q2u a.past (q5g a.live)) d = true ↔ _
  rw [qdi, Bool.and_eq_true, Bool.not_eq_true', ← Bool.not_eq_true, q4g he]
  have pa : q43 a.live d → q1s a.past d = true := fun h => q46.1 ha.dots d ((q4g he d).2 h)
  constructor
  ·rintro (h | h)
   ·exact pa h
   ·exact h.1
  ·intro h
   by_cases hd : q43 a.live d
   ·exact .inl hd
   ·exact .inr ⟨h, hd⟩
 refine qg3 ?_ hp ?_
 ·show qoi a.live (goneP a) a.defer = a.live
  unfold qoi
  rw [List.filter_eq_self]
  intro e h
  rw [Bool.and_eq_true, Bool.not_eq_true', decide_eq_true_eq, q4c]
  refine ⟨?_, ha.bars e h⟩
  show q1s (q2u a.past (q5g a.live)) e.dot = false
  rw [qdi, hd e h]
  simp
 ·show q16 a.defer (q1t (expF a)) = a.defer
  rw [hp]
  unfold q16
  rw [List.filter_eq_self]
  intro r h
  rw [ha.waits r h]
  rfl
theorem qqu {f g : Fct} (hf : FormF f) (hg : FormF g) (h1 : ∀ e, e ∈ f.adds ↔ e ∈ g.adds) (h2 : ∀ d, q1s f.gone d = true ↔ q1s g.gone d = true) (h3 : ∀ r, r ∈ f.recs ↔ r ∈ g.recs) : f = g := by
 have e1 : f.adds = g.adds := qga (q50 hf.adds.2) (q50 hg.adds.2) h1
 have e2 : f.gone = g.gone := qdj hf.gone hg.gone h2
 have e3 : f.recs = g.recs := by
  rw [← ordR_id hg.recs]
  exact qcw (fun y hy => (q3z hg.recs y hy).1) (q9o hf.recs) h3
 cases f; cases g
 simp only at e1 e2 e3
 rw [e1, e2, e3]
theorem q3i {f g : Fct} (hf : FormF f) (hg : FormF g) {L : List Ent} (hL : zkn f.adds g.adds = some L) (e : Ent) : e ∈ (q6g f g L).adds ↔ e ∈ f.adds ∨ e ∈ g.adds := by
 have h := q7q hf.adds hg.adds
 rw [hL] at h
 exact h.2.2 e
theorem q48 (f g : Fct) (L : List Ent) (d : Rn) : q1s (q6g f g L).gone d = true ↔ q1s f.gone d = true ∨ q1s g.gone d = true := by
 show q1s (q1v [f.gone, g.gone]) d = true ↔ _
 rw [q4s, Bool.or_eq_true]
theorem q47 {f g : Fct} (hf : FormF f) (hg : FormF g) (L : List Ent) (r : Rec) : r ∈ (q6g f g L).recs ↔ r ∈ f.recs ∨ r ∈ g.recs := by
 show r ∈ qa3 (f.recs ++ g.recs) ↔ _
 rw [q4f (qe9 hf.recs hg.recs), List.mem_append]
theorem zkm {f g : Fct} (hf : FormF f) (hg : FormF g) (h : ¬ Clash f.adds g.adds) : ∃ L, zkn f.adds g.adds = some L := by
 have hs := q7q hf.adds hg.adds
 cases hL : zkn f.adds g.adds with
 | none => rw [hL] at hs; exact absurd hs h
 | some L => exact ⟨L, rfl⟩
structure JF (s : Swt) (f : Fct) : Prop where
 form : FormF f
 st : stF f = s
theorem JF.exp {a : Swt} (ha : FormS a) : JF a (expF a) := ⟨q4o ha, zb0 ha⟩
theorem JF.formS {s : Swt} {f : Fct} (h : JF s f) : FormS s := h.st ▸ qg9 h.form
theorem JF.join {a b : Swt} {f g : Fct} (ha : JF a f) (hb : JF b g) (nc : ¬ Clash f.adds g.adds) :
 ∃ L, zkn f.adds g.adds = some L ∧ JF (q2w a b) (q6g f g L) ∧ ∃ M, q2q a b = some M := by
 obtain ⟨L, hL⟩ := zkm ha.form hb.form nc
 obtain ⟨hM, hj⟩ := stF_join ha.form hb.form hL
 rw [ha.st, hb.st] at hM hj
 exact ⟨L, hL, ⟨qbx ha.form hb.form hL, hj.symm⟩, hM⟩
theorem qe6 {f g h : Fct} (hf : FormF f) (hg : FormF g) {L : List Ent} (hL : zkn f.adds g.adds = some L) (h1 : ¬ Clash f.adds h.adds) (h2 : ¬ Clash g.adds h.adds) : ¬ Clash (q6g f g L).adds h.adds := by
 rintro ⟨a, ha, b, hb, hd, hne⟩
 rcases (q3i hf hg hL a).1 ha with ha | ha
 ·exact h1 ⟨a, ha, b, hb, hd, hne⟩
 ·exact h2 ⟨a, ha, b, hb, hd, hne⟩
theorem qao {A B : List Ent} (h : ¬ Clash A B) : ¬ Clash B A := fun hc => h (q8b hc)
theorem zja {a b : Swt} (ha : FormS a) (hb : FormS b) (nc : NC a b) : FormS (q2w a b) := by
 obtain ⟨L, hL, hj, _⟩ := (JF.exp ha).join (JF.exp hb) nc
 exact hj.formS
theorem qde {a b : Swt} (ha : FormS a) (hb : FormS b) (nc : NC a b) : q2w a b = q2w b a := by
 obtain ⟨L, hL, h1, _⟩ := (JF.exp ha).join (JF.exp hb) nc
 obtain ⟨L', hL', h2, _⟩ := (JF.exp hb).join (JF.exp ha) nc.symm
 have fa := q4o ha
 have fb := q4o hb
 rw [← h1.st, ← h2.st]
 congr 1
 refine qqu h1.form h2.form (fun e => ?_) (fun d => ?_) (fun r => ?_)
 ·rw [q3i fa fb hL, q3i fb fa hL', or_comm]
 ·rw [q48, q48, or_comm]
 ·rw [q47 fa fb, q47 fb fa, or_comm]
theorem qok {a : Swt} (ha : FormS a) : q2w a a = a := by
 obtain ⟨L, hL, h1, _⟩ := (JF.exp ha).join (JF.exp ha) (qd1 ha)
 have fa := q4o ha
 have e : q6g (expF a) (expF a) L = expF a := by
  refine qqu h1.form fa (fun e => ?_) (fun d => ?_) (fun r => ?_)
  ·rw [q3i fa fa hL, or_self]
  ·rw [q48, or_self]
  ·rw [q47 fa fa, or_self]
 rw [← h1.st, e, zb0 ha]
theorem qqo {a b c : Swt} (ha : FormS a) (hb : FormS b) (nab : NC a b) (nac : NC a c) (nbc : NC b c) : NC (q2w a b) c := by
 obtain ⟨L, hL, h1, M, hM⟩ := (JF.exp ha).join (JF.exp hb) nab
 rintro ⟨x, hx, y, hy, hd, hne⟩
 rcases ((z74 ha hb hM x).1 hx).1 with h | h
 ·exact nac ⟨x, h.1, y, hy, hd, hne⟩
 ·exact nbc ⟨x, h.1, y, hy, hd, hne⟩
theorem q81 {a b c : Swt} (ha : FormS a) (hb : FormS b) (hc : FormS c) (nab : NC a b) (nac : NC a c) (nbc : NC b c) : q2w (q2w a b) c = q2w a (q2w b c) := by
 have fa := q4o ha
 have fb := q4o hb
 have fc := q4o hc
 obtain ⟨L1, hL1, h1, _⟩ := (JF.exp ha).join (JF.exp hb) nab
 obtain ⟨L2, hL2, h2, _⟩ := h1.join (JF.exp hc) (qe6 fa fb hL1 nac nbc)
 obtain ⟨L3, hL3, h3, _⟩ := (JF.exp hb).join (JF.exp hc) nbc
 obtain ⟨L4, hL4, h4, _⟩ := (JF.exp ha).join h3 (qao (qe6 fb fc hL3 (qao nab) (qao nac)))
 rw [← h2.st, ← h4.st]
 congr 1
 refine qqu h2.form h4.form (fun e => ?_) (fun d => ?_) (fun r => ?_)
 ·rw [q3i h1.form fc hL2, q3i fa fb hL1, q3i fa h3.form hL4, q3i fb fc hL3, or_assoc]
 ·rw [q48, q48, q48, q48, or_assoc]
 ·rw [q47 h1.form fc, q47 fa fb, q47 fa h3.form, q47 fb fc, or_assoc]
theorem zkl {a b : Swt} : q83 a b = 0 ↔ FormS a ∧ FormS b ∧ NC a b := by
 rw [qoz]
 constructor
 ·rintro ⟨h1, h2, M, hM⟩
  refine ⟨h1, h2, fun hc => ?_⟩
  rw [(q4w h1 h2).1.2 hc] at hM
  cases hM
 ·rintro ⟨h1, h2, hc⟩
  refine ⟨h1, h2, ?_⟩
  cases hm : q2q a b with
  | none => exact absurd ((q4w h1 h2).1.1 hm) hc
  | some M => exact ⟨M, rfl⟩
theorem qdr (a b : Swt) : q83 a b = q83 b a := by
 unfold q83
 by_cases h : FormS a ∧ FormS b
 ·rw [if_pos h, if_pos h.symm]
  by_cases hc : Clash a.live b.live
  ·rw [if_pos hc, if_pos (q8b hc)]
  ·rw [if_neg hc, if_neg fun h' => hc (q8b h')]
 ·rw [if_neg h, if_neg fun h' => h h'.symm]
theorem q6z {a b : Swt} (ha : FormS a) (hb : FormS b) (nc : NC a b) : q83 a b = 0 ∧ q4r a b = q2w a b :=
 have h := zkl.2 ⟨ha, hb, nc⟩
 ⟨h, q3m h⟩
theorem z95 (a b : Swt) : q4r a b = q4r b a := by
 by_cases h : q83 a b = 0
 ·obtain ⟨h1, h2, h3⟩ := zkl.1 h
  rw [q3m h, q3m (by rw [qdr]; exact h), qde h1 h2 h3]
 ·rw [q7l h, q7l (by rw [qdr]; exact h)]

def zhf : List SOp := [zO 2 (.box 31 (.tmp 0)),zO 3 (.box 31 (.tmp 1)),zO 4 (.assign (.const (.bool false)))]
instance : Live zhf := ⟨[0,1]⟩
def zhe : List SOp := [zO 10 (.makeMap 110 none),zG 5 10]
instance : Live zhe := ⟨[2,3]⟩
def zhd : List SOp := [zO 6 (.assign (.const (.int .i64 0)))]
instance : Live zhd := ⟨[2,3,5]⟩
def zhc : List SOp := [zM 11 6,zF 12 31 2 0,zL 13 22 12,zO 14 (.call ⟨.builtin .len,#[.tmp 13],#[22]⟩),zO 15 (.binOp .lss 3 (.tmp 11) (.tmp 14) 3)]
instance : Live zhc := ⟨[2,3,5,6]⟩
def zhb : List SOp := [zM 18 5,zF 19 31 2 0,zL 20 22 19,zM 21 6,zI 22 22 20 21,zF 23 62 22 0,zL 24 41 23,zF 25 31 2 0,zL 26 22 25,zM 27 6,zI 28 22 26 27,zL 29 62 28,⟨none,.mapUpdate 110 (.tmp 18) (.tmp 24) (.tmp 29),none⟩]
instance : Live zhb := ⟨[2,3,5,6]⟩
def zha : List SOp := [zM 16 6,zO 17 (.binOp .add 3 (.tmp 16) (.const (.int .i64 1)) 3),zG 6 17]
instance : Live zha := ⟨[2,3,5,6]⟩
def zh9 : List SOp := [zO 7 (.assign (.const (.int .i64 0)))]
instance : Live zh9 := ⟨[3,5]⟩
def zh8 : List SOp := [zM 30 7,zF 31 31 3 0,zL 32 22 31,zO 33 (.call ⟨.builtin .len,#[.tmp 32],#[22]⟩),zO 34 (.binOp .lss 3 (.tmp 30) (.tmp 33) 3)]
instance : Live zh8 := ⟨[3,5,7]⟩
def zh7 : List SOp := [zM 38 5,zF 39 31 3 0,zL 40 22 39,zM 41 7,zI 42 22 40 41,zF 43 62 42 0,zL 44 41 43,zO 45 (.lookup 110 (.tmp 38) (.tmp 44) true),zM 37 45,zX 46 37 0,zX 47 37 1,zO 8 (.alloc 62),⟨none,.store 62 (.tmp 8) (.tmp 46),none⟩,zG 9 47]
instance : Live zh7 := ⟨[3,5,7]⟩
def qu1 : List SOp := [zM 48 9,zM 49 48,⟨some 50,.load 62 (.tmp 8),some ((some 49),true)⟩,⟨some 51,.fieldAddr 31 (.tmp 3) 0,some ((some 49),true)⟩,⟨some 52,.load 22 (.tmp 51),some ((some 49),true)⟩,⟨some 53,.move (.tmp 7),some ((some 49),true)⟩,⟨some 54,.indexAddr 22 (.tmp 52) (.tmp 53),some ((some 49),true)⟩,⟨some 55,.load 62 (.tmp 54),some ((some 49),true)⟩,⟨some 56,.binOp .neq 62 (.tmp 50) (.tmp 55) 62,some ((some 49),true)⟩,zO 57 (.pick (.tmp 49) (.tmp 56) (.const (.bool false)))]
instance : Live qu1 := ⟨[3,5,7,8,9]⟩
def qu0 : List SOp := [zO 4 (.assign (.const (.bool true)))]
instance : Live qu0 := ⟨[]⟩
def qtz : List SOp := [zM 35 7,zO 36 (.binOp .add 3 (.tmp 35) (.const (.int .i64 1)) 3),zG 7 36]
instance : Live qtz := ⟨[3,5,7]⟩
def qtx : List SOp := [zO 4 (.assign (.const (.bool false)))]
instance : Live qtx := ⟨[]⟩
def qs9 : SC :=
 (.seq (.seq (.ops false zhc) (.cond (.tmp 15) .skip (.exit 0))) (.seq (.block 1 (.ops true zhb)) (.ops false zha)))
def qs8 : SC :=
 (.seq (.seq (.ops false zh8) (.cond (.tmp 34) .skip (.exit 2))) (.seq (.block 3 (.seq (.ops false zh7) (.seq (.ops true qu1) (.cond (.tmp 57) (.seq (.ops false qu0) .ret) .skip)))) (.ops false qtz)))
def t_k27 : SC :=
 (.seq (.ops false zhf) (.seq (.ops false zhe) (.seq (.seq (.ops false zhd) (.block 0 (.loop qs9))) (.seq (.seq (.ops false zh9) (.block 2 (.loop qs8))) (.seq (.ops false qtx) .ret)))))
theorem it_k27 : FnIs Tryz.prog 27 58 [.tmp 4] t_k27 := ⟨Tryz.f27, _, Tryz.func27, rfl, rfl, rfl, rfl, by kernel_rfl⟩

section
def zj3 {α : Type} (kd : α → Rn) (d : Rn) : List α → Nat → Option (Nat × α)
 | [], _ => none
 | e :: r, i => if kd e = d then some (i, e) else zj3 kd d r (i + 1)
def qd2 {α : Type} (kd : α → Rn) (f : α → AVal) (l : List α) : List (AVal × AVal) := l.map fun e => (.agg [.int .i64 (kd e).1, .int .i64 (kd e).2], f e)
theorem eqA_dot (a b : Rn) : eqA TE0 EQ0 20 41 (.agg [.int .i64 a.1, .int .i64 a.2]) (.agg [.int .i64 b.1, .int .i64 b.2]) = some (decide (a.1 = b.1) && (decide (a.2 = b.2) && true)) := by
 simp (disch := omega) only [↓Bp, Bq, qba, qhw, En_P, TD.isAgg, AVal.known, AVal.cells, AVal.one, AVal.plain, cst, reduceCtorEq, ↓reduceIte, Nat.reduceAdd, Nat.reduceMul, Nat.reduceLeDiff, Nat.reduceEqDiff, Nat.reduceBEq, Bt, bqs, eqA, z9n, EQ0, eqL]
theorem qd4 {α : Type} (kd : α → Rn) (f : α → AVal) (d : Rn) : ∀ (l : List α) (i : Nat),
 q8f TE0 EQ0 41 (.agg [.int .i64 d.1, .int .i64 d.2]) (qd2 kd f l) i = some ((zj3 kd d l i).map fun p => (p.1, f p.2))
 | [], i => rfl
 | e :: l, i => by
  show q8f TE0 EQ0 41 (.agg [.int .i64 d.1, .int .i64 d.2]) ((.agg [.int .i64 (kd e).1, .int .i64 (kd e).2], f e) :: qd2 kd f l) i = _
  rw [q8f, eqA_dot, zj3]
  by_cases h : kd e = d
  ·subst h
   simp [zj8, qpm]
  ·have hb : (decide (d.1 = (kd e).1) && (decide (d.2 = (kd e).2) && true)) = false := by
    rw [← Bool.not_eq_true]
    intro hh
    simp only [Bool.and_eq_true, decide_eq_true_eq, and_true] at hh
    exact h (Prod.ext hh.1.symm hh.2.symm)
   rw [hb, if_neg h]
   simp only
   rw [qd4 kd f d l (i + 1)]
theorem qoh {α : Type} {kd : α → Rn} {d : Rn} : ∀ {l : List α} {i : Nat}, (∀ e ∈ l, kd e ≠ d) → zj3 kd d l i = none
 | [], _, _ => rfl
 | e :: l, i, h => by
  rw [zj3, if_neg (h e (by simp))]
  exact qoh fun x hx => h x (by simp [hx])
theorem qog {α : Type} {kd : α → Rn} {d : Rn} : ∀ {l : List α} {i : Nat} {p : Nat × α}, zj3 kd d l i = some p → p.2 ∈ l ∧ kd p.2 = d
 | [], _, _, h => by simp [zj3] at h
 | e :: l, i, p, h => by
  rw [zj3] at h
  split at h
  ·rename_i he
   cases h
   exact ⟨by simp, he⟩
  ·have := qog h
   exact ⟨by simp [this.1], this.2⟩
theorem z73 {α : Type} {kd : α → Rn} {d : Rn} : ∀ {l : List α} {i : Nat}, zj3 kd d l i = none → ∀ e ∈ l, kd e ≠ d
 | [], _, _, e, he => by cases he
 | x :: l, i, h, e, he => by
  rw [zj3] at h
  split at h
  ·cases h
  ·rename_i hx
   rcases List.mem_cons.1 he with rfl | he
   ·exact hx
   ·exact z73 h e he
theorem qqf {α : Type} {kd : α → Rn} {f : α → AVal} {l : List α} {i : Nat} {e : α} (h : l[i]? = some e) :
 qd2 kd f (l.take (i + 1)) = qd2 kd f (l.take i) ++ [(.agg [.int .i64 (kd e).1, .int .i64 (kd e).2], f e)] := by
 unfold qd2
 rw [List.take_add_one, h]
 simp
def mstb (es : List (AVal × AVal)) : Bool := es.all fun p => p.1.stb && p.2.stb
theorem map_no {K : Nat → Bool} {es : List (AVal × AVal)} (h : mstb es = true) : (ABlk.map es).no K = true := by
 show es.all (fun p => p.1.no K && p.2.no K) = true
 rw [List.all_eq_true]
 intro p hp
 have := List.all_eq_true.1 h p hp
 rw [Bool.and_eq_true] at this ⊢
 exact ⟨q1d this.1, q1d this.2⟩
theorem z8s {α : Type} {kd : α → Rn} {f : α → AVal} (hf : ∀ e, (f e).stb = true) (l : List α) : mstb (qd2 kd f l) = true := by
 unfold mstb
 rw [List.all_eq_true]
 intro p hp
 obtain ⟨e, _, rfl⟩ := List.mem_map.1 hp
 show (true && (f e).stb) = true
 rw [hf]
 rfl
section
variable {n : Nat} {T : q1x} {M : Mem}
theorem zaz {l : List (Nat × AVal)} {m : List (Nat × ABlk)}
 (h : allT T l := by repeat (first | exact trivial | refine ⟨by with_unfolding_all rfl, ?_⟩ | (refine ⟨by simp [↓q6t, ↓q3v, ↓q58, ↓NoM', hW], ?_⟩)))
 (hm : allM M m := by repeat (first | exact trivial | refine ⟨by with_unfolding_all rfl, ?_⟩ | (refine ⟨by simp [↓q6t, ↓q3v, ↓q58, ↓NoM', hW], ?_⟩)))
 (hn : qpo (qqd m) l := by repeat (first | exact trivial | (refine ⟨?_, ?_⟩; focus (first | with_unfolding_all rfl | (apply q1d; simp only [q0j, AVal.stb, q02, q06, q0z, q03, q0r, q0b, q14, Bool.and_true, Bool.true_and, Bool.and_self, hW]; done)))))
 (hb : qre (qqd m) m := by repeat (first | exact trivial | (refine ⟨?_, ?_⟩; focus (first | with_unfolding_all rfl | (apply map_no; simp only [hW]; done) | (apply qfv; simp only [q0j, AVal.stb, q02, q06, q0z, q03, q0r, q0b, q14, Bool.and_true, Bool.true_and, Bool.and_self, hW]; done) | exact q2n _ _ | exact qhm _ _ | exact qho _ _ | (apply q9x; simp only [q0j, AVal.stb, q02, q06, q0z, q03, q0r, q0b, q14, Bool.and_true, Bool.true_and, Bool.and_self, hW]; done) | (apply qhq; simp only [qhr, z7u, List.all_cons, List.all_nil, q0j, AVal.stb, q02, q06, q0z, q03, q0r, q0b, q14, Bool.and_true, Bool.true_and, Bool.and_self, hW]; done) | (simp [ABlk.no, AVal.noC, AVal.no, AVal.stb, q0j, q02, q06, q0z, q03, q0r, q0b, q14, hW]; done))))) :
 Wk n ⟨T, M⟩ ⟨tms l, mms m⟩ := Wk.toL l m h hm hn hb
end
abbrev q8x (l : List Ent) : List (AVal × AVal) := qd2 Ent.dot qam l
open Classical in
noncomputable def clsh (a b : Swt) : Bool := decide (Clash a.live b.live)
theorem q9u {a b : Swt} (h : Clash a.live b.live) : clsh a b = true := by classical exact decide_eq_true h
theorem q89 {a b : Swt} (h : NC a b) : clsh a b = false := by classical exact decide_eq_false h
theorem zk9 (a b : Swt) (hfa : FormS a) (ha : wtS a ≤ 3000000) (hb : wtS b ≤ 3000000) : Ev (En Tryz.prog rfl).P 27 [q34 a, q34 b] (.ret (.bool (clsh a b))) := by
 refine Ev.of_body it_k27 (by simp) (Run.start ?_)
 unfold t_k27 q34
 obtain ⟨u1, u2, u3, u4, u5⟩ := q37 ha
 obtain ⟨w1, w2, w3, w4, w5⟩ := q37 hb
 have hS := qjl
 have hca := qb6 a.live a.past.vec a.past.cloud a.defer
 have hcb := qb6 b.live b.past.vec b.past.cloud b.defer
 have e1 := q0q a.live
 have e2 := q0q b.live
 have hmn := fun l => z8s (kd := Ent.dot) qbp l
 (have hF := (aI @hca @hcb); refine q01 (k:=?_); clear hF)
 refine Run.while (σ := Nat) (fun i => ⟨tms [(2, .ptr 2 0), (3, .ptr 3 0), (5, .mp 10), (6, .int .i64 (i : Int))], mms [(2, .cells [.sl 4 (q0e a.live), .sl 1 (q05 a.past.vec), .sl 3 (q0d a.past.cloud), .sl 3 (q08 a.defer)]), (3, .cells [.sl 4 (q0e b.live), .sl 1 (q05 b.past.vec), .sl 3 (q0d b.past.cloud), .sl 3 (q08 b.defer)]), (10, .map (q8x (a.live.take i)))]⟩)
  (fun i => i ≤ a.live.length) (fun i => a.live.length - i) 0 (have hW := (aI @q04 (aI @q09 @hmn)); zaz) (Nat.zero_le _) ?_
 intro i hi
 unfold qs9
 by_cases hlt : i < a.live.length
 ·obtain ⟨e, he⟩ : ∃ e, a.live[i]? = some e := ⟨a.live[i], by simp [hlt]⟩
  have g1 := q1a he
  have hf : q8f TE0 EQ0 41 (.agg [.int .i64 e.rep, .int .i64 e.num]) (q8x (a.live.take i)) 0 = some none := by
   have := qd4 Ent.dot qam e.dot (a.live.take i) 0
   rw [qoh] at this
   ·exact this
   ·intro x hx hd
    obtain ⟨m, hm⟩ := List.mem_iff_getElem?.1 hx
    have hmi : m < i := by
     have := (List.getElem?_eq_some_iff.1 hm).1
     simp at this
     omega
    rw [List.getElem?_take_of_lt hmi] at hm
    have hlm := (List.getElem?_eq_some_iff.1 hm)
    have hle := (List.getElem?_eq_some_iff.1 he)
    have := List.pairwise_iff_getElem.1 (q50 hfa.live.2) m i hlm.1 hle.1 hmi
    rw [hlm.2, hle.2] at this
    exact q5a this hd
  have hsn : q8x (a.live.take i) ++ [(.agg [.int .i64 e.rep, .int .i64 e.num], .agg [.int .i64 e.rep, .int .i64 e.num, .str e.sku, .int .i64 e.qty])] = q8x (a.live.take (i + 1)) := (qqf he).symm
  (have hF := (aI (aI @hca @hcb) (aI @e1 (aI @g1 @hf))); refine q01 (k:=?_); clear hF)
  (refine Fin.nextW (i + 1) ?_ (have hW := (aI (aI @q04 @q09) (aI @hmn @hsn)); zaz); (try dsimp only))
  exact ⟨hlt, by omega⟩
 ·have hil : a.live.take i = a.live := List.take_of_length_le (by omega)
  rw [hil]
  (have hF := (aI @hca (aI @hcb @e1)); refine q01 (k:=?_); clear hF)
  refine Run.while (σ := Nat) (fun j => ⟨tms [(3, .ptr 3 0), (5, .mp 10), (7, .int .i64 (j : Int))], mms [(3, .cells [.sl 4 (q0e b.live), .sl 1 (q05 b.past.vec), .sl 3 (q0d b.past.cloud), .sl 3 (q08 b.defer)]), (10, .map (q8x a.live))]⟩)
   (fun j => j ≤ b.live.length ∧ ∀ (m : Nat) e, m < j → b.live[m]? = some e → ∀ x ∈ a.live, x.dot = e.dot → x = e) (fun j => b.live.length - j) 0 (have hW := (aI @q04 (aI @q09 @hmn)); zaz) ⟨Nat.zero_le _, fun m e hm => absurd hm (Nat.not_lt_zero _)⟩ ?_
  rintro j ⟨hj, hJ⟩
  unfold qs8
  by_cases hjl : j < b.live.length
  ·obtain ⟨e, he⟩ : ∃ e, b.live[j]? = some e := ⟨b.live[j], by simp [hjl]⟩
   have g2 := q1a he
   have hstep : (∀ x ∈ a.live, x.dot = e.dot → x = e) → ∀ (m : Nat) y, m < j + 1 → b.live[m]? = some y → ∀ x ∈ a.live, x.dot = y.dot → x = y := fun h m y hm hy => by
    by_cases hmj : m = j
    ·subst hmj; rw [he] at hy; cases hy; exact h
    ·exact hJ m y (by omega) hy
   have hf := qd4 Ent.dot qam e.dot a.live 0
   cases hmd : zj3 Ent.dot e.dot a.live 0 with
   | none =>
    rw [hmd] at hf
    replace hf : q8f TE0 EQ0 41 (.agg [.int .i64 e.rep, .int .i64 e.num]) (q8x a.live) 0 = some none := hf
    have hs := hstep fun x hx hd => absurd hd (z73 hmd x hx)
    (have hF := (aI (aI @hca @hcb) (aI @e2 (aI @g2 @hf))); refine q01 (k:=?_); clear hF)
    (refine Fin.nextW (j + 1) ?_ (have hW := (aI @q04 (aI @q09 @hmn)); zaz); (try dsimp only))
    exact ⟨⟨hjl, hs⟩, by omega⟩
   | some p =>
    obtain ⟨m, x⟩ := p
    rw [hmd] at hf
    replace hf : q8f TE0 EQ0 41 (.agg [.int .i64 e.rep, .int .i64 e.num]) (q8x a.live) 0 = some (some (m, .agg [.int .i64 x.rep, .int .i64 x.num, .str x.sku, .int .i64 x.qty])) := hf
    obtain ⟨hx, hd⟩ := qog hmd
    simp only at hx hd
    by_cases hxe : x = e
    ·have hs := hstep fun y hy hyd => by
      rw [← hxe]
      exact qfd hfa.live hy hx (hyd.trans hd.symm)
     rw [hxe] at hf
     have hq : (decide (e.rep = e.rep) && (decide (e.num = e.num) && (decide (e.sku = e.sku) && (decide (e.qty = e.qty) && true)))) = true := by simp
     (have hF := (aI (aI @hca (aI @hcb @e2)) (aI @g2 (aI @hf @hq))); refine q01 (k:=?_); clear hF)
     (refine Fin.nextW (j + 1) ?_ (have hW := (aI @q04 (aI @q09 @hmn)); zaz); (try dsimp only))
     exact ⟨⟨hjl, hs⟩, by omega⟩
    ·rw [q9u ⟨x, hx, e, List.mem_of_getElem? he, hd, hxe⟩]
     (focus (have hF := (aI (aI @hca @hcb) (aI @e2 (aI @g2 @hf))); (repeat' (first | refine go1 (k:=?_) | with_reducible refine Ny.of ?_ ?_ | (refine Hyp.of ?_; intro hc; (try simp only [hc]); (try simp only [Bh] at hc)))); all_goals clear hF))
     ·exact Fin.tmp' rfl rfl
     ·exact absurd (qr2 hc.1.1 hc.1.2 hc.2.1 hc.2.2) hxe
  ·rw [q89 (fun ⟨x, hx, y, hy, hd, hne⟩ => by
    obtain ⟨m, hm⟩ := List.mem_iff_getElem?.1 hy
    have hlm : m < b.live.length := (List.getElem?_eq_some_iff.1 hm).1
    exact hne (hJ m y (by omega) hm x hx hd))]
   (have hF := (aI @hca (aI @hcb @e2)); refine q01 (k:=?_); clear hF)
   exact Fin.tmp' rfl rfl
end


def r_k9_1 : List SOp := [zO 3 (.box 31 (.tmp 0)),zO 4 (.box 31 (.tmp 1)),zO 5 (.box 31 (.tmp 2)),zO 6 (.assign (.const (.bool false)))]
instance : Live r_k9_1 := ⟨[0,1,2]⟩
def r_k9_2 : List SOp := [zO 24 (.call ⟨.value (.func 34),#[],#[]⟩),zO 25 (.call ⟨.value (.func 14),#[],#[]⟩),zO 26 (.call ⟨.value (.func 33),#[.tmp 24,.tmp 25],#[31,31]⟩),zM 23 26,zX 27 23 0,zX 28 23 1,zG 7 27,zG 8 28]
instance : Live r_k9_2 := ⟨[3,4,5]⟩
def r_k9_3 : List SOp := [zM 29 7,zO 30 (.binOp .neq 3 (.tmp 29) (.const (.int .i64 2)) 3),zM 31 30,⟨some 32,.move (.tmp 8),some ((some 31),false)⟩,⟨some 33,.binOp .neq 32 (.tmp 32) (.const (.int .i64 0)) 32,some ((some 31),false)⟩,zO 34 (.pick (.tmp 31) (.const (.bool true)) (.tmp 33))]
instance : Live r_k9_3 := ⟨[3,4,5,7,8]⟩
def r_k9_4 : List SOp := [zO 6 (.assign (.const (.bool false)))]
instance : Live r_k9_4 := ⟨[]⟩
def r_k9_5 : List SOp := [zL 35 31 3,zO 36 (.call ⟨.value (.func 26),#[.tmp 35],#[31]⟩),zO 37 (.unOp .not 4 (.tmp 36)),zM 38 37,⟨some 39,.load 31 (.tmp 4),some ((some 38),false)⟩,⟨some 40,.call ⟨.value (.func 26),#[.tmp 39],#[31]⟩,some ((some 38),false)⟩,⟨some 41,.unOp .not 4 (.tmp 40),some ((some 38),false)⟩,zO 42 (.pick (.tmp 38) (.const (.bool true)) (.tmp 41)),zM 43 42,⟨some 44,.load 31 (.tmp 5),some ((some 43),false)⟩,⟨some 45,.call ⟨.value (.func 26),#[.tmp 44],#[31]⟩,some ((some 43),false)⟩,⟨some 46,.unOp .not 4 (.tmp 45),some ((some 43),false)⟩,zO 47 (.pick (.tmp 43) (.const (.bool true)) (.tmp 46)),zM 48 47,⟨some 49,.load 31 (.tmp 3),some ((some 48),false)⟩,⟨some 50,.load 31 (.tmp 4),some ((some 48),false)⟩,⟨some 51,.call ⟨.value (.func 27),#[.tmp 49,.tmp 50],#[31,31]⟩,some ((some 48),false)⟩,zO 52 (.pick (.tmp 48) (.const (.bool true)) (.tmp 51)),zM 53 52,⟨some 54,.load 31 (.tmp 3),some ((some 53),false)⟩,⟨some 55,.load 31 (.tmp 5),some ((some 53),false)⟩,⟨some 56,.call ⟨.value (.func 27),#[.tmp 54,.tmp 55],#[31,31]⟩,some ((some 53),false)⟩,zO 57 (.pick (.tmp 53) (.const (.bool true)) (.tmp 56)),zM 58 57,⟨some 59,.load 31 (.tmp 4),some ((some 58),false)⟩,⟨some 60,.load 31 (.tmp 5),some ((some 58),false)⟩,⟨some 61,.call ⟨.value (.func 27),#[.tmp 59,.tmp 60],#[31,31]⟩,some ((some 58),false)⟩,zO 62 (.pick (.tmp 58) (.const (.bool true)) (.tmp 61))]
instance : Live r_k9_5 := ⟨[3,4,5]⟩
def r_k9_6 : List SOp := [zO 6 (.assign (.const (.bool true)))]
instance : Live r_k9_6 := ⟨[]⟩
def r_k9_7 : List SOp := [zL 64 31 3,zL 65 31 4,zO 66 (.call ⟨.value (.func 31),#[.tmp 64,.tmp 65],#[31,31]⟩),zM 63 66,zX 67 63 0,zX 68 63 1,zG 9 67,zG 10 68]
instance : Live r_k9_7 := ⟨[3,4,5]⟩
def r_k9_8 : List SOp := [zL 70 31 4,zL 71 31 3,zO 72 (.call ⟨.value (.func 31),#[.tmp 70,.tmp 71],#[31,31]⟩),zM 69 72,zX 73 69 0,zX 74 69 1,zG 11 73,zG 12 74]
instance : Live r_k9_8 := ⟨[3,4,5,9,10]⟩
def r_k9_9 : List SOp := [zL 76 31 4,zL 77 31 5,zO 78 (.call ⟨.value (.func 31),#[.tmp 76,.tmp 77],#[31,31]⟩),zM 75 78,zX 79 75 0,zX 80 75 1,zG 13 79,zG 14 80]
instance : Live r_k9_9 := ⟨[3,4,5,9,10,11,12]⟩
def zbw : List SOp := [zL 82 31 3,zL 83 31 5,zO 84 (.call ⟨.value (.func 31),#[.tmp 82,.tmp 83],#[31,31]⟩),zM 81 84,zX 85 81 0,zX 86 81 1,zG 15 85,zG 16 86]
instance : Live zbw := ⟨[3,4,5,9,10,11,12,13,14]⟩
def zbv : List SOp := [zM 87 10,zO 88 (.binOp .neq 32 (.tmp 87) (.const (.int .i64 0)) 32),zM 89 88,⟨some 90,.move (.tmp 12),some ((some 89),false)⟩,⟨some 91,.binOp .neq 32 (.tmp 90) (.const (.int .i64 0)) 32,some ((some 89),false)⟩,zO 92 (.pick (.tmp 89) (.const (.bool true)) (.tmp 91)),zM 93 92,⟨some 94,.move (.tmp 14),some ((some 93),false)⟩,⟨some 95,.binOp .neq 32 (.tmp 94) (.const (.int .i64 0)) 32,some ((some 93),false)⟩,zO 96 (.pick (.tmp 93) (.const (.bool true)) (.tmp 95)),zM 97 96,⟨some 98,.move (.tmp 16),some ((some 97),false)⟩,⟨some 99,.binOp .neq 32 (.tmp 98) (.const (.int .i64 0)) 32,some ((some 97),false)⟩,zO 100 (.pick (.tmp 97) (.const (.bool true)) (.tmp 99))]
instance : Live zbv := ⟨[3,4,5,9,10,11,12,13,14,15,16]⟩
def zbu : List SOp := [zO 6 (.assign (.const (.bool false)))]
instance : Live zbu := ⟨[]⟩
def zbt : List SOp := [zM 101 9,zM 102 101,⟨some 103,.move (.tmp 13),some ((some 102),true)⟩,zO 104 (.pick (.tmp 102) (.tmp 103) (.const (.bool false))),zM 105 104,⟨some 106,.move (.tmp 15),some ((some 105),true)⟩,⟨some 107,.unOp .not 4 (.tmp 106),some ((some 105),true)⟩,zO 108 (.pick (.tmp 105) (.tmp 107) (.const (.bool false))),zM 109 108,⟨some 110,.move (.tmp 9),some ((some 109),false)⟩,⟨some 111,.move (.tmp 110),some ((some 109),false)⟩,⟨some 112,.move (.tmp 11),some ((some 111),true)⟩,⟨some 113,.pick (.tmp 111) (.tmp 112) (.const (.bool false)),some ((some 109),false)⟩,⟨some 114,.move (.tmp 113),some ((some 109),false)⟩,⟨some 115,.load 31 (.tmp 3),some ((some 114),true)⟩,⟨some 116,.load 31 (.tmp 4),some ((some 114),true)⟩,⟨some 117,.call ⟨.value (.func 15),#[.tmp 115,.tmp 116],#[31,31]⟩,some ((some 114),true)⟩,⟨some 118,.unOp .not 4 (.tmp 117),some ((some 114),true)⟩,⟨some 119,.pick (.tmp 114) (.tmp 118) (.const (.bool false)),some ((some 109),false)⟩,zO 120 (.pick (.tmp 109) (.const (.bool true)) (.tmp 119))]
instance : Live zbt := ⟨[3,4,5,9,11,13,15]⟩
def zbs : List SOp := [zO 6 (.assign (.const (.bool false)))]
instance : Live zbs := ⟨[]⟩
def zbr : List SOp := [zL 122 31 3,zL 123 31 4,zO 124 (.call ⟨.value (.func 33),#[.tmp 122,.tmp 123],#[31,31]⟩),zM 121 124,zX 125 121 0,zX 126 121 1,zG 7 125,zG 8 126]
instance : Live zbr := ⟨[3,4,5,9,11,13,15]⟩
def zbq : List SOp := [zM 127 8,zO 128 (.binOp .neq 32 (.tmp 127) (.const (.int .i64 0)) 32),zM 129 128,⟨some 130,.move (.tmp 7),some ((some 129),false)⟩,⟨some 131,.binOp .eql 3 (.tmp 130) (.const (.int .i64 0)) 3,some ((some 129),false)⟩,⟨some 132,.move (.tmp 9),some ((some 129),false)⟩,⟨some 133,.move (.tmp 132),some ((some 129),false)⟩,⟨some 134,.move (.tmp 11),some ((some 133),true)⟩,⟨some 135,.pick (.tmp 133) (.tmp 134) (.const (.bool false)),some ((some 129),false)⟩,⟨some 136,.binOp .neq 4 (.tmp 131) (.tmp 135) 4,some ((some 129),false)⟩,zO 137 (.pick (.tmp 129) (.const (.bool true)) (.tmp 136)),zM 138 137,⟨some 139,.move (.tmp 7),some ((some 138),false)⟩,⟨some 140,.binOp .eql 3 (.tmp 139) (.const (.int .i64 1)) 3,some ((some 138),false)⟩,⟨some 141,.move (.tmp 9),some ((some 138),false)⟩,⟨some 142,.move (.tmp 141),some ((some 138),false)⟩,⟨some 143,.move (.tmp 11),some ((some 142),true)⟩,⟨some 144,.unOp .not 4 (.tmp 143),some ((some 142),true)⟩,⟨some 145,.pick (.tmp 142) (.tmp 144) (.const (.bool false)),some ((some 138),false)⟩,⟨some 146,.binOp .neq 4 (.tmp 140) (.tmp 145) 4,some ((some 138),false)⟩,zO 147 (.pick (.tmp 138) (.const (.bool true)) (.tmp 146)),zM 148 147,⟨some 149,.move (.tmp 7),some ((some 148),false)⟩,⟨some 150,.binOp .eql 3 (.tmp 149) (.const (.int .i64 2)) 3,some ((some 148),false)⟩,⟨some 151,.move (.tmp 11),some ((some 148),false)⟩,⟨some 152,.move (.tmp 151),some ((some 148),false)⟩,⟨some 153,.move (.tmp 9),some ((some 152),true)⟩,⟨some 154,.unOp .not 4 (.tmp 153),some ((some 152),true)⟩,⟨some 155,.pick (.tmp 152) (.tmp 154) (.const (.bool false)),some ((some 148),false)⟩,⟨some 156,.binOp .neq 4 (.tmp 150) (.tmp 155) 4,some ((some 148),false)⟩,zO 157 (.pick (.tmp 148) (.const (.bool true)) (.tmp 156))]
instance : Live zbq := ⟨[3,4,5,7,8,9,11,13,15]⟩
def zbp : List SOp := [zO 6 (.assign (.const (.bool false)))]
instance : Live zbp := ⟨[]⟩
def zbo : List SOp := [zL 159 31 3,zL 160 31 4,zO 161 (.call ⟨.value (.func 25),#[.tmp 159,.tmp 160],#[31,31]⟩),zM 158 161,zX 162 158 0,zX 163 158 1,zO 17 (.alloc 31),⟨none,.store 31 (.tmp 17) (.tmp 162),none⟩,zG 18 163]
instance : Live zbo := ⟨[3,4,5,13,15]⟩
def zbn : List SOp := [zM 164 18,zO 165 (.binOp .neq 32 (.tmp 164) (.const (.int .i64 0)) 32)]
instance : Live zbn := ⟨[3,4,5,13,15,17,18]⟩
def zbm : List SOp := [zO 6 (.assign (.const (.bool false)))]
instance : Live zbm := ⟨[]⟩
def zbl : List SOp := [zL 167 31 3,zL 168 31 17,zO 169 (.call ⟨.value (.func 31),#[.tmp 167,.tmp 168],#[31,31]⟩),zM 166 169,zX 170 166 0,zX 171 166 1,zG 19 170,zG 10 171]
instance : Live zbl := ⟨[3,4,5,13,15,17]⟩
def zbk : List SOp := [zL 173 31 4,zL 174 31 17,zO 175 (.call ⟨.value (.func 31),#[.tmp 173,.tmp 174],#[31,31]⟩),zM 172 175,zX 176 172 0,zX 177 172 1,zG 20 176,zG 12 177]
instance : Live zbk := ⟨[4,5,10,13,15,17,19]⟩
def zbj : List SOp := [zM 178 10,zO 179 (.binOp .neq 32 (.tmp 178) (.const (.int .i64 0)) 32),zM 180 179,⟨some 181,.move (.tmp 12),some ((some 180),false)⟩,⟨some 182,.binOp .neq 32 (.tmp 181) (.const (.int .i64 0)) 32,some ((some 180),false)⟩,zO 183 (.pick (.tmp 180) (.const (.bool true)) (.tmp 182)),zM 184 183,⟨some 185,.move (.tmp 19),some ((some 184),false)⟩,⟨some 186,.unOp .not 4 (.tmp 185),some ((some 184),false)⟩,zO 187 (.pick (.tmp 184) (.const (.bool true)) (.tmp 186)),zM 188 187,⟨some 189,.move (.tmp 20),some ((some 188),false)⟩,⟨some 190,.unOp .not 4 (.tmp 189),some ((some 188),false)⟩,zO 191 (.pick (.tmp 188) (.const (.bool true)) (.tmp 190))]
instance : Live zbj := ⟨[5,10,12,13,15,17,19,20]⟩
def zbi : List SOp := [zO 6 (.assign (.const (.bool false)))]
instance : Live zbi := ⟨[]⟩
def zbh : List SOp := [zM 192 15,zM 193 192,⟨some 194,.move (.tmp 13),some ((some 193),true)⟩,zO 195 (.pick (.tmp 193) (.tmp 194) (.const (.bool false)))]
instance : Live zbh := ⟨[5,13,15,17]⟩
def zbg : List SOp := [zL 197 31 17,zL 198 31 5,zO 199 (.call ⟨.value (.func 31),#[.tmp 197,.tmp 198],#[31,31]⟩),zM 196 199,zX 200 196 0,zX 201 196 1,zG 21 200,zG 22 201]
instance : Live zbg := ⟨[5,17]⟩
def zbf : List SOp := [zM 202 22,zO 203 (.binOp .eql 32 (.tmp 202) (.const (.int .i64 0)) 32),zM 204 203,⟨some 205,.move (.tmp 21),some ((some 204),true)⟩,zO 206 (.pick (.tmp 204) (.tmp 205) (.const (.bool false))),zG 6 206]
instance : Live zbf := ⟨[21,22]⟩
def zbe : List SOp := [zO 6 (.assign (.const (.bool true)))]
instance : Live zbe := ⟨[]⟩
def t_k9 : SC :=
 (.seq (.ops false r_k9_1) (.seq (.ops false r_k9_2) (.seq (.seq (.ops false r_k9_3) (.cond (.tmp 34) (.seq (.ops false r_k9_4) .ret) .skip)) (.seq (.seq (.ops false r_k9_5) (.cond (.tmp 62) (.seq (.ops false r_k9_6) .ret) .skip)) (.seq (.ops false r_k9_7) (.seq (.ops false r_k9_8) (.seq (.ops false r_k9_9) (.seq (.ops false zbw) (.seq (.seq (.ops false zbv) (.cond (.tmp 100) (.seq (.ops false zbu) .ret) .skip)) (.seq (.seq (.ops false zbt) (.cond (.tmp 120) (.seq (.ops false zbs) .ret) .skip)) (.seq (.ops false zbr) (.seq (.seq (.ops false zbq) (.cond (.tmp 157) (.seq (.ops false zbp) .ret) .skip)) (.seq (.ops false zbo) (.seq (.seq (.ops false zbn) (.cond (.tmp 165) (.seq (.ops false zbm) .ret) .skip)) (.seq (.ops false zbl) (.seq (.ops false zbk) (.seq (.seq (.ops false zbj) (.cond (.tmp 191) (.seq (.ops false zbi) .ret) .skip)) (.seq (.seq (.ops false zbh) (.cond (.tmp 195) (.seq (.ops false zbg) (.seq (.ops false zbf) .ret)) .skip)) (.seq (.ops false zbe) .ret)))))))))))))))))))
theorem it_k9 : FnIs Tryz.prog 9 207 [.tmp 6] t_k9 := ⟨Tryz.f9, _, Tryz.func9, rfl, rfl, rfl, rfl, by kernel_rfl⟩

theorem z6t : q83 q7c a1S = 0 ∧ ordE q7c a1S = 2 := by
 have h0 : q83 q7c a1S = 0 := by rw [qdr]; exact err_gone
 refine ⟨h0, ?_⟩
 unfold ordE
 rw [if_pos h0, z95, qqn, q19 (show ¬ (⟨[], a1P, []⟩ : Swt) = a1S from fun h => by have := congrArg Swt.live h; cases this), if_neg (by decide), q3d (show (⟨[], a1P, []⟩ : Swt) = q7c from rfl), if_pos rfl]
theorem ev_k9 (a b c : Swt) (hw : wtS a + wtS b + wtS c ≤ 1900000) : Ev (En Tryz.prog rfl).P 9 [q34 a, q34 b, q34 c] (.ret (.bool true)) := by
 refine Ev.of_body it_k9 (by simp) (Run.start ?_)
 unfold t_k9
 have hS := qjl
 have hca := qb6 a.live a.past.vec a.past.cloud a.defer
 have hcb := qb6 b.live b.past.vec b.past.cloud b.defer
 have hcc := qb6 c.live c.past.vec c.past.cloud c.defer
 have k1 := ev_k34
 have k2 := ev_k14
 have k3 := ev_k33 q7c a1S (by decide) (by decide)
 rw [z6t.1, z6t.2] at k3
 have f1 := zka a (by omega)
 have f2 := zka b (by omega)
 have f3 := zka c (by omega)
 by_cases h1 : FormS a
 case' neg =>
  rw [q8z h1] at f1
  unfold q34 at f1 f2 f3 ⊢
  (have hF := (aI @hca (aI @hcb @hcc)); refine q01 (k:=?_); clear hF)
  refine q00 [] (he := k1) (k:=?_)
  (have hF := (aI @hca (aI @hcb @hcc)); refine q01 (k:=?_); clear hF)
  refine q00 [] (he := k2) (k:=?_)
  (have hF := (aI @hca (aI @hcb @hcc)); refine q01 (k:=?_); clear hF)
  refine q00 [q34 q7c, q34 a1S] (he := k3) (k:=?_)
  (have hF := (aI @hca (aI @hcb @hcc)); refine q01 (k:=?_); clear hF)
  refine q00 [_] (he := f1) (k:=?_)
  (have hF := (aI @hca (aI @hcb @hcc)); refine q01 (k:=?_); clear hF)
  exact Fin.tmp' rfl rfl
 rw [q82 h1] at f1
 by_cases h2 : FormS b
 case' neg =>
  rw [q8z h2] at f2
  unfold q34 at f1 f2 f3 ⊢
  (have hF := (aI @hca (aI @hcb @hcc)); refine q01 (k:=?_); clear hF)
  refine q00 [] (he := k1) (k:=?_)
  (have hF := (aI @hca (aI @hcb @hcc)); refine q01 (k:=?_); clear hF)
  refine q00 [] (he := k2) (k:=?_)
  (have hF := (aI @hca (aI @hcb @hcc)); refine q01 (k:=?_); clear hF)
  refine q00 [q34 q7c, q34 a1S] (he := k3) (k:=?_)
  (have hF := (aI @hca (aI @hcb @hcc)); refine q01 (k:=?_); clear hF)
  refine q00 [_] (he := f1) (k:=?_)
  (have hF := (aI @hca (aI @hcb @hcc)); refine q01 (k:=?_); clear hF)
  refine q00 [_] (he := f2) (k:=?_)
  (have hF := (aI @hca (aI @hcb @hcc)); refine q01 (k:=?_); clear hF)
  exact Fin.tmp' rfl rfl
 rw [q82 h2] at f2
 by_cases h3 : FormS c
 case' neg =>
  rw [q8z h3] at f3
  unfold q34 at f1 f2 f3 ⊢
  (have hF := (aI @hca (aI @hcb @hcc)); refine q01 (k:=?_); clear hF)
  refine q00 [] (he := k1) (k:=?_)
  (have hF := (aI @hca (aI @hcb @hcc)); refine q01 (k:=?_); clear hF)
  refine q00 [] (he := k2) (k:=?_)
  (have hF := (aI @hca (aI @hcb @hcc)); refine q01 (k:=?_); clear hF)
  refine q00 [q34 q7c, q34 a1S] (he := k3) (k:=?_)
  (have hF := (aI @hca (aI @hcb @hcc)); refine q01 (k:=?_); clear hF)
  refine q00 [_] (he := f1) (k:=?_)
  (have hF := (aI @hca (aI @hcb @hcc)); refine q01 (k:=?_); clear hF)
  refine q00 [_] (he := f2) (k:=?_)
  (have hF := (aI @hca (aI @hcb @hcc)); refine q01 (k:=?_); clear hF)
  refine q00 [_] (he := f3) (k:=?_)
  (have hF := (aI @hca (aI @hcb @hcc)); refine q01 (k:=?_); clear hF)
  exact Fin.tmp' rfl rfl
 rw [q82 h3] at f3
 have l1 := zk9 a b h1 (by omega) (by omega)
 have l2 := zk9 a c h1 (by omega) (by omega)
 have l3 := zk9 b c h2 (by omega) (by omega)
 by_cases n1 : NC a b
 case' neg =>
  rw [q9u (Classical.not_not.1 n1)] at l1
  unfold q34 at f1 f2 f3 l1 l2 l3 ⊢
  (have hF := (aI @hca (aI @hcb @hcc)); refine q01 (k:=?_); clear hF)
  refine q00 [] (he := k1) (k:=?_)
  (have hF := (aI @hca (aI @hcb @hcc)); refine q01 (k:=?_); clear hF)
  refine q00 [] (he := k2) (k:=?_)
  (have hF := (aI @hca (aI @hcb @hcc)); refine q01 (k:=?_); clear hF)
  refine q00 [q34 q7c, q34 a1S] (he := k3) (k:=?_)
  (have hF := (aI @hca (aI @hcb @hcc)); refine q01 (k:=?_); clear hF)
  refine q00 [_] (he := f1) (k:=?_)
  (have hF := (aI @hca (aI @hcb @hcc)); refine q01 (k:=?_); clear hF)
  refine q00 [_] (he := f2) (k:=?_)
  (have hF := (aI @hca (aI @hcb @hcc)); refine q01 (k:=?_); clear hF)
  refine q00 [_] (he := f3) (k:=?_)
  (have hF := (aI @hca (aI @hcb @hcc)); refine q01 (k:=?_); clear hF)
  refine q00 [_, _] (he := l1) (k:=?_)
  (have hF := (aI @hca (aI @hcb @hcc)); refine q01 (k:=?_); clear hF)
  exact Fin.tmp' rfl rfl
 rw [q89 n1] at l1
 by_cases n2 : NC a c
 case' neg =>
  rw [q9u (Classical.not_not.1 n2)] at l2
  unfold q34 at f1 f2 f3 l1 l2 l3 ⊢
  (have hF := (aI @hca (aI @hcb @hcc)); refine q01 (k:=?_); clear hF)
  refine q00 [] (he := k1) (k:=?_)
  (have hF := (aI @hca (aI @hcb @hcc)); refine q01 (k:=?_); clear hF)
  refine q00 [] (he := k2) (k:=?_)
  (have hF := (aI @hca (aI @hcb @hcc)); refine q01 (k:=?_); clear hF)
  refine q00 [q34 q7c, q34 a1S] (he := k3) (k:=?_)
  (have hF := (aI @hca (aI @hcb @hcc)); refine q01 (k:=?_); clear hF)
  refine q00 [_] (he := f1) (k:=?_)
  (have hF := (aI @hca (aI @hcb @hcc)); refine q01 (k:=?_); clear hF)
  refine q00 [_] (he := f2) (k:=?_)
  (have hF := (aI @hca (aI @hcb @hcc)); refine q01 (k:=?_); clear hF)
  refine q00 [_] (he := f3) (k:=?_)
  (have hF := (aI @hca (aI @hcb @hcc)); refine q01 (k:=?_); clear hF)
  refine q00 [_, _] (he := l1) (k:=?_)
  (have hF := (aI @hca (aI @hcb @hcc)); refine q01 (k:=?_); clear hF)
  refine q00 [_, _] (he := l2) (k:=?_)
  (have hF := (aI @hca (aI @hcb @hcc)); refine q01 (k:=?_); clear hF)
  exact Fin.tmp' rfl rfl
 rw [q89 n2] at l2
 by_cases n3 : NC b c
 case' neg =>
  rw [q9u (Classical.not_not.1 n3)] at l3
  unfold q34 at f1 f2 f3 l1 l2 l3 ⊢
  (have hF := (aI @hca (aI @hcb @hcc)); refine q01 (k:=?_); clear hF)
  refine q00 [] (he := k1) (k:=?_)
  (have hF := (aI @hca (aI @hcb @hcc)); refine q01 (k:=?_); clear hF)
  refine q00 [] (he := k2) (k:=?_)
  (have hF := (aI @hca (aI @hcb @hcc)); refine q01 (k:=?_); clear hF)
  refine q00 [q34 q7c, q34 a1S] (he := k3) (k:=?_)
  (have hF := (aI @hca (aI @hcb @hcc)); refine q01 (k:=?_); clear hF)
  refine q00 [_] (he := f1) (k:=?_)
  (have hF := (aI @hca (aI @hcb @hcc)); refine q01 (k:=?_); clear hF)
  refine q00 [_] (he := f2) (k:=?_)
  (have hF := (aI @hca (aI @hcb @hcc)); refine q01 (k:=?_); clear hF)
  refine q00 [_] (he := f3) (k:=?_)
  (have hF := (aI @hca (aI @hcb @hcc)); refine q01 (k:=?_); clear hF)
  refine q00 [_, _] (he := l1) (k:=?_)
  (have hF := (aI @hca (aI @hcb @hcc)); refine q01 (k:=?_); clear hF)
  refine q00 [_, _] (he := l2) (k:=?_)
  (have hF := (aI @hca (aI @hcb @hcc)); refine q01 (k:=?_); clear hF)
  refine q00 [_, _] (he := l3) (k:=?_)
  (have hF := (aI @hca (aI @hcb @hcc)); refine q01 (k:=?_); clear hF)
  exact Fin.tmp' rfl rfl
 rw [q89 n3] at l3
 have ok1 := q6z h1 h2 n1
 have ok3 := q6z h2 h3 n3
 have ok2 := q6z h1 h3 n2
 have okb := q6z h2 h1 n1.symm
 have hs := zja h1 h2 n1
 have nsc := qqo h1 h2 n1 n2 n3
 have nas : NC a (q2w a b) := (qqo h1 h2 n1 (qd1 h1) n1.symm).symm
 have nbs : NC b (q2w a b) := (qqo h1 h2 n1 n1 (qd1 h2)).symm
 have ok4 := q6z h1 hs nas
 have ok5 := q6z h2 hs nbs
 have ok6 := q6z hs h3 nsc
 have w1 := qdo a b (by omega) (by omega)
 have w2 := qdo b a (by omega) (by omega)
 have w3 := qdo b c (by omega) (by omega)
 have w4 := qdo a c (by omega) (by omega)
 have o1 := ev_k33 a b (by omega) (by omega)
 have j1 := zkb a b (by omega) (by omega)
 have hjw := qh2 a b
 rw [ok1.2] at hjw
 have w5 := qdo a (q2w a b) (by omega) (by omega)
 have w6 := qdo b (q2w a b) (by omega) (by omega)
 have w7 := qdo (q2w a b) c (by omega) (by omega)
 have eab := qeo a b (by omega) (by omega)
 have wth : ∀ {x y : Swt}, q83 x y = 0 ∧ q4r x y = q2w x y → qbt x y = eqC (q2w x y) y := fun {x y} h => by
  unfold qbt
  rw [h.1, h.2, decide_eq_true rfl, Bool.true_and]
 have e5 : qbt a (q2w a b) = true := by
  rw [wth ok4, q3d]
  rw [← q81 h1 h1 h2 (qd1 h1) n1 n1, qok h1]
 have e6 : qbt b (q2w a b) = true := by
  rw [wth ok5, q3d]
  rw [qde h1 h2 n1, ← q81 h2 h2 h1 (qd1 h2) n1.symm n1.symm, qok h2]
 have hy : qbt b a = eqC (q2w a b) a := by rw [wth okb, ← qde h1 h2 n1]
 have ho : ordE a b = if qbt a b = true then (if qbt b a = true then 0 else 1) else (if qbt b a = true then 2 else 3) := by
  rw [hy, wth ok1]
  unfold ordE
  rw [if_pos ok1.1, ok1.2]
 have H1 : qbt a b = true → qbt b c = true → qbt a c = true := by
  rw [wth ok1, wth ok3, wth ok2, q72, q72, q72]
  intro p q
  rw [← q, ← q81 h1 h2 h3 n1 n2 n3, p, q]
 have H2 : qbt a b = true → qbt b a = true → eqC a b = true := by
  rw [wth ok1, hy, q72, q72, q72]
  intro p q
  rw [← q, p]
 have H3 : qbt a c = true → qbt b c = true → qbt (q2w a b) c = true := by
  rw [wth ok6, wth ok3, wth ok2, q72, q72, q72]
  intro p q
  rw [q81 h1 h2 h3 n1 n2 n3, q, p]
 rw [ok1.1] at w1 o1 j1
 rw [ok1.2] at j1
 rw [okb.1] at w2
 rw [ok3.1] at w3
 rw [ok2.1] at w4
 rw [ok4.1, e5] at w5
 rw [ok5.1, e6] at w6
 rw [ok6.1] at w7
 rw [ho] at o1
 clear wth hy ho e5 e6
 generalize q2w a b = s at *
 have hcs := qb6 s.live s.past.vec s.past.cloud s.defer
 generalize qbt a b = x at *
 generalize qbt b a = y at *
 generalize qbt b c = z at *
 generalize qbt a c = u at *
 generalize qbt s c = v at *
 generalize eqC a b = q at *
 unfold q34 at f1 f2 f3 l1 l2 l3 w1 w2 w3 w4 w5 w6 w7 o1 j1 eab ⊢
 (have hF := (aI @hca (aI @hcb @hcc)); refine q01 (k:=?_); clear hF)
 refine q00 [] (he := k1) (k:=?_)
 (have hF := (aI @hca (aI @hcb @hcc)); refine q01 (k:=?_); clear hF)
 refine q00 [] (he := k2) (k:=?_)
 (have hF := (aI @hca (aI @hcb @hcc)); refine q01 (k:=?_); clear hF)
 refine q00 [q34 q7c, q34 a1S] (he := k3) (k:=?_)
 (have hF := (aI @hca (aI @hcb @hcc)); refine q01 (k:=?_); clear hF)
 refine q00 [_] (he := f1) (k:=?_)
 (have hF := (aI @hca (aI @hcb @hcc)); refine q01 (k:=?_); clear hF)
 refine q00 [_] (he := f2) (k:=?_)
 (have hF := (aI @hca (aI @hcb @hcc)); refine q01 (k:=?_); clear hF)
 refine q00 [_] (he := f3) (k:=?_)
 (have hF := (aI @hca (aI @hcb @hcc)); refine q01 (k:=?_); clear hF)
 refine q00 [_, _] (he := l1) (k:=?_)
 (have hF := (aI @hca (aI @hcb @hcc)); refine q01 (k:=?_); clear hF)
 refine q00 [_, _] (he := l2) (k:=?_)
 (have hF := (aI @hca (aI @hcb @hcc)); refine q01 (k:=?_); clear hF)
 refine q00 [_, _] (he := l3) (k:=?_)
 (have hF := (aI @hca (aI @hcb @hcc)); refine q01 (k:=?_); clear hF)
 refine q00 [_, _] (he := w1) (k:=?_)
 (have hF := (aI @hca (aI @hcb @hcc)); refine q01 (k:=?_); clear hF)
 refine q00 [_, _] (he := w2) (k:=?_)
 (have hF := (aI @hca (aI @hcb @hcc)); refine q01 (k:=?_); clear hF)
 refine q00 [_, _] (he := w3) (k:=?_)
 (have hF := (aI @hca (aI @hcb @hcc)); refine q01 (k:=?_); clear hF)
 refine q00 [_, _] (he := w4) (k:=?_)
 cases x <;> cases y <;> cases z <;> cases u
 all_goals first | exact absurd (H1 rfl rfl) (by decide) | skip
 all_goals try rw [H2 rfl rfl] at eab
 all_goals try rw [H3 rfl rfl] at w7
 all_goals simp only [↓reduceIte, Bool.false_eq_true] at o1
 all_goals
  (have hF := (aI @hca (aI @hcb @hcc)); refine q01 (k:=?_); clear hF)
  try
   (refine q00 [_, _] (he := eab) (k:=?_)
    (have hF := (aI @hca (aI @hcb @hcc)); refine q01 (k:=?_); clear hF))
  refine q00 [_, _] (he := o1) (k:=?_)
  (have hF := (aI @hca (aI @hcb @hcc)); refine q01 (k:=?_); clear hF)
  refine q00 [_, _] (he := j1) (k:=?_)
  (have hF := (aI (aI @hca @hcb) (aI @hcc @hcs)); refine q01 (k:=?_); clear hF)
  refine q00 [_, _] (he := w5) (k:=?_)
  (have hF := (aI (aI @hca @hcb) (aI @hcc @hcs)); refine q01 (k:=?_); clear hF)
  refine q00 [_, _] (he := w6) (k:=?_)
  (have hF := (aI (aI @hca @hcb) (aI @hcc @hcs)); refine q01 (k:=?_); clear hF)
  try
   (refine q00 [_, _] (he := w7) (k:=?_)
    (have hF := (aI (aI @hca @hcb) (aI @hcc @hcs)); refine q01 (k:=?_); clear hF))
  exact Fin.tmp' rfl rfl

end Go.Proofs.YthejoeiecenjkaaGreat.Avm
