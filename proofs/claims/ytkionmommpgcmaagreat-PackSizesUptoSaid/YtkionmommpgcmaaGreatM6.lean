/- Part 6 of the proof: lemmas. -/
import Derived.Test.YtkionmommpgcmaaGreatM5
import Derived.Test.YtkionmommpgcmaaGreatProg
import Derived.KernelRfl
set_option maxRecDepth 100000
set_option maxHeartbeats 4000000
set_option linter.unusedVariables false
set_option linter.unusedSimpArgs false
set_option linter.unusedSectionVars false
set_option linter.defProp false
namespace Go.Proofs.YtkionmommpgcmaaGreat.Avm
open Go.Proofs
theorem hook_cmp {P : Program} {f : FuncId} {fn : Func} (hf : P.funcs[f]? = some fn) (h1 : (fn.name = "runtime.NumGoroutine") = False) (h2 : (fn.body = none) = True) (h3 : Extern.findNext fn = none) (h4 : Extern.find fn = some Extern.BytealgCompare.compare) {s : AS} {x y : Operand} {ts : Array TypeId} {a b : ByteArray} (hx : ev s.T x = .str a) (hy : ev s.T y = .str b) :
 Hook P s (.call ⟨.value (.func f), #[x, y], ts⟩) (fun v M' => M' = s.M ∧ v = .int .i64 (qmk a b)) := by
 intro n B G act w hR o ho K Q hK
 have q1 := hR.ev x
 have q2 := hR.ev y
 rw [hx] at q1
 rw [hy] at q2
 generalize hxv : act.eval x = xv at q1
 generalize hyv : act.eval y = yv at q2
 cases q1
 cases q2
 have hrun : (execOp act.eval o).run P w = .ok (.value (.int .i64 (qmk a b))) w := by
  unfold execOp
  rw [ho]
  have hc := Go.Lib.run_compareString (P := P) a b w
  rw [qa9] at hc
  have hf0 : act.eval (.func f) = .func (.func f) #[] #[] := rfl
  simp [resolve, Deferred.ofValue, invoke, callFunc, hf, hf0, h1, h2, h3, h4, hxv, hyv, hc, Result.andThen, qmk, bs]
 unfold Oper.wp
 rw [hrun]
 exact hK (.int .i64 (qmk a b)) _ s.M w G ⟨rfl, rfl⟩ (.refl G w) hR (.int _ _)
theorem ev_k145 (a b : ByteArray) : Ev (En Tryz.prog rfl).P 145 [.str a, .str b] (.ret (.int .i64 (qmk a b))) := by
 refine Ev.of_body it_k145 (by simp) (Run.start ?_)
 unfold t_k145
 (focus (have hF := True.intro; (repeat' (first | refine go1 (k:=?_) | with_reducible refine Ny.of ?_ ?_ | (refine Hyp.of ?_; intro hc; (try simp only [hc]); (try simp only [Bh] at hc)))); all_goals clear hF))
 refine q1z (hook_cmp (f := 156) (fn := Tryz.f156) Tryz.func156 (eq_false (by decide)) (eq_true rfl) rfl rfl rfl rfl) ?_
 rintro v M' ⟨rfl, rfl⟩
 dsimp only [AS.put]
 (focus (have hF := True.intro; (repeat' (first | refine go1 (k:=?_) | with_reducible refine Ny.of ?_ ?_ | (refine Hyp.of ?_; intro hc; (try simp only [hc]); (try simp only [Bh] at hc)))); all_goals clear hF))
 exact Fin.tmp' rfl rfl
theorem ev_k128 (a b : ByteArray) : Ev (En Tryz.prog rfl).P 128 [.str a, .str b] (.ret (.int .i64 (qmk a b))) := by
 refine Ev.of_body it_k128 (by simp) (Run.start ?_)
 unfold t_k128
 (focus (have hF := True.intro; (repeat' (first | refine go1 (k:=?_) | with_reducible refine Ny.of ?_ ?_ | (refine Hyp.of ?_; intro hc; (try simp only [hc]); (try simp only [Bh] at hc)))); all_goals clear hF))
 refine q01 [.str a, .str b] (he := ev_k145 a b) (k:=?_)
 (focus (have hF := True.intro; (repeat' (first | refine go1 (k:=?_) | with_reducible refine Ny.of ?_ ?_ | (refine Hyp.of ?_; intro hc; (try simp only [hc]); (try simp only [Bh] at hc)))); all_goals clear hF))
 exact Fin.tmp' rfl rfl
theorem ev_k101 (a b : Rec) (ha : wt a.past ≤ 50000000) (hb : wt b.past ≤ 50000000) : Ev (En Tryz.prog rfl).P 101 [qcs a, qcs b] (.ret (.int .i64 (qlw a b))) := by
 refine Ev.of_body it_k101 (by simp) (Run.start ?_)
 unfold t_k101 qcs qlw
 have c1 := ev_k128 a.sku b.sku
 have c2 := ev_k129 a.past b.past ha hb
 generalize qmk a.sku b.sku = v at c1 ⊢
 (focus (have hF := True.intro; (repeat' (first | refine go1 (k:=?_) | with_reducible refine Ny.of ?_ ?_ | (refine Hyp.of ?_; intro hc; (try simp only [hc]); (try simp only [Bh] at hc)))); all_goals clear hF))
 refine q01 [.str a.sku, .str b.sku] (he := c1) (k:=?_)
 by_cases h : v = 0
 ·rw [if_pos h]
  (focus (have hF := @h; (repeat' (first | refine go1 (k:=?_) | with_reducible refine Ny.of ?_ ?_ | (refine Hyp.of ?_; intro hc; (try simp only [hc]); (try simp only [Bh] at hc)))); all_goals clear hF))
  refine q01 [q17 a.past, q17 b.past] (he := c2) (k:=?_)
  (focus (have hF := True.intro; (repeat' (first | refine go1 (k:=?_) | with_reducible refine Ny.of ?_ ?_ | (refine Hyp.of ?_; intro hc; (try simp only [hc]); (try simp only [Bh] at hc)))); all_goals clear hF))
  exact Fin.tmp' rfl rfl
 ·rw [if_neg h]
  (focus (have hF := True.intro; (repeat' (first | refine go1 (k:=?_) | with_reducible refine Ny.of ?_ ?_ | (refine Hyp.of ?_; intro hc; (try simp only [hc]); (try simp only [Bh] at hc)))); all_goals clear hF))
  exact Fin.tmp' rfl rfl
theorem ev_k64 (a b : Rec) (ha : wt a.past ≤ 30000000) (hb : wt b.past ≤ 30000000) : Ev (En Tryz.prog rfl).P 64 [qcs a, qcs b] (.ret (.int .i64 (qlw a b))) := by
 refine Ev.of_body it_k64 (by simp) (Run.start ?_)
 unfold t_k64 qcs qlw
 have c2 := ev_k110 a.past b.past ha hb
 have h1 := zdp a.sku b.sku
 have hr : qmk a.sku b.sku = -1 ∨ qmk a.sku b.sku = 0 ∨ qmk a.sku b.sku = 1 := qe1 _ _
 have h0 : (a.sku = b.sku) = (qmk a.sku b.sku = 0) := propext zdo.symm
 generalize qmk a.sku b.sku = v at *
 rcases hr with rfl | rfl | rfl
 ·rw [if_neg (by decide)]
  rw [show decide ((-1 : Int) < 0) = true by decide] at h1
  (focus (have hF := @h1; (repeat' (first | refine go1 (k:=?_) | with_reducible refine Ny.of ?_ ?_ | (refine Hyp.of ?_; intro hc; (try simp only [hc]); (try simp only [Bh] at hc)))); all_goals clear hF))
  exact Fin.tmp' rfl rfl
 ·rw [if_pos rfl]
  rw [show decide ((0 : Int) < 0) = false by decide] at h1
  rw [show ((0 : Int) = 0) = True by simp] at h0
  (focus (have hF := (aI (aI @h1 (aI @h0 @Bool.not_true)) (aI @Bool.or_true (aI @Bool.false_or @decide_true))); (repeat' (first | refine go1 (k:=?_) | with_reducible refine Ny.of ?_ ?_ | (refine Hyp.of ?_; intro hc; (try simp only [hc]); (try simp only [Bh] at hc)))); all_goals clear hF))
  refine q01 [q17 a.past, q17 b.past] (he := c2) (k:=?_)
  (focus (have hF := True.intro; (repeat' (first | refine go1 (k:=?_) | with_reducible refine Ny.of ?_ ?_ | (refine Hyp.of ?_; intro hc; (try simp only [hc]); (try simp only [Bh] at hc)))); all_goals clear hF))
  exact Fin.tmp' rfl rfl
 ·rw [if_neg (by decide)]
  rw [show decide ((1 : Int) < 0) = false by decide] at h1
  rw [show ((1 : Int) = 0) = False by simp] at h0
  (focus (have hF := (aI (aI @h1 @h0) (aI @Bool.not_false (aI @Bool.or_false @decide_false))); (repeat' (first | refine go1 (k:=?_) | with_reducible refine Ny.of ?_ ?_ | (refine Hyp.of ?_; intro hc; (try simp only [hc]); (try simp only [Bh] at hc)))); all_goals clear hF))
  exact Fin.tmp' rfl rfl
theorem ql3 (p : Pst) : qey p (q0r p) = q0u p := by
 refine bool_eq ?_
 rw [q2v]
 constructor
 ·intro h
  have : ∀ a b : Pst, a.vec = b.vec → a.cloud = b.cloud → a = b := fun a b u v => by cases a; cases b; simp at u v; rw [u, v]
  have h' := of_decide_eq_true h
  exact (this _ _ h'.1 h'.2).symm
 ·intro h
  have h' : q0r p = p := h
  rw [h']
  exact q6x ⟨rfl, rfl⟩
theorem ev_k22 (p : Pst) (hw : wt p ≤ 30000000) : Ev (En Tryz.prog rfl).P 22 [q17 p] (.ret (.bool (q0u p))) := by
 have c1 := qle p (by omega)
 have w := q4v p
 have c2 := zda p (q0r p) (by unfold wt at *; omega) (by unfold wt at *; omega)
 rw [ql3] at c2
 refine Ev.of_body it_k22 (by simp) (Run.start ?_)
 unfold t_k22 q17
 (focus (have hF := True.intro; (repeat' (first | refine go1 (k:=?_) | with_reducible refine Ny.of ?_ ?_ | (refine Hyp.of ?_; intro hc; (try simp only [hc]); (try simp only [Bh] at hc)))); all_goals clear hF))
 refine q01 [q17 p] (he := c1) (k:=?_)
 (focus (have hF := True.intro; (repeat' (first | refine go1 (k:=?_) | with_reducible refine Ny.of ?_ ?_ | (refine Hyp.of ?_; intro hc; (try simp only [hc]); (try simp only [Bh] at hc)))); all_goals clear hF))
 refine q01 [q17 p, q17 (q0r p)] (he := c2) (k:=?_)
 (focus (have hF := True.intro; (repeat' (first | refine go1 (k:=?_) | with_reducible refine Ny.of ?_ ?_ | (refine Hyp.of ?_; intro hc; (try simp only [hc]); (try simp only [Bh] at hc)))); all_goals clear hF))
 exact Fin.tmp' rfl rfl
theorem z2k (s : ByteArray) : (s = (⟨#[]⟩ : ByteArray)) = (s.size = 0) := propext qbj
theorem ev_k100 (r : Rec) (hw : wt r.past ≤ 40000000) : Ev (En Tryz.prog rfl).P 100 [qcs r] (.ret (.int .i64 (q46 r))) := by
 refine Ev.of_body it_k100 (by simp) (Run.start ?_)
 unfold t_k100 qcs q46
 have c1 := zdc r.sku
 have c2 := zd3 r.past hw
 have c3 := ev_k127 r.past (by omega)
 have e := z2k r.sku
 generalize q6k r.sku = v1 at c1 ⊢
 generalize q0u r.past = v2 at c2 ⊢
 generalize q88 r.past = v3 at c3 ⊢
 have tail : ∀ (X : Prop), X → X := fun _ x => x
 by_cases h0 : r.sku.size = 0
 ·have h0' : (r.sku.size = 0) = True := eq_true h0
  simp only [h0', not_true_eq_false, false_and, if_false]
  rw [h0'] at e
  (focus (have hF := (aI @e (aI @decide_true @Bool.not_true)); (repeat' (first | refine go1 (k:=?_) | with_reducible refine Ny.of ?_ ?_ | (refine Hyp.of ?_; intro hc; (try simp only [hc]); (try simp only [Bh] at hc)))); all_goals clear hF))
  refine q01 [q17 r.past] (he := c2) (k:=?_)
  cases v2
  ·(focus (have hF := True.intro; (repeat' (first | refine go1 (k:=?_) | with_reducible refine Ny.of ?_ ?_ | (refine Hyp.of ?_; intro hc; (try simp only [hc]); (try simp only [Bh] at hc)))); all_goals clear hF))
   exact Fin.tmp' rfl rfl
  ·(focus (have hF := True.intro; (repeat' (first | refine go1 (k:=?_) | with_reducible refine Ny.of ?_ ?_ | (refine Hyp.of ?_; intro hc; (try simp only [hc]); (try simp only [Bh] at hc)))); all_goals clear hF))
   refine q01 [q17 r.past] (he := c3) (k:=?_)
   by_cases h3 : v3 = 0
   ·(focus (have hF := @h3; (repeat' (first | refine go1 (k:=?_) | with_reducible refine Ny.of ?_ ?_ | (refine Hyp.of ?_; intro hc; (try simp only [hc]); (try simp only [Bh] at hc)))); all_goals clear hF))
    simp only [h3, or_true, if_true]
    exact Fin.tmp' rfl rfl
   ·(focus (have hF := @h3; (repeat' (first | refine go1 (k:=?_) | with_reducible refine Ny.of ?_ ?_ | (refine Hyp.of ?_; intro hc; (try simp only [hc]); (try simp only [Bh] at hc)))); all_goals clear hF))
    simp only [h3, reduceCtorEq, or_false, if_false]
    exact Fin.tmp' rfl rfl
 ·have h0' : (r.sku.size = 0) = False := eq_false h0
  rw [h0'] at e
  simp only [h0', not_false_eq_true, true_and]
  (focus (have hF := (aI @e (aI @decide_false @Bool.not_false)); (repeat' (first | refine go1 (k:=?_) | with_reducible refine Ny.of ?_ ?_ | (refine Hyp.of ?_; intro hc; (try simp only [hc]); (try simp only [Bh] at hc)))); all_goals clear hF))
  refine q01 [.str r.sku] (he := c1) (k:=?_)
  cases v1
  ·(focus (have hF := True.intro; (repeat' (first | refine go1 (k:=?_) | with_reducible refine Ny.of ?_ ?_ | (refine Hyp.of ?_; intro hc; (try simp only [hc]); (try simp only [Bh] at hc)))); all_goals clear hF))
   exact Fin.tmp' rfl rfl
  ·(focus (have hF := True.intro; (repeat' (first | refine go1 (k:=?_) | with_reducible refine Ny.of ?_ ?_ | (refine Hyp.of ?_; intro hc; (try simp only [hc]); (try simp only [Bh] at hc)))); all_goals clear hF))
   refine q01 [q17 r.past] (he := c2) (k:=?_)
   cases v2
   ·(focus (have hF := True.intro; (repeat' (first | refine go1 (k:=?_) | with_reducible refine Ny.of ?_ ?_ | (refine Hyp.of ?_; intro hc; (try simp only [hc]); (try simp only [Bh] at hc)))); all_goals clear hF))
    exact Fin.tmp' rfl rfl
   ·(focus (have hF := True.intro; (repeat' (first | refine go1 (k:=?_) | with_reducible refine Ny.of ?_ ?_ | (refine Hyp.of ?_; intro hc; (try simp only [hc]); (try simp only [Bh] at hc)))); all_goals clear hF))
    refine q01 [q17 r.past] (he := c3) (k:=?_)
    by_cases h3 : v3 = 0
    ·(focus (have hF := @h3; (repeat' (first | refine go1 (k:=?_) | with_reducible refine Ny.of ?_ ?_ | (refine Hyp.of ?_; intro hc; (try simp only [hc]); (try simp only [Bh] at hc)))); all_goals clear hF))
     simp only [h3, or_true, if_true, reduceCtorEq, if_false]
     exact Fin.tmp' rfl rfl
    ·(focus (have hF := @h3; (repeat' (first | refine go1 (k:=?_) | with_reducible refine Ny.of ?_ ?_ | (refine Hyp.of ?_; intro hc; (try simp only [hc]); (try simp only [Bh] at hc)))); all_goals clear hF))
     simp only [h3, reduceCtorEq, or_false, if_false]
     exact Fin.tmp' rfl rfl
theorem ev_k63 (r : Rec) (hw : wt r.past ≤ 30000000) : Ev (En Tryz.prog rfl).P 63 [qcs r] (.ret (.int .i64 (q46 r))) := by
 refine Ev.of_body it_k63 (by simp) (Run.start ?_)
 unfold t_k63 qcs q46
 have c1 := ev_k52 r.sku
 have c2 := ev_k22 r.past (by omega)
 have c3 := ev_k109 r.past (by omega)
 have e := z2k r.sku
 generalize q6k r.sku = v1 at c1 ⊢
 generalize q0u r.past = v2 at c2 ⊢
 generalize q88 r.past = v3 at c3 ⊢
 have tail : ∀ (X : Prop), X → X := fun _ x => x
 by_cases h0 : r.sku.size = 0
 ·have h0' : (r.sku.size = 0) = True := eq_true h0
  simp only [h0', not_true_eq_false, false_and, if_false]
  rw [h0'] at e
  (focus (have hF := (aI @e (aI @decide_true @Bool.not_true)); (repeat' (first | refine go1 (k:=?_) | with_reducible refine Ny.of ?_ ?_ | (refine Hyp.of ?_; intro hc; (try simp only [hc]); (try simp only [Bh] at hc)))); all_goals clear hF))
  refine q01 [q17 r.past] (he := c2) (k:=?_)
  cases v2
  ·(focus (have hF := True.intro; (repeat' (first | refine go1 (k:=?_) | with_reducible refine Ny.of ?_ ?_ | (refine Hyp.of ?_; intro hc; (try simp only [hc]); (try simp only [Bh] at hc)))); all_goals clear hF))
   exact Fin.tmp' rfl rfl
  ·(focus (have hF := True.intro; (repeat' (first | refine go1 (k:=?_) | with_reducible refine Ny.of ?_ ?_ | (refine Hyp.of ?_; intro hc; (try simp only [hc]); (try simp only [Bh] at hc)))); all_goals clear hF))
   refine q01 [q17 r.past] (he := c3) (k:=?_)
   by_cases h3 : v3 = 0
   ·(focus (have hF := @h3; (repeat' (first | refine go1 (k:=?_) | with_reducible refine Ny.of ?_ ?_ | (refine Hyp.of ?_; intro hc; (try simp only [hc]); (try simp only [Bh] at hc)))); all_goals clear hF))
    simp only [h3, or_true, if_true]
    exact Fin.tmp' rfl rfl
   ·(focus (have hF := @h3; (repeat' (first | refine go1 (k:=?_) | with_reducible refine Ny.of ?_ ?_ | (refine Hyp.of ?_; intro hc; (try simp only [hc]); (try simp only [Bh] at hc)))); all_goals clear hF))
    simp only [h3, reduceCtorEq, or_false, if_false]
    exact Fin.tmp' rfl rfl
 ·have h0' : (r.sku.size = 0) = False := eq_false h0
  rw [h0'] at e
  simp only [h0', not_false_eq_true, true_and]
  (focus (have hF := (aI @e (aI @decide_false @Bool.not_false)); (repeat' (first | refine go1 (k:=?_) | with_reducible refine Ny.of ?_ ?_ | (refine Hyp.of ?_; intro hc; (try simp only [hc]); (try simp only [Bh] at hc)))); all_goals clear hF))
  refine q01 [.str r.sku] (he := c1) (k:=?_)
  cases v1
  ·(focus (have hF := True.intro; (repeat' (first | refine go1 (k:=?_) | with_reducible refine Ny.of ?_ ?_ | (refine Hyp.of ?_; intro hc; (try simp only [hc]); (try simp only [Bh] at hc)))); all_goals clear hF))
   exact Fin.tmp' rfl rfl
  ·(focus (have hF := True.intro; (repeat' (first | refine go1 (k:=?_) | with_reducible refine Ny.of ?_ ?_ | (refine Hyp.of ?_; intro hc; (try simp only [hc]); (try simp only [Bh] at hc)))); all_goals clear hF))
   refine q01 [q17 r.past] (he := c2) (k:=?_)
   cases v2
   ·(focus (have hF := True.intro; (repeat' (first | refine go1 (k:=?_) | with_reducible refine Ny.of ?_ ?_ | (refine Hyp.of ?_; intro hc; (try simp only [hc]); (try simp only [Bh] at hc)))); all_goals clear hF))
    exact Fin.tmp' rfl rfl
   ·(focus (have hF := True.intro; (repeat' (first | refine go1 (k:=?_) | with_reducible refine Ny.of ?_ ?_ | (refine Hyp.of ?_; intro hc; (try simp only [hc]); (try simp only [Bh] at hc)))); all_goals clear hF))
    refine q01 [q17 r.past] (he := c3) (k:=?_)
    by_cases h3 : v3 = 0
    ·(focus (have hF := @h3; (repeat' (first | refine go1 (k:=?_) | with_reducible refine Ny.of ?_ ?_ | (refine Hyp.of ?_; intro hc; (try simp only [hc]); (try simp only [Bh] at hc)))); all_goals clear hF))
     simp only [h3, or_true, if_true, reduceCtorEq, if_false]
     exact Fin.tmp' rfl rfl
    ·(focus (have hF := @h3; (repeat' (first | refine go1 (k:=?_) | with_reducible refine Ny.of ?_ ?_ | (refine Hyp.of ?_; intro hc; (try simp only [hc]); (try simp only [Bh] at hc)))); all_goals clear hF))
     simp only [h3, reduceCtorEq, or_false, if_false]
     exact Fin.tmp' rfl rfl
theorem qe4 {l : List Rec} {i : Nat} {r : Rec} (hr : l[i]? = some r) (hI : (∀ (j : Nat) q, j < i → l[j]? = some q → q46 q = 0) ∧ ∀ (j : Nat) a b, j + 1 < i → l[j]? = some a → l[j + 1]? = some b → qlw a b < 0) (h0 : q46 r = 0)
 (h1 : ∀ q, 0 < i → l[i - 1]? = some q → qlw q r < 0) : (∀ (j : Nat) q, j < i + 1 → l[j]? = some q → q46 q = 0) ∧ ∀ (j : Nat) a b, j + 1 < i + 1 → l[j]? = some a → l[j + 1]? = some b → qlw a b < 0 := by
 refine ⟨fun j q hj hq => ?_, fun j a b hj ha hb => ?_⟩
 ·by_cases e : j = i
  ·subst e; rw [hr] at hq; cases hq; exact h0
  ·exact hI.1 j q (by omega) hq
 ·by_cases e : j + 1 = i
  ·subst e
   rw [hr] at hb
   cases hb
   exact h1 a (by omega) (by simpa using ha)
  ·exact hI.2 j a b (by omega) ha hb
theorem q8x (l : List Rec) (hl : l.length ≤ 1000000000) (hw : ∀ r ∈ l, wt r.past ≤ 40000000) : Ev (En Tryz.prog rfl).P 57 [.sl 3 (q1j l)] (.ret (.int .i64 (if q4o l = true then 0 else 1))) := by
 refine Ev.of_body it_k57 (by simp) (Run.start ?_)
 unfold t_k57
 have e1 := q6q l
 have hS := qhh
 (focus (have hF := @e1; (repeat' (first | refine go1 (k:=?_) | with_reducible refine Ny.of ?_ ?_ | (refine Hyp.of ?_; intro hc; (try simp only [hc]); (try simp only [Bh] at hc)))); all_goals clear hF))
 refine Run.while (σ := Nat) (fun i => ⟨tms [(0, .sl 3 (q1j l)), (5, .sl 3 (q1j l)), (6, .int .i64 (l.length : Int)), (7, .int .i64 (i : Int))], mms []⟩)
  (fun i => i ≤ l.length ∧ (∀ (j : Nat) q, j < i → l[j]? = some q → q46 q = 0) ∧ ∀ (j : Nat) a b, j + 1 < i → l[j]? = some a → l[j + 1]? = some b → qlw a b < 0) (fun i => l.length - i) 0 (have hW := @q0f; q0z) ⟨Nat.zero_le _, fun j q hj => absurd hj (Nat.not_lt_zero _), fun j a b hj => by omega⟩ ?_
 rintro i ⟨hi, hI⟩
 unfold qp5
 by_cases hlt : i < l.length
 ·obtain ⟨r, hr⟩ : ∃ r, l[i]? = some r := ⟨l[i], by simp [hlt]⟩
  have g1 := q5h hr
  have hwr := hw r (List.mem_of_getElem? hr)
  have c1 := ev_k100 r (by omega)
  have hst := fun h0 h1 => qe4 hr hI h0 h1
  have hbad : q46 r ≠ 0 → ¬ qmc l := fun h hf => h (hf.1 i r hr)
  generalize q46 r = v at c1 hst hbad
  (focus (have hF := (aI @e1 @g1); (repeat' (first | refine go1 (k:=?_) | with_reducible refine Ny.of ?_ ?_ | (refine Hyp.of ?_; intro hc; (try simp only [hc]); (try simp only [Bh] at hc)))); all_goals clear hF))
  refine q01 [qcs r] (he := c1) (k:=?_)
  by_cases hv : v = 0
  ·by_cases h0 : i = 0
   ·have hst := hst hv (fun q hq => by omega)
    have h0' : (i : Int) = 0 := by omega
    (focus (have hF := (aI (aI @e1 @g1) (aI @hv @h0')); (repeat' (first | refine go1 (k:=?_) | with_reducible refine Ny.of ?_ ?_ | (refine Hyp.of ?_; intro hc; (try simp only [hc]); (try simp only [Bh] at hc)))); all_goals clear hF))
    have hi1 : ((0 : Int) + 1) = ((i + 1 : Nat) : Int) := by omega
    (refine Fin.nextW (i + 1) ?_ (have hW := (aI @q0f @hi1); q0z); (try dsimp only))
    exact ⟨⟨hlt, hst⟩, by omega⟩
   ·obtain ⟨q, hq⟩ : ∃ q, l[i - 1]? = some q := ⟨l[i - 1]'(by omega), by simp [show i - 1 < l.length by omega]⟩
    have g2 := q5h hq
    have hpw : IntKind.i64.wrap ((i : Int) - 1) = ((i - 1 : Nat) : Int) := by rw [q0e (by omega)]; omega
    have hwq := hw q (List.mem_of_getElem? hq)
    have c2 := ev_k101 q r (by omega) (by omega)
    have hst := hst hv
    have hbad2 : ¬ qlw q r < 0 → ¬ qmc l := fun h hf => h (hf.2 (i - 1) q r hq (by rw [show i - 1 + 1 = i by omega]; exact hr))
    have hst : qlw q r < 0 → _ := fun h => hst (fun q' _ hq' => by rw [hq] at hq'; cases hq'; exact h)
    generalize qlw q r = u at c2 hst hbad2
    (focus (have hF := (aI (aI @e1 @g1) (aI @g2 (aI @hv @hpw))); (repeat' (first | refine go1 (k:=?_) | with_reducible refine Ny.of ?_ ?_ | (refine Hyp.of ?_; intro hc; (try simp only [hc]); (try simp only [Bh] at hc)))); all_goals clear hF))
    refine q01 [qcs q, qcs r] (he := c2) (k:=?_)
    by_cases hu : u < 0
    ·have hst := hst hu
     (focus (have hF := (aI @e1 @g1); (repeat' (first | refine go1 (k:=?_) | with_reducible refine Ny.of ?_ ?_ | (refine Hyp.of ?_; intro hc; (try simp only [hc]); (try simp only [Bh] at hc)))); all_goals clear hF))
     (refine Fin.nextW (i + 1) ?_ (have hW := @q0f; q0z); (try dsimp only))
     exact ⟨⟨hlt, hst⟩, by omega⟩
    ·rw [q5t (hbad2 hu)]
     (focus (have hF := (aI @e1 @g1); (repeat' (first | refine go1 (k:=?_) | with_reducible refine Ny.of ?_ ?_ | (refine Hyp.of ?_; intro hc; (try simp only [hc]); (try simp only [Bh] at hc)))); all_goals clear hF))
     exact Fin.tmp' rfl rfl
  ·rw [q5t (hbad hv)]
   (focus (have hF := (aI @e1 (aI @g1 @hv)); (repeat' (first | refine go1 (k:=?_) | with_reducible refine Ny.of ?_ ?_ | (refine Hyp.of ?_; intro hc; (try simp only [hc]); (try simp only [Bh] at hc)))); all_goals clear hF))
   exact Fin.tmp' rfl rfl
 ·rw [q9n ⟨fun j q hq => hI.1 j q (by
   rcases Nat.lt_or_ge j l.length with h | h
   ·omega
   ·rw [List.getElem?_eq_none h] at hq; cases hq) hq, fun j a b ha hb => hI.2 j a b (by
   rcases Nat.lt_or_ge (j + 1) l.length with h | h
   ·omega
   ·rw [List.getElem?_eq_none h] at hb; cases hb) ha hb⟩]
  (focus (have hF := @e1; (repeat' (first | refine go1 (k:=?_) | with_reducible refine Ny.of ?_ ?_ | (refine Hyp.of ?_; intro hc; (try simp only [hc]); (try simp only [Bh] at hc)))); all_goals clear hF))
  exact Fin.tmp' rfl rfl

theorem qdk (l : List Rec) (hl : l.length ≤ 1000000000) (hw : ∀ r ∈ l, wt r.past ≤ 30000000) : Ev (En Tryz.prog rfl).P 25 [.sl 3 (q1j l)] (.ret (.int .i64 (if q4o l = true then 0 else 1))) := by
 refine Ev.of_body it_k25 (by simp) (Run.start ?_)
 unfold t_k25
 have e1 := q6q l
 have hS := qhh
 (focus (have hF := @e1; (repeat' (first | refine go1 (k:=?_) | with_reducible refine Ny.of ?_ ?_ | (refine Hyp.of ?_; intro hc; (try simp only [hc]); (try simp only [Bh] at hc)))); all_goals clear hF))
 refine Run.while (σ := Nat) (fun i => ⟨tms [(0, .sl 3 (q1j l)), (3, .int .i64 (i : Int))], mms []⟩)
  (fun i => i ≤ l.length ∧ (∀ (j : Nat) q, j < i → l[j]? = some q → q46 q = 0) ∧ ∀ (j : Nat) a b, j + 1 < i → l[j]? = some a → l[j + 1]? = some b → qlw a b < 0) (fun i => l.length - i) 0 (have hW := @q0f; q0z) ⟨Nat.zero_le _, fun j q hj => absurd hj (Nat.not_lt_zero _), fun j a b hj => by omega⟩ ?_
 rintro i ⟨hi, hI⟩
 unfold qpf
 by_cases hlt : i < l.length
 ·obtain ⟨r, hr⟩ : ∃ r, l[i]? = some r := ⟨l[i], by simp [hlt]⟩
  have g1 := q5h hr
  have hwr := hw r (List.mem_of_getElem? hr)
  have c1 := ev_k63 r (by omega)
  have hst := fun h0 h1 => qe4 hr hI h0 h1
  have hbad : q46 r ≠ 0 → ¬ qmc l := fun h hf => h (hf.1 i r hr)
  generalize q46 r = v at c1 hst hbad
  (focus (have hF := (aI @e1 @g1); (repeat' (first | refine go1 (k:=?_) | with_reducible refine Ny.of ?_ ?_ | (refine Hyp.of ?_; intro hc; (try simp only [hc]); (try simp only [Bh] at hc)))); all_goals clear hF))
  refine q01 [qcs r] (he := c1) (k:=?_)
  by_cases hv : v = 0
  ·by_cases h0 : i = 0
   ·have hst := hst hv (fun q hq => by omega)
    have h0' : (i : Int) = 0 := by omega
    (focus (have hF := (aI (aI @e1 @g1) (aI @hv @h0')); (repeat' (first | refine go1 (k:=?_) | with_reducible refine Ny.of ?_ ?_ | (refine Hyp.of ?_; intro hc; (try simp only [hc]); (try simp only [Bh] at hc)))); all_goals clear hF))
    have hi1 : ((0 : Int) + 1) = ((i + 1 : Nat) : Int) := by omega
    (refine Fin.nextW (i + 1) ?_ (have hW := (aI @q0f @hi1); q0z); (try dsimp only))
    exact ⟨⟨hlt, hst⟩, by omega⟩
   ·obtain ⟨q, hq⟩ : ∃ q, l[i - 1]? = some q := ⟨l[i - 1]'(by omega), by simp [show i - 1 < l.length by omega]⟩
    have g2 := q5h hq
    have hpw : IntKind.i64.wrap ((i : Int) - 1) = ((i - 1 : Nat) : Int) := by rw [q0e (by omega)]; omega
    have hwq := hw q (List.mem_of_getElem? hq)
    have c2 := ev_k64 q r (by omega) (by omega)
    have hst := hst hv
    have hbad2 : ¬ qlw q r < 0 → ¬ qmc l := fun h hf => h (hf.2 (i - 1) q r hq (by rw [show i - 1 + 1 = i by omega]; exact hr))
    have hst : qlw q r < 0 → _ := fun h => hst (fun q' _ hq' => by rw [hq] at hq'; cases hq'; exact h)
    generalize qlw q r = u at c2 hst hbad2
    (focus (have hF := (aI (aI @e1 @g1) (aI @g2 (aI @hv @hpw))); (repeat' (first | refine go1 (k:=?_) | with_reducible refine Ny.of ?_ ?_ | (refine Hyp.of ?_; intro hc; (try simp only [hc]); (try simp only [Bh] at hc)))); all_goals clear hF))
    refine q01 [qcs q, qcs r] (he := c2) (k:=?_)
    by_cases hu : u < 0
    ·have hst := hst hu
     (focus (have hF := (aI @e1 @g1); (repeat' (first | refine go1 (k:=?_) | with_reducible refine Ny.of ?_ ?_ | (refine Hyp.of ?_; intro hc; (try simp only [hc]); (try simp only [Bh] at hc)))); all_goals clear hF))
     (refine Fin.nextW (i + 1) ?_ (have hW := @q0f; q0z); (try dsimp only))
     exact ⟨⟨hlt, hst⟩, by omega⟩
    ·rw [q5t (hbad2 hu)]
     (focus (have hF := (aI @e1 @g1); (repeat' (first | refine go1 (k:=?_) | with_reducible refine Ny.of ?_ ?_ | (refine Hyp.of ?_; intro hc; (try simp only [hc]); (try simp only [Bh] at hc)))); all_goals clear hF))
     exact Fin.tmp' rfl rfl
  ·rw [q5t (hbad hv)]
   (focus (have hF := (aI @e1 (aI @g1 @hv)); (repeat' (first | refine go1 (k:=?_) | with_reducible refine Ny.of ?_ ?_ | (refine Hyp.of ?_; intro hc; (try simp only [hc]); (try simp only [Bh] at hc)))); all_goals clear hF))
   exact Fin.tmp' rfl rfl
 ·rw [q9n ⟨fun j q hq => hI.1 j q (by
   rcases Nat.lt_or_ge j l.length with h | h
   ·omega
   ·rw [List.getElem?_eq_none h] at hq; cases hq) hq, fun j a b ha hb => hI.2 j a b (by
   rcases Nat.lt_or_ge (j + 1) l.length with h | h
   ·omega
   ·rw [List.getElem?_eq_none h] at hb; cases hb) ha hb⟩]
  (focus (have hF := @e1; (repeat' (first | refine go1 (k:=?_) | with_reducible refine Ny.of ?_ ?_ | (refine Hyp.of ?_; intro hc; (try simp only [hc]); (try simp only [Bh] at hc)))); all_goals clear hF))
  exact Fin.tmp' rfl rfl
theorem ev_k95 (e : Ent) : Ev (En Tryz.prog rfl).P 95 [encE e] (.ret (.int .i64 (q48 e))) := by
 refine Ev.of_body it_k95 (by simp) (Run.start ?_)
 unfold t_k95 encE q48
 have c1 := zdc e.sku
 generalize q6k e.sku = v at c1 ⊢
 by_cases h1 : e.rep < 0 ∨ 16 ≤ e.rep
 ·rw [if_pos h1]
  rcases h1 with h1 | h1
  all_goals
   (focus (have hF := True.intro; (repeat' (first | refine go1 (k:=?_) | with_reducible refine Ny.of ?_ ?_ | (refine Hyp.of ?_; intro hc; (try simp only [hc]); (try simp only [Bh] at hc)))); all_goals clear hF))
  all_goals first | exact Fin.tmp' rfl rfl | (exfalso; omega)
 ·rw [if_neg h1]
  by_cases h2 : e.num < 1 ∨ 1000000000 < e.num
  ·rw [if_pos h2]
   rcases h2 with h2 | h2
   all_goals
    (focus (have hF := True.intro; (repeat' (first | refine go1 (k:=?_) | with_reducible refine Ny.of ?_ ?_ | (refine Hyp.of ?_; intro hc; (try simp only [hc]); (try simp only [Bh] at hc)))); all_goals clear hF))
   all_goals first | exact Fin.tmp' rfl rfl | (exfalso; omega)
  ·rw [if_neg h2]
   (focus (have hF := True.intro; (repeat' (first | refine go1 (k:=?_) | with_reducible refine Ny.of ?_ ?_ | (refine Hyp.of ?_; intro hc; (try simp only [hc]); (try simp only [Bh] at hc)))); all_goals clear hF))
   all_goals
    refine q01 [.str e.sku] (he := c1) (k:=?_)
    cases v
    case' false =>
     rw [if_pos rfl]
     (focus (have hF := True.intro; (repeat' (first | refine go1 (k:=?_) | with_reducible refine Ny.of ?_ ?_ | (refine Hyp.of ?_; intro hc; (try simp only [hc]); (try simp only [Bh] at hc)))); all_goals clear hF))
     exact Fin.tmp' rfl rfl
    case' true =>
     rw [if_neg (by decide)]
     by_cases h3 : e.qty < 1 ∨ 1000000 < e.qty
     ·rw [if_pos h3]
      rcases h3 with h3 | h3
      all_goals
       (focus (have hF := True.intro; (repeat' (first | refine go1 (k:=?_) | with_reducible refine Ny.of ?_ ?_ | (refine Hyp.of ?_; intro hc; (try simp only [hc]); (try simp only [Bh] at hc)))); all_goals clear hF))
      all_goals first | exact Fin.tmp' rfl rfl | (exfalso; omega)
     ·rw [if_neg h3]
      (focus (have hF := True.intro; (repeat' (first | refine go1 (k:=?_) | with_reducible refine Ny.of ?_ ?_ | (refine Hyp.of ?_; intro hc; (try simp only [hc]); (try simp only [Bh] at hc)))); all_goals clear hF))
      all_goals first | exact Fin.tmp' rfl rfl | (exfalso; omega)
theorem ev_k96 (a b : Rn) : Ev (En Tryz.prog rfl).P 96 [q76 a, q76 b] (.ret (.bool (q66 a b))) := by
 refine Ev.of_body it_k96 (by simp) (Run.start ?_)
 unfold t_k96 q76 q66
 by_cases h1 : a.1 < b.1
 ·rw [show (decide (a.1 < b.1) || (decide (a.1 = b.1) && decide (a.2 < b.2))) = true by simp [h1]]
  (focus (have hF := True.intro; (repeat' (first | refine go1 (k:=?_) | with_reducible refine Ny.of ?_ ?_ | (refine Hyp.of ?_; intro hc; (try simp only [hc]); (try simp only [Bh] at hc)))); all_goals clear hF))
  exact Fin.tmp' rfl rfl
 ·by_cases h2 : a.1 = b.1
  ·rw [show (decide (a.1 < b.1) || (decide (a.1 = b.1) && decide (a.2 < b.2))) = decide (a.2 < b.2) by simp [h1, h2]]
   (focus (have hF := True.intro; (repeat' (first | refine go1 (k:=?_) | with_reducible refine Ny.of ?_ ?_ | (refine Hyp.of ?_; intro hc; (try simp only [hc]); (try simp only [Bh] at hc)))); all_goals clear hF))
   exact Fin.tmp' rfl rfl
  ·rw [show (decide (a.1 < b.1) || (decide (a.1 = b.1) && decide (a.2 < b.2))) = false by simp [h1, h2]]
   (focus (have hF := True.intro; (repeat' (first | refine go1 (k:=?_) | with_reducible refine Ny.of ?_ ?_ | (refine Hyp.of ?_; intro hc; (try simp only [hc]); (try simp only [Bh] at hc)))); all_goals clear hF))
   exact Fin.tmp' rfl rfl
theorem ev_k53 (a b : Rn) : Ev (En Tryz.prog rfl).P 53 [q76 a, q76 b] (.ret (.bool (q66 a b))) := by
 refine Ev.of_body it_k53 (by simp) (Run.start ?_)
 unfold t_k53 q76 q66
 by_cases h1 : a.1 < b.1
 ·rw [show (decide (a.1 < b.1) || (decide (a.1 = b.1) && decide (a.2 < b.2))) = true by simp [h1]]
  (focus (have hF := True.intro; (repeat' (first | refine go1 (k:=?_) | with_reducible refine Ny.of ?_ ?_ | (refine Hyp.of ?_; intro hc; (try simp only [hc]); (try simp only [Bh] at hc)))); all_goals clear hF))
  exact Fin.tmp' rfl rfl
 ·by_cases h2 : a.1 = b.1
  ·rw [show (decide (a.1 < b.1) || (decide (a.1 = b.1) && decide (a.2 < b.2))) = decide (a.2 < b.2) by simp [h1, h2]]
   (focus (have hF := True.intro; (repeat' (first | refine go1 (k:=?_) | with_reducible refine Ny.of ?_ ?_ | (refine Hyp.of ?_; intro hc; (try simp only [hc]); (try simp only [Bh] at hc)))); all_goals clear hF))
   exact Fin.tmp' rfl rfl
  ·rw [show (decide (a.1 < b.1) || (decide (a.1 = b.1) && decide (a.2 < b.2))) = false by simp [h1, h2]]
   (focus (have hF := True.intro; (repeat' (first | refine go1 (k:=?_) | with_reducible refine Ny.of ?_ ?_ | (refine Hyp.of ?_; intro hc; (try simp only [hc]); (try simp only [Bh] at hc)))); all_goals clear hF))
   exact Fin.tmp' rfl rfl
theorem ev_k51 (d : Rn) : Ev (En Tryz.prog rfl).P 51 [q76 d] (.ret (.bool (qa6 d.1 d.2))) := by
 refine Ev.of_body it_k51 (by simp) (Run.start ?_)
 unfold t_k51 q76 qa6
 by_cases h1 : 0 ≤ d.1 <;> by_cases h2 : d.1 < 16 <;> by_cases h3 : 1 ≤ d.2 <;> by_cases h4 : d.2 ≤ 1000000000
 all_goals
  simp only [h1, h2, h3, h4, decide_true, decide_false, Bool.and_true, Bool.and_false, Bool.true_and, Bool.false_and]
  (focus (have hF := True.intro; (repeat' (first | refine go1 (k:=?_) | with_reducible refine Ny.of ?_ ?_ | (refine Hyp.of ?_; intro hc; (try simp only [hc]); (try simp only [Bh] at hc)))); all_goals clear hF))
  all_goals first | exact Fin.tmp' rfl rfl | (exfalso; omega)
theorem qe5 {l : List Ent} {i : Nat} {r : Ent} (hr : l[i]? = some r) (hI : (∀ (j : Nat) q, j < i → l[j]? = some q → q48 q = 0) ∧ ∀ (j : Nat) a b, j + 1 < i → l[j]? = some a → l[j + 1]? = some b → q66 a.dot b.dot = true) (h0 : q48 r = 0)
 (h1 : ∀ q, 0 < i → l[i - 1]? = some q → q66 q.dot r.dot = true) : (∀ (j : Nat) q, j < i + 1 → l[j]? = some q → q48 q = 0) ∧ ∀ (j : Nat) a b, j + 1 < i + 1 → l[j]? = some a → l[j + 1]? = some b → q66 a.dot b.dot = true := by
 refine ⟨fun j q hj hq => ?_, fun j a b hj ha hb => ?_⟩
 ·by_cases e : j = i
  ·subst e; rw [hr] at hq; cases hq; exact h0
  ·exact hI.1 j q (by omega) hq
 ·by_cases e : j + 1 = i
  ·subst e
   rw [hr] at hb
   cases hb
   exact h1 a (by omega) (by simpa using ha)
  ·exact hI.2 j a b (by omega) ha hb
theorem ql9 {l : List Ent} {i : Nat} (hi : l.length ≤ i) (hI : (∀ (j : Nat) q, j < i → l[j]? = some q → q48 q = 0) ∧ ∀ (j : Nat) a b, j + 1 < i → l[j]? = some a → l[j + 1]? = some b → q66 a.dot b.dot = true) : qgf l :=
 ⟨fun j q hq => hI.1 j q (by
  rcases Nat.lt_or_ge j l.length with h | h
  ·omega
  ·rw [List.getElem?_eq_none h] at hq; cases hq) hq, fun j a b ha hb => hI.2 j a b (by
  rcases Nat.lt_or_ge (j + 1) l.length with h | h
  ·omega
  ·rw [List.getElem?_eq_none h] at hb; cases hb) ha hb⟩
theorem ev_k49 (l : List Ent) (hl : l.length ≤ 1000000000) : Ev (En Tryz.prog rfl).P 49 [.sl 4 (q0l l)] (.ret (.int .i64 (if q2x l = true then 0 else 1))) := by
 refine Ev.of_body it_k49 (by simp) (Run.start ?_)
 unfold t_k49
 have e1 := q3w l
 have hS := qhh
 (focus (have hF := @e1; (repeat' (first | refine go1 (k:=?_) | with_reducible refine Ny.of ?_ ?_ | (refine Hyp.of ?_; intro hc; (try simp only [hc]); (try simp only [Bh] at hc)))); all_goals clear hF))
 refine Run.while (σ := Nat) (fun i => ⟨tms [(0, .sl 4 (q0l l)), (5, .sl 4 (q0l l)), (6, .int .i64 (l.length : Int)), (7, .int .i64 (i : Int))], mms []⟩)
  (fun i => i ≤ l.length ∧ (∀ (j : Nat) q, j < i → l[j]? = some q → q48 q = 0) ∧ ∀ (j : Nat) a b, j + 1 < i → l[j]? = some a → l[j + 1]? = some b → q66 a.dot b.dot = true) (fun i => l.length - i) 0 (have hW := @q0d; q0z) ⟨Nat.zero_le _, fun j q hj => absurd hj (Nat.not_lt_zero _), fun j a b hj => by omega⟩ ?_
 rintro i ⟨hi, hI⟩
 unfold qp7
 by_cases hlt : i < l.length
 ·obtain ⟨r, hr⟩ : ∃ r, l[i]? = some r := ⟨l[i], by simp [hlt]⟩
  have g1 := q39 hr
  have c1 := ev_k95 r
  have hst := fun h0 h1 => qe5 hr hI h0 h1
  have hbad : q48 r ≠ 0 → ¬ qgf l := fun h hf => h (hf.1 i r hr)
  generalize q48 r = v at c1 hst hbad
  (focus (have hF := (aI @e1 @g1); (repeat' (first | refine go1 (k:=?_) | with_reducible refine Ny.of ?_ ?_ | (refine Hyp.of ?_; intro hc; (try simp only [hc]); (try simp only [Bh] at hc)))); all_goals clear hF))
  refine q01 [encE r] (he := c1) (k:=?_)
  by_cases hv : v = 0
  ·by_cases h0 : i = 0
   ·have hst := hst hv (fun q hq => by omega)
    have h0' : (i : Int) = 0 := by omega
    (focus (have hF := (aI (aI @e1 @g1) (aI @hv @h0')); (repeat' (first | refine go1 (k:=?_) | with_reducible refine Ny.of ?_ ?_ | (refine Hyp.of ?_; intro hc; (try simp only [hc]); (try simp only [Bh] at hc)))); all_goals clear hF))
    have hi1 : ((0 : Int) + 1) = ((i + 1 : Nat) : Int) := by omega
    (refine Fin.nextW (i + 1) ?_ (have hW := (aI @q0d @hi1); q0z); (try dsimp only))
    exact ⟨⟨hlt, hst⟩, by omega⟩
   ·obtain ⟨q, hq⟩ : ∃ q, l[i - 1]? = some q := ⟨l[i - 1]'(by omega), by simp [show i - 1 < l.length by omega]⟩
    have g2 := q39 hq
    have hpw : IntKind.i64.wrap ((i : Int) - 1) = ((i - 1 : Nat) : Int) := by rw [q0e (by omega)]; omega
    have c2 := ev_k96 q.dot r.dot
    have hst := hst hv
    have hbad2 : q66 q.dot r.dot = false → ¬ qgf l := fun h hf => by
     have := hf.2 (i - 1) q r hq (by rw [show i - 1 + 1 = i by omega]; exact hr)
     rw [h] at this
     cases this
    have hst : q66 q.dot r.dot = true → _ := fun h => hst (fun q' _ hq' => by rw [hq] at hq'; cases hq'; exact h)
    generalize q66 q.dot r.dot = u at c2 hst hbad2
    (focus (have hF := (aI (aI @e1 @g1) (aI @g2 (aI @hv @hpw))); (repeat' (first | refine go1 (k:=?_) | with_reducible refine Ny.of ?_ ?_ | (refine Hyp.of ?_; intro hc; (try simp only [hc]); (try simp only [Bh] at hc)))); all_goals clear hF))
    refine q01 [q76 q.dot, q76 r.dot] (he := c2) (k:=?_)
    cases u
    ·rw [q2w (hbad2 rfl)]
     (focus (have hF := (aI @e1 @g1); (repeat' (first | refine go1 (k:=?_) | with_reducible refine Ny.of ?_ ?_ | (refine Hyp.of ?_; intro hc; (try simp only [hc]); (try simp only [Bh] at hc)))); all_goals clear hF))
     exact Fin.tmp' rfl rfl
    ·have hst := hst rfl
     (focus (have hF := (aI @e1 @g1); (repeat' (first | refine go1 (k:=?_) | with_reducible refine Ny.of ?_ ?_ | (refine Hyp.of ?_; intro hc; (try simp only [hc]); (try simp only [Bh] at hc)))); all_goals clear hF))
     (refine Fin.nextW (i + 1) ?_ (have hW := @q0d; q0z); (try dsimp only))
     exact ⟨⟨hlt, hst⟩, by omega⟩
  ·rw [q2w (hbad hv)]
   (focus (have hF := (aI @e1 (aI @g1 @hv)); (repeat' (first | refine go1 (k:=?_) | with_reducible refine Ny.of ?_ ?_ | (refine Hyp.of ?_; intro hc; (try simp only [hc]); (try simp only [Bh] at hc)))); all_goals clear hF))
   exact Fin.tmp' rfl rfl
 ·rw [q9o (ql9 (by omega) hI)]
  (focus (have hF := @e1; (repeat' (first | refine go1 (k:=?_) | with_reducible refine Ny.of ?_ ?_ | (refine Hyp.of ?_; intro hc; (try simp only [hc]); (try simp only [Bh] at hc)))); all_goals clear hF))
  exact Fin.tmp' rfl rfl
theorem z19 (e : Ent) : q48 e = 0 ↔ qa6 e.rep e.num = true ∧ q6k e.sku = true ∧ ¬ e.qty < 1 ∧ ¬ 1000000 < e.qty := by
 rw [zcj]
 unfold q48
 split
 ·constructor
  ·intro h; simp at h
  ·intro h; omega
 ·split
  ·constructor
   ·intro h; simp at h
   ·intro h; omega
  ·split
   ·rename_i h
    constructor
    ·intro h; simp at h
    ·intro h'; rw [h] at h'; simp at h'
   ·rename_i h
    split
    ·constructor
     ·intro h; simp at h
     ·intro h; omega
    ·constructor
     ·intro _; exact ⟨by omega, by simpa using h, by omega, by omega⟩
     ·intro _; rfl
theorem qzf (l : List Ent) (hl : l.length ≤ 1000000000) : Ev (En Tryz.prog rfl).P 16 [.sl 4 (q0l l)] (.ret (.bool (q2x l))) := by
 refine Ev.of_body it_k16 (by simp) (Run.start ?_)
 unfold t_k16
 have e1 := q3w l
 have hS := qhh
 (focus (have hF := @e1; (repeat' (first | refine go1 (k:=?_) | with_reducible refine Ny.of ?_ ?_ | (refine Hyp.of ?_; intro hc; (try simp only [hc]); (try simp only [Bh] at hc)))); all_goals clear hF))
 refine Run.while (σ := Nat) (fun i => ⟨tms [(0, .sl 4 (q0l l)), (3, .int .i64 (i : Int))], mms []⟩)
  (fun i => i ≤ l.length ∧ (∀ (j : Nat) q, j < i → l[j]? = some q → q48 q = 0) ∧ ∀ (j : Nat) a b, j + 1 < i → l[j]? = some a → l[j + 1]? = some b → q66 a.dot b.dot = true) (fun i => l.length - i) 0 (have hW := @q0d; q0z) ⟨Nat.zero_le _, fun j q hj => absurd hj (Nat.not_lt_zero _), fun j a b hj => by omega⟩ ?_
 rintro i ⟨hi, hI⟩
 unfold qpg
 by_cases hlt : i < l.length
 ·obtain ⟨r, hr⟩ : ∃ r, l[i]? = some r := ⟨l[i], by simp [hlt]⟩
  have g1 := q39 hr
  have c1 := ev_k51 r.dot
  have c0 := ev_k52 r.sku
  have hst := fun h0 h1 => qe5 hr hI h0 h1
  have hbad : q48 r ≠ 0 → ¬ qgf l := fun h hf => h (hf.1 i r hr)
  have hee := z19 r
  change Ev _ _ _ (.ret (.bool (qa6 r.rep r.num))) at c1
  generalize qa6 r.rep r.num = v1 at c1 hee
  generalize q6k r.sku = v2 at c0 hee
  (focus (have hF := (aI @e1 @g1); (repeat' (first | refine go1 (k:=?_) | with_reducible refine Ny.of ?_ ?_ | (refine Hyp.of ?_; intro hc; (try simp only [hc]); (try simp only [Bh] at hc)))); all_goals clear hF))
  refine q01 [q76 r.dot] (he := c1) (k:=?_)
  cases v1
  ·rw [q2w (hbad (fun h => by have := (hee.1 h).1; simp at this))]
   (focus (have hF := (aI @e1 @g1); (repeat' (first | refine go1 (k:=?_) | with_reducible refine Ny.of ?_ ?_ | (refine Hyp.of ?_; intro hc; (try simp only [hc]); (try simp only [Bh] at hc)))); all_goals clear hF))
   exact Fin.tmp' rfl rfl
  ·(focus (have hF := (aI @e1 @g1); (repeat' (first | refine go1 (k:=?_) | with_reducible refine Ny.of ?_ ?_ | (refine Hyp.of ?_; intro hc; (try simp only [hc]); (try simp only [Bh] at hc)))); all_goals clear hF))
   refine q01 [.str r.sku] (he := c0) (k:=?_)
   cases v2
   ·rw [q2w (hbad (fun h => by have := (hee.1 h).2.1; simp at this))]
    (focus (have hF := (aI @e1 @g1); (repeat' (first | refine go1 (k:=?_) | with_reducible refine Ny.of ?_ ?_ | (refine Hyp.of ?_; intro hc; (try simp only [hc]); (try simp only [Bh] at hc)))); all_goals clear hF))
    exact Fin.tmp' rfl rfl
   ·by_cases h3 : r.qty < 1
    ·rw [q2w (hbad (fun h => (hee.1 h).2.2.1 h3))]
     (focus (have hF := (aI @e1 @g1); (repeat' (first | refine go1 (k:=?_) | with_reducible refine Ny.of ?_ ?_ | (refine Hyp.of ?_; intro hc; (try simp only [hc]); (try simp only [Bh] at hc)))); all_goals clear hF))
     exact Fin.tmp' rfl rfl
    ·by_cases h4 : 1000000 < r.qty
     ·rw [q2w (hbad (fun h => (hee.1 h).2.2.2 h4))]
      (focus (have hF := (aI @e1 @g1); (repeat' (first | refine go1 (k:=?_) | with_reducible refine Ny.of ?_ ?_ | (refine Hyp.of ?_; intro hc; (try simp only [hc]); (try simp only [Bh] at hc)))); all_goals clear hF))
      exact Fin.tmp' rfl rfl
     ·have hv := hee.2 ⟨rfl, rfl, h3, h4⟩
      by_cases h0 : i = 0
      ·have hst := hst hv (fun q hq => by omega)
       subst h0
       (focus (have hF := (aI @e1 @g1); (repeat' (first | refine go1 (k:=?_) | with_reducible refine Ny.of ?_ ?_ | (refine Hyp.of ?_; intro hc; (try simp only [hc]); (try simp only [Bh] at hc)))); all_goals clear hF))
       (refine Fin.nextW (0 + 1) ?_ (have hW := @q0d; q0z); (try dsimp only))
       exact ⟨⟨hlt, hst⟩, by omega⟩
      ·obtain ⟨q, hq⟩ : ∃ q, l[i - 1]? = some q := ⟨l[i - 1]'(by omega), by simp [show i - 1 < l.length by omega]⟩
       have g2 := q39 hq
       have hpw : IntKind.i64.wrap ((i : Int) - 1) = ((i - 1 : Nat) : Int) := by rw [q0e (by omega)]; omega
       have c2 := ev_k53 q.dot r.dot
       have hst := hst hv
       have hbad2 : q66 q.dot r.dot = false → ¬ qgf l := fun h hf => by
        have := hf.2 (i - 1) q r hq (by rw [show i - 1 + 1 = i by omega]; exact hr)
        rw [h] at this
        cases this
       have hst : q66 q.dot r.dot = true → _ := fun h => hst (fun q' _ hq' => by rw [hq] at hq'; cases hq'; exact h)
       generalize q66 q.dot r.dot = u at c2 hst hbad2
       (focus (have hF := (aI (aI @e1 @g1) (aI @g2 @hpw)); (repeat' (first | refine go1 (k:=?_) | with_reducible refine Ny.of ?_ ?_ | (refine Hyp.of ?_; intro hc; (try simp only [hc]); (try simp only [Bh] at hc)))); all_goals clear hF))
       refine q01 [q76 q.dot, q76 r.dot] (he := c2) (k:=?_)
       cases u
       ·rw [q2w (hbad2 rfl)]
        (focus (have hF := (aI @e1 @g1); (repeat' (first | refine go1 (k:=?_) | with_reducible refine Ny.of ?_ ?_ | (refine Hyp.of ?_; intro hc; (try simp only [hc]); (try simp only [Bh] at hc)))); all_goals clear hF))
        exact Fin.tmp' rfl rfl
       ·have hst := hst rfl
        (focus (have hF := (aI @e1 @g1); (repeat' (first | refine go1 (k:=?_) | with_reducible refine Ny.of ?_ ?_ | (refine Hyp.of ?_; intro hc; (try simp only [hc]); (try simp only [Bh] at hc)))); all_goals clear hF))
        (refine Fin.nextW (i + 1) ?_ (have hW := @q0d; q0z); (try dsimp only))
        exact ⟨⟨hlt, hst⟩, by omega⟩
 ·rw [q9o (ql9 (by omega) hI)]
  (focus (have hF := @e1; (repeat' (first | refine go1 (k:=?_) | with_reducible refine Ny.of ?_ ?_ | (refine Hyp.of ?_; intro hc; (try simp only [hc]); (try simp only [Bh] at hc)))); all_goals clear hF))
  exact Fin.tmp' rfl rfl

def zac : List SOp := [zO 2 (.alloc 25),zO 3 (.assign (.const (.int .i64 0)))]
instance : Live zac := ⟨[0]⟩
def zab : List SOp := [zM 7 0,zO 8 (.call ⟨.value (.func 59),#[.tmp 7,.func 60],#[28,109]⟩),zM 6 8,zX 9 6 0,zX 10 6 1,zO 4 (.alloc 25),⟨none,.store 25 (.tmp 4) (.tmp 9),none⟩,zG 5 10]
instance : Live zab := ⟨[0,2]⟩
def zaa : List SOp := [zM 11 5,zO 12 (.unOp .not 4 (.tmp 11)),zM 13 12,⟨some 14,.load 25 (.tmp 4),some ((some 13),false)⟩,⟨some 15,.call ⟨.value (.func 45),#[.tmp 14],#[25]⟩,some ((some 13),false)⟩,⟨some 16,.unOp .not 4 (.tmp 15),some ((some 13),false)⟩,zO 17 (.pick (.tmp 13) (.const (.bool true)) (.tmp 16))]
instance : Live zaa := ⟨[2,4,5]⟩
def za9 : List SOp := [zO 18 (.build 25 #[]),⟨none,.store 25 (.tmp 2) (.tmp 18),none⟩,zO 3 (.assign (.const (.int .i64 8)))]
instance : Live za9 := ⟨[2]⟩
def za8 : List SOp := [zL 19 25 4,⟨none,.store 25 (.tmp 2) (.tmp 19),none⟩,zO 3 (.assign (.const (.int .i64 0)))]
instance : Live za8 := ⟨[2,4]⟩
def t_k23 : SC :=
 (.seq (.ops false zac) (.seq (.ops false zab) (.seq (.seq (.ops false zaa) (.cond (.tmp 17) (.seq (.ops false za9) .ret) .skip)) (.seq (.ops false za8) .ret))))
theorem it_k23 : FnIs Tryz.prog 23 20 [.cell 2 25, .tmp 3] t_k23 := ⟨Tryz.f23, _, Tryz.func23, rfl, rfl, rfl, rfl, by kernel_rfl⟩

def za7 : List SOp := [zO 2 (.assign (.const (.slice none 0 0))),zO 3 (.assign (.const (.int .i64 0)))]
instance : Live za7 := ⟨[0]⟩
def za6 : List SOp := [zM 7 0,zO 8 (.call ⟨.value (.func 61),#[.tmp 7,.func 62],#[28,112]⟩),zM 6 8,zX 9 6 0,zX 10 6 1,zG 4 9,zG 5 10]
instance : Live za6 := ⟨[0]⟩
def za5 : List SOp := [zM 11 5,zO 12 (.unOp .not 4 (.tmp 11)),zM 13 12,⟨some 14,.move (.tmp 4),some ((some 13),false)⟩,⟨some 15,.call ⟨.value (.func 49),#[.tmp 14],#[26]⟩,some ((some 13),false)⟩,⟨some 16,.binOp .neq 35 (.tmp 15) (.const (.int .i64 0)) 35,some ((some 13),false)⟩,zO 17 (.pick (.tmp 13) (.const (.bool true)) (.tmp 16))]
instance : Live za5 := ⟨[4,5]⟩
def za4 : List SOp := [zO 2 (.assign (.const (.slice none 0 0))),zO 3 (.assign (.const (.int .i64 8)))]
instance : Live za4 := ⟨[]⟩
def za3 : List SOp := [zM 18 4,zG 2 18,zO 3 (.assign (.const (.int .i64 0)))]
instance : Live za3 := ⟨[4]⟩
def t_k24 : SC :=
 (.seq (.ops false za7) (.seq (.ops false za6) (.seq (.seq (.ops false za5) (.cond (.tmp 17) (.seq (.ops false za4) .ret) .skip)) (.seq (.ops false za3) .ret))))
theorem it_k24 : FnIs Tryz.prog 24 19 [.tmp 2, .tmp 3] t_k24 := ⟨Tryz.f24, _, Tryz.func24, rfl, rfl, rfl, rfl, by kernel_rfl⟩

def z9t : List SOp := [zO 2 (.assign (.const (.slice none 0 0))),zO 3 (.assign (.const (.int .i64 0)))]
instance : Live z9t := ⟨[0]⟩
def z9s : List SOp := [zM 7 0,zO 8 (.call ⟨.value (.func 65),#[.tmp 7,.func 66],#[28,117]⟩),zM 6 8,zX 9 6 0,zX 10 6 1,zG 4 9,zG 5 10]
instance : Live z9s := ⟨[0]⟩
def z9r : List SOp := [zM 11 5,zO 12 (.unOp .not 4 (.tmp 11)),zM 13 12,⟨some 14,.move (.tmp 4),some ((some 13),false)⟩,⟨some 15,.call ⟨.value (.func 57),#[.tmp 14],#[27]⟩,some ((some 13),false)⟩,⟨some 16,.binOp .neq 35 (.tmp 15) (.const (.int .i64 0)) 35,some ((some 13),false)⟩,zO 17 (.pick (.tmp 13) (.const (.bool true)) (.tmp 16))]
instance : Live z9r := ⟨[4,5]⟩
def z9q : List SOp := [zO 2 (.assign (.const (.slice none 0 0))),zO 3 (.assign (.const (.int .i64 8)))]
instance : Live z9q := ⟨[]⟩
def z9p : List SOp := [zM 18 4,zG 2 18,zO 3 (.assign (.const (.int .i64 0)))]
instance : Live z9p := ⟨[4]⟩
def t_k26 : SC :=
 (.seq (.ops false z9t) (.seq (.ops false z9s) (.seq (.seq (.ops false z9r) (.cond (.tmp 17) (.seq (.ops false z9q) .ret) .skip)) (.seq (.ops false z9p) .ret))))
theorem it_k26 : FnIs Tryz.prog 26 19 [.tmp 2, .tmp 3] t_k26 := ⟨Tryz.f26, _, Tryz.func26, rfl, rfl, rfl, rfl, by kernel_rfl⟩

section
def rdV {α : Type} (z : α) : Rs α → α
 | .ok (x, _) => x
 | .error _ => z
def qda {α : Type} (b : Bs) (r : Rs α) : Bool := decide (q41 b (rdA r) (rdE r) = 0)
theorem qf1 {α : Type} {r : Rs α} (h : ∀ e a, r = .error (e, a) → e ≠ 0) : z2z r = .ret (.tup []) ∧ rdE r = 0 ∨ z2z r = .pan gup ∧ rdE r ≠ 0 := by
 cases r with
 | ok q => exact .inl ⟨rfl, rfl⟩
 | error q => exact .inr ⟨rfl, h _ _ rfl⟩
section
variable {E : Env} {n : Nat} {Q : Ex → AS → Prop} {r : List SOp} {T : q19} {M : Mem} {t : Tmp} {x : Operand} {args : Array Operand} {ts : Array TypeId} {f F : FuncId} {g o o' bs : List AVal} {v : Int}
theorem qge (k1 k2 : Nat) (hf : ev T x = .fn f []) (hl : evs T args.toList ++ [] = [.sl 1 bs, .fn F [.ptr k1 0, .ptr k2 0]]) (h1 : M k1 = some (.cells g)) (h2 : M k2 = some (.cells o)) (h12 : k1 ≠ k2) (hbs : q0o bs = true) (hg : g.all q0n = true) (ho : o.all q0n = true) (ho' : o'.all q0n = true)
 (he : EvM E.P f [.sl 1 bs, .fn F [.ptr 900001 0, .ptr 900002 0]] [(900001, g), (900002, o)] (.ret (.int .i64 v)) [(900001, g), (900002, o')])
 (kk : q05 E false none Q r (AS.put ⟨T, upd M k2 (some (.cells o'))⟩ (some t) (.int .i64 v))) : q05 E false none Q (⟨some t, .call ⟨.value x, args, ts⟩, none⟩ :: r) ⟨T, M⟩ := by
 have hlin : ∀ (o : List AVal) (k : Nat), lin [(900001, g), (900002, o)] k = (k == 900001 || k == 900002) := fun o k => by
  unfold lin q4c
  by_cases h1 : k = 900001
  ·subst h1; rfl
  ·by_cases h2 : k = 900002
   ·subst h2; rfl
   ·have e1 : ((900001 : Nat) == k) = false := by simpa using fun h => h1 h.symm
    have e2 : ((900002 : Nat) == k) = false := by simpa using fun h => h2 h.symm
    simp [List.find?, e1, e2, h1, h2]
 have hst : ∀ o : List AVal, o.all q0n = true → ∀ p ∈ [((900001 : Nat), g), (900002, o)], ∀ x ∈ p.2, q0n x = true := fun o ho p hp x hx => by
  simp only [List.mem_cons, List.not_mem_nil, or_false] at hp
  rcases hp with rfl | rfl
  ·exact List.all_eq_true.1 hg x hx
  ·exact List.all_eq_true.1 ho x hx
 have h21 : k2 ≠ k1 := fun e => h12 e.symm
 refine q95 (qaw (s := ⟨T, M⟩) (l := [.sl 1 bs, .fn F [.ptr k1 0, .ptr k2 0]]) (m := [(900001, g), (900002, o)]) (m' := [(900001, g), (900002, o')]) (L := fun j => j == k1 || j == k2) (ρ := fun k => if k = 900001 then k1 else k2) (σ := fun j => if j = k1 then 900001 else 900002) hf hl
  (fun j hj => ?_) (fun k hk => ?_) (fun k cs hk => ?_) (hst o ho) (hst o' ho') ?_ ?_ (out := .ret (.int .i64 v)) rfl he) ?_ ?_
 ·simp only [Bool.or_eq_true, beq_iff_eq] at hj
  rcases hj with rfl | rfl
  ·simp [hlin]
  ·simp [hlin, h21]
 ·rw [hlin] at hk
  simp only [Bool.or_eq_true, beq_iff_eq] at hk
  rcases hk with rfl | rfl
  ·simp
  ·simp [h21]
 ·obtain ⟨cs', hc, hm⟩ := q29 hk
  cases hc
  simp only [List.mem_cons, List.not_mem_nil, or_false, Prod.mk.injEq] at hm
  rcases hm with ⟨rfl, rfl⟩ | ⟨rfl, rfl⟩
  ·simpa using h1
  ·simpa using h2
 ·simpa [qa5, AVal.kin, AVal.stb] using hbs
 ·simp [q9a, AVal.ren, h21]
 ·rintro y M' ⟨z, hz, rfl, rfl⟩
  cases hz
  have hM : q20 M (fun j => j == k1 || j == k2) (fun j => if j = k1 then 900001 else 900002) [(900001, g), (900002, o')] = upd M k2 (some (.cells o')) := by
   funext j
   unfold q20
   by_cases a1 : j = k1
   ·subst a1
    rw [q0i _ _ h12]
    simp [h1, q4c]
   ·by_cases a2 : j = k2
    ·subst a2
     rw [q00]
     simp [a1, q4c]
    ·rw [q0i _ _ a2]
     simp [a1, a2]
  dsimp only
  rw [hM]
  exact kk
 ·rintro y M' ⟨z, hz, _⟩
  cases hz
end
def noZ {α : Type} (r : Rs α) : Prop := ∀ e a, r = .error (e, a) → e ≠ 0
theorem q1y {α β : Type} {r : Rs α} {f : α → Nat → Rs β} (h : noZ r) (hf : ∀ x a, noZ (f x a)) : noZ (r.bind f) := by
 cases r with
 | ok q => exact hf q.1 q.2
 | error q => intro e a he; exact h e a (by cases he; rfl)
theorem noZ_ite {α : Type} {c : Prop} [Decidable c] {x y : Rs α} (hx : noZ x) (hy : noZ y) : noZ (if c then x else y) := by
 split
 ·exact hx
 ·exact hy
theorem qc5 {α : Type} (q : α × Nat) : noZ (.ok q : Rs α) := fun e a h => by cases h
theorem qky {α : Type} {e a : Nat} (h : e ≠ 0) : noZ (.error (e, a) : Rs α) := fun e' a' h' => by cases h'; exact h
theorem q54 (m : Nat) (b : Bs) (p : Nat) : noZ (qa3 m b p) := fun e a h => (rNum_err h).1
theorem qc6 (m : Nat) (b : Bs) (p : Nat) : noZ (q47 m b p) := by
 unfold q47
 cases h : qa3 9223372036854775807 b p with
 | error q => exact fun e a he => q54 _ b p e a (by rw [h, ← he])
 | ok q =>
  simp only
  split
  ·exact qky (by decide)
  ·exact qc5 _
theorem noZ_take (m : Nat) (b : Bs) (p : Nat) : noZ (qaf m b p) := by
 unfold qaf
 cases h : qa3 m b p with
 | error q => exact fun e a he => q54 m b p e a (by rw [h]; cases he; rfl)
 | ok q =>
  simp only
  split
  ·exact qky (by decide)
  ·exact qc5 _
theorem qz0 (m : Nat) (b : Bs) (p : Nat) : noZ (qde m b p) := fun e a h => noZ_take m b p e a (Rs.map_error h)
theorem zc6 (b : Bs) : ∀ (k : Nat) (acc : List Int) (p : Nat), noZ (qmh b k acc p)
 | 0, acc, p => qc5 _
 | k + 1, acc, p => by rw [qmh]; exact q1y (q54 _ _ _) fun x a => zc6 b k _ _
theorem qkz (vec : List Int) (b : Bs) : ∀ (k rep : Nat) (acc : List Sn) (p : Nat), noZ (q3t vec b k rep acc p)
 | 0, rep, acc, p => qc5 _
 | k + 1, rep, acc, p => by
  rw [q3t]
  refine q1y (q54 _ _ _) fun x a => ?_
  split
  ·exact qky (by decide)
  ·refine q1y (q54 _ _ _) fun x a => q1y (q54 _ _ _) fun x a => ?_
   split
   ·exact qky (by decide)
   ·exact qkz vec b k _ _ _
theorem qff (b : Bs) (p : Nat) : noZ (q1r b p) :=
 q1y (q54 _ _ _) fun x a => q1y (zc6 _ _ _ _) fun x a => q1y (qc6 _ _ _) fun x a => q1y (qkz _ _ _ _ _ _) fun x a => qc5 _
theorem qz2 (b : Bs) : ∀ (k rep next : Nat) (acc : List Ent) (p : Nat), noZ (q9g b k rep next acc p)
 | 0, rep, next, acc, p => qc5 _
 | k + 1, rep, next, acc, p => by
  rw [q9g]
  exact q1y (q54 _ _ _) fun x a => q1y (q54 _ _ _) fun x a => noZ_ite (qky (by decide)) (q1y (qz0 _ _ _) fun x a => q1y (q54 _ _ _) fun x a => qz2 b k _ _ _ _)
theorem qbu (b : Bs) (p : Nat) : noZ (q0c b p) := q1y (qc6 _ _ _) fun x a => qz2 _ _ _ _ _ _
theorem qz1 (b : Bs) : ∀ (k : Nat) (acc : List Rec) (p : Nat), noZ (q9f b k acc p)
 | 0, acc, p => qc5 _
 | k + 1, acc, p => by
  rw [q9f]
  exact q1y (qz0 _ _ _) fun x a => q1y (qff _ _) fun x a => qz1 b k _ _
theorem qbs (b : Bs) (p : Nat) : noZ (q08 b p) := q1y (qc6 _ _ _) fun x a => qz1 _ _ _ _
theorem ev_k59 (b : Bs) (hb : b.length ≤ 900000000000) : Ev (En Tryz.prog rfl).P 59 [.sl 1 (q13 b), .fn 60 []] (.ret (.tup [q17 (rdV ⟨[], []⟩ (q1r b 0)), .bool (qda b (q1r b 0))])) := by
 have he := qo8 b hb 103 (rdA (q1r b 0)) (rdE (q1r b 0)) [.fn 60 []] [.nil, .nil] (rdO (q1r b 0) [.nil, .nil] z0s) rfl rfl (by
  cases q1r b 0 with
  | ok q => exact qfi _
  | error q => rfl) (qo7 b hb) (qf1 fun e a h => qff b 0 e a h)
 refine Ev.of_body it_k59 (by simp) (Run.start ?_)
 unfold t_k59
 generalize hx : SC.ops false qna = X
 (focus (have hF := @q00; (repeat' (first | refine go1 (k:=?_) | with_reducible refine Ny.of ?_ ?_ | (refine Hyp.of ?_; intro hc; (try simp only [hc]); (try simp only [Bh] at hc)))); all_goals clear hF))
 refine qge 3 6 (by with_unfolding_all rfl) (by with_unfolding_all rfl) (by with_unfolding_all rfl) (by with_unfolding_all rfl) (by decide) (q0a b) rfl rfl (by
  cases q1r b 0 with
  | ok q => exact qfi _
  | error q => rfl) he ?_
 dsimp only [AS.put]
 (focus (have hF := @q00; (repeat' (first | refine go1 (k:=?_) | with_reducible refine Ny.of ?_ ?_ | (refine Hyp.of ?_; intro hc; (try simp only [hc]); (try simp only [Bh] at hc)))); all_goals clear hF))
 have hE : (q41 b (rdA (q1r b 0)) (rdE (q1r b 0)) = 0) = (qda b (q1r b 0) = true) := by simp [qda]
 generalize q41 b (rdA (q1r b 0)) (rdE (q1r b 0)) = y at hE
 generalize qda b (q1r b 0) = yo at hE ⊢
 refine Run.wk (Wk.cells_nil (k := 6) (ds := z0s (rdV ⟨[], []⟩ (q1r b 0))) (by with_unfolding_all rfl) ?_) ?_
 ·cases q1r b 0 with
  | ok q => exact q33 _
  | error q => exact sub2
 subst hx
 generalize rdV ⟨[], []⟩ (q1r b 0) = x
 have hC : z0s x = [.sl 1 (q04 x.vec), .sl 3 (q0j x.cloud)] := rfl
 have hD : decide (yo = true) = yo := by simp
 (focus (have hF := (aI (aI @q00 @hC) (aI @hE @hD)); (repeat' (first | refine go1 (k:=?_) | with_reducible refine Ny.of ?_ ?_ | (refine Hyp.of ?_; intro hc; (try simp only [hc]); (try simp only [Bh] at hc)))); all_goals clear hF))
 exact Fin.all (xs := [q17 x, .bool yo]) rfl (by simp [q0o, AVal.stb, q0w]) rfl
theorem ev_k61 (b : Bs) (hb : b.length ≤ 900000000000) : Ev (En Tryz.prog rfl).P 61 [.sl 1 (q13 b), .fn 62 []] (.ret (.tup [.sl 4 (q0l (rdV [] (q0c b 0))), .bool (qda b (q0c b 0))])) := by
 have he := qo8 b hb 107 (rdA (q0c b 0)) (rdE (q0c b 0)) [.fn 62 []] [.nil] (rdO (q0c b 0) [.nil] qo5) rfl rfl (by
  cases q0c b 0 with
  | ok q => exact by simp [rdO, qo5, q0n, AVal.stb, q0d]
  | error q => rfl) (qls b hb) (qf1 fun e a h => qbu b 0 e a h)
 refine Ev.of_body it_k61 (by simp) (Run.start ?_)
 unfold t_k61
 generalize hx : SC.ops false qn8 = X
 (focus (have hF := @q00; (repeat' (first | refine go1 (k:=?_) | with_reducible refine Ny.of ?_ ?_ | (refine Hyp.of ?_; intro hc; (try simp only [hc]); (try simp only [Bh] at hc)))); all_goals clear hF))
 refine qge 3 6 (by with_unfolding_all rfl) (by with_unfolding_all rfl) (by with_unfolding_all rfl) (by with_unfolding_all rfl) (by decide) (q0a b) rfl rfl (by
  cases q0c b 0 with
  | ok q => exact by simp [rdO, qo5, q0n, AVal.stb, q0d]
  | error q => rfl) he ?_
 dsimp only [AS.put]
 (focus (have hF := @q00; (repeat' (first | refine go1 (k:=?_) | with_reducible refine Ny.of ?_ ?_ | (refine Hyp.of ?_; intro hc; (try simp only [hc]); (try simp only [Bh] at hc)))); all_goals clear hF))
 have hE : (q41 b (rdA (q0c b 0)) (rdE (q0c b 0)) = 0) = (qda b (q0c b 0) = true) := by simp [qda]
 generalize q41 b (rdA (q0c b 0)) (rdE (q0c b 0)) = y at hE
 generalize qda b (q0c b 0) = yo at hE ⊢
 refine Run.wk (Wk.cells_nil (k := 6) (ds := qo5 (rdV [] (q0c b 0))) (by with_unfolding_all rfl) ?_) ?_
 ·cases q0c b 0 with
  | ok q => exact q33 _
  | error q => exact ⟨.inr ⟨rfl, 4, rfl⟩, trivial⟩
 subst hx
 generalize rdV [] (q0c b 0) = x
 have hC : qo5 x = [.sl 4 (q0l x)] := rfl
 have hD : decide (yo = true) = yo := by simp
 (focus (have hF := (aI (aI @q00 @hC) (aI @hE @hD)); (repeat' (first | refine go1 (k:=?_) | with_reducible refine Ny.of ?_ ?_ | (refine Hyp.of ?_; intro hc; (try simp only [hc]); (try simp only [Bh] at hc)))); all_goals clear hF))
 exact Fin.all (xs := [.sl 4 (q0l x), .bool yo]) rfl (by simp [q0o, AVal.stb, q0d]) rfl
theorem ev_k65 (b : Bs) (hb : b.length ≤ 900000000000) : Ev (En Tryz.prog rfl).P 65 [.sl 1 (q13 b), .fn 66 []] (.ret (.tup [.sl 3 (q1j (rdV [] (q08 b 0))), .bool (qda b (q08 b 0))])) := by
 have he := qo8 b hb 111 (rdA (q08 b 0)) (rdE (q08 b 0)) [.fn 66 []] [.nil] (rdO (q08 b 0) [.nil] qn1) rfl rfl (by
  cases q08 b 0 with
  | ok q => exact by simp [rdO, qn1, q0n, AVal.stb, q0f]
  | error q => rfl) (qg7 b hb) (qf1 fun e a h => qbs b 0 e a h)
 refine Ev.of_body it_k65 (by simp) (Run.start ?_)
 unfold t_k65
 generalize hx : SC.ops false qn7 = X
 (focus (have hF := @q00; (repeat' (first | refine go1 (k:=?_) | with_reducible refine Ny.of ?_ ?_ | (refine Hyp.of ?_; intro hc; (try simp only [hc]); (try simp only [Bh] at hc)))); all_goals clear hF))
 refine qge 3 6 (by with_unfolding_all rfl) (by with_unfolding_all rfl) (by with_unfolding_all rfl) (by with_unfolding_all rfl) (by decide) (q0a b) rfl rfl (by
  cases q08 b 0 with
  | ok q => exact by simp [rdO, qn1, q0n, AVal.stb, q0f]
  | error q => rfl) he ?_
 dsimp only [AS.put]
 (focus (have hF := @q00; (repeat' (first | refine go1 (k:=?_) | with_reducible refine Ny.of ?_ ?_ | (refine Hyp.of ?_; intro hc; (try simp only [hc]); (try simp only [Bh] at hc)))); all_goals clear hF))
 have hE : (q41 b (rdA (q08 b 0)) (rdE (q08 b 0)) = 0) = (qda b (q08 b 0) = true) := by simp [qda]
 generalize q41 b (rdA (q08 b 0)) (rdE (q08 b 0)) = y at hE
 generalize qda b (q08 b 0) = yo at hE ⊢
 refine Run.wk (Wk.cells_nil (k := 6) (ds := qn1 (rdV [] (q08 b 0))) (by with_unfolding_all rfl) ?_) ?_
 ·cases q08 b 0 with
  | ok q => exact q33 _
  | error q => exact ⟨.inr ⟨rfl, 3, rfl⟩, trivial⟩
 subst hx
 generalize rdV [] (q08 b 0) = x
 have hC : qn1 x = [.sl 3 (q1j x)] := rfl
 have hD : decide (yo = true) = yo := by simp
 (focus (have hF := (aI (aI @q00 @hC) (aI @hE @hD)); (repeat' (first | refine go1 (k:=?_) | with_reducible refine Ny.of ?_ ?_ | (refine Hyp.of ?_; intro hc; (try simp only [hc]); (try simp only [Bh] at hc)))); all_goals clear hF))
 exact Fin.all (xs := [.sl 3 (q1j x), .bool yo]) rfl (by simp [q0o, AVal.stb, q0f]) rfl
def z1v {α : Type} (z : α) (ok : α → Bool) (b : Bs) (r : Rs α) : α := if (qda b r && ok (rdV z r)) = true then rdV z r else z
def qfu {α : Type} (z : α) (ok : α → Bool) (b : Bs) (r : Rs α) : Int := if (qda b r && ok (rdV z r)) = true then 0 else 8
theorem ev_k23 (b : Bs) (hb : b.length ≤ 900000000000) (hw : wt (rdV ⟨[], []⟩ (q1r b 0)) ≤ 40000000) : Ev (En Tryz.prog rfl).P 23 [.sl 1 (q13 b)] (.ret (.tup [q17 (z1v ⟨[], []⟩ q0u b (q1r b 0)), .int .i64 (qfu ⟨[], []⟩ q0u b (q1r b 0))])) := by
 refine Ev.of_body it_k23 (by simp) (AW.wkEnd (Run.start ?_))
 unfold t_k23
 (focus (have hF := @q00; (repeat' (first | refine go1 (k:=?_) | with_reducible refine Ny.of ?_ ?_ | (refine Hyp.of ?_; intro hc; (try simp only [hc]); (try simp only [Bh] at hc)))); all_goals clear hF))
 refine q01 [.sl 1 (q13 b), .fn 60 []] (he := ev_k59 b hb) (k:=?_)
 unfold z1v qfu
 generalize rdV ⟨[], []⟩ (q1r b 0) = x at *
 generalize qda b (q1r b 0) = yo
 unfold q17
 cases yo with
 | false =>
  (focus (have hF := @q00; (repeat' (first | refine go1 (k:=?_) | with_reducible refine Ny.of ?_ ?_ | (refine Hyp.of ?_; intro hc; (try simp only [hc]); (try simp only [Bh] at hc)))); all_goals clear hF))
  exact Fin.done ⟨_, Wk.cells_nil (k := 2) rfl sub2, [q17 ⟨[], []⟩, .int .i64 8], by with_unfolding_all rfl, by simp [q0o, q0w, AVal.stb], _, q33 _, rfl⟩
 | true =>
  (focus (have hF := @q00; (repeat' (first | refine go1 (k:=?_) | with_reducible refine Ny.of ?_ ?_ | (refine Hyp.of ?_; intro hc; (try simp only [hc]); (try simp only [Bh] at hc)))); all_goals clear hF))
  refine q01 [q17 x] (he := zd3 x hw) (k:=?_)
  cases hn : q0u x with
  | false =>
   (focus (have hF := @q00; (repeat' (first | refine go1 (k:=?_) | with_reducible refine Ny.of ?_ ?_ | (refine Hyp.of ?_; intro hc; (try simp only [hc]); (try simp only [Bh] at hc)))); all_goals clear hF))
   exact Fin.done ⟨_, Wk.cells_nil (k := 2) rfl sub2, [q17 ⟨[], []⟩, .int .i64 8], by with_unfolding_all rfl, by simp [q0o, q0w, AVal.stb], _, q33 _, rfl⟩
  | true =>
   (focus (have hF := @q00; (repeat' (first | refine go1 (k:=?_) | with_reducible refine Ny.of ?_ ?_ | (refine Hyp.of ?_; intro hc; (try simp only [hc]); (try simp only [Bh] at hc)))); all_goals clear hF))
   exact Fin.done ⟨_, Wk.refl _ _, [q17 x, .int .i64 0], by with_unfolding_all rfl, by simp [q0o, q0w, AVal.stb], _, q33 _, rfl⟩
theorem ev_k24 (b : Bs) (hb : b.length ≤ 900000000000) (hw : (rdV [] (q0c b 0)).length ≤ 1000000000) : Ev (En Tryz.prog rfl).P 24 [.sl 1 (q13 b)] (.ret (.tup [.sl 4 (q0l (z1v [] q2x b (q0c b 0))), .int .i64 (qfu [] q2x b (q0c b 0))])) := by
 refine Ev.of_body it_k24 (by simp) (Run.start ?_)
 unfold t_k24
 have hS := qhh
 (focus (have hF := @q00; (repeat' (first | refine go1 (k:=?_) | with_reducible refine Ny.of ?_ ?_ | (refine Hyp.of ?_; intro hc; (try simp only [hc]); (try simp only [Bh] at hc)))); all_goals clear hF))
 refine q01 [.sl 1 (q13 b), .fn 62 []] (he := ev_k61 b hb) (k:=?_)
 unfold z1v qfu
 generalize rdV [] (q0c b 0) = x at *
 generalize qda b (q0c b 0) = yo
 cases yo with
 | false =>
  (focus (have hF := @q00; (repeat' (first | refine go1 (k:=?_) | with_reducible refine Ny.of ?_ ?_ | (refine Hyp.of ?_; intro hc; (try simp only [hc]); (try simp only [Bh] at hc)))); all_goals clear hF))
  exact Fin.two rfl rfl rfl rfl (.inr ⟨rfl, 4, rfl⟩) (.inl rfl)
 | true =>
  (focus (have hF := @q00; (repeat' (first | refine go1 (k:=?_) | with_reducible refine Ny.of ?_ ?_ | (refine Hyp.of ?_; intro hc; (try simp only [hc]); (try simp only [Bh] at hc)))); all_goals clear hF))
  refine q01 [.sl 4 (q0l x)] (he := ev_k49 x hw) (k:=?_)
  cases hn : q2x x with
  | false =>
   (focus (have hF := @q00; (repeat' (first | refine go1 (k:=?_) | with_reducible refine Ny.of ?_ ?_ | (refine Hyp.of ?_; intro hc; (try simp only [hc]); (try simp only [Bh] at hc)))); all_goals clear hF))
   exact Fin.two rfl rfl rfl rfl (.inr ⟨rfl, 4, rfl⟩) (.inl rfl)
  | true =>
   (focus (have hF := @q00; (repeat' (first | refine go1 (k:=?_) | with_reducible refine Ny.of ?_ ?_ | (refine Hyp.of ?_; intro hc; (try simp only [hc]); (try simp only [Bh] at hc)))); all_goals clear hF))
   exact Fin.two (y := .sl 4 (q0l x)) rfl (q0d x) rfl rfl (.inl rfl) (.inl rfl)
theorem ev_k26 (b : Bs) (hb : b.length ≤ 900000000000) (hl : (rdV [] (q08 b 0)).length ≤ 1000000000) (hw : ∀ r ∈ rdV [] (q08 b 0), wt r.past ≤ 40000000) : Ev (En Tryz.prog rfl).P 26 [.sl 1 (q13 b)] (.ret (.tup [.sl 3 (q1j (z1v [] q4o b (q08 b 0))), .int .i64 (qfu [] q4o b (q08 b 0))])) := by
 refine Ev.of_body it_k26 (by simp) (Run.start ?_)
 unfold t_k26
 have hS := qhh
 (focus (have hF := @q00; (repeat' (first | refine go1 (k:=?_) | with_reducible refine Ny.of ?_ ?_ | (refine Hyp.of ?_; intro hc; (try simp only [hc]); (try simp only [Bh] at hc)))); all_goals clear hF))
 refine q01 [.sl 1 (q13 b), .fn 66 []] (he := ev_k65 b hb) (k:=?_)
 unfold z1v qfu
 generalize rdV [] (q08 b 0) = x at *
 generalize qda b (q08 b 0) = yo
 cases yo with
 | false =>
  (focus (have hF := @q00; (repeat' (first | refine go1 (k:=?_) | with_reducible refine Ny.of ?_ ?_ | (refine Hyp.of ?_; intro hc; (try simp only [hc]); (try simp only [Bh] at hc)))); all_goals clear hF))
  exact Fin.two rfl rfl rfl rfl (.inr ⟨rfl, 3, rfl⟩) (.inl rfl)
 | true =>
  (focus (have hF := @q00; (repeat' (first | refine go1 (k:=?_) | with_reducible refine Ny.of ?_ ?_ | (refine Hyp.of ?_; intro hc; (try simp only [hc]); (try simp only [Bh] at hc)))); all_goals clear hF))
  refine q01 [.sl 3 (q1j x)] (he := q8x x hl hw) (k:=?_)
  cases hn : q4o x with
  | false =>
   (focus (have hF := @q00; (repeat' (first | refine go1 (k:=?_) | with_reducible refine Ny.of ?_ ?_ | (refine Hyp.of ?_; intro hc; (try simp only [hc]); (try simp only [Bh] at hc)))); all_goals clear hF))
   exact Fin.two rfl rfl rfl rfl (.inr ⟨rfl, 3, rfl⟩) (.inl rfl)
  | true =>
   (focus (have hF := @q00; (repeat' (first | refine go1 (k:=?_) | with_reducible refine Ny.of ?_ ?_ | (refine Hyp.of ?_; intro hc; (try simp only [hc]); (try simp only [Bh] at hc)))); all_goals clear hF))
   exact Fin.two (y := .sl 3 (q1j x)) rfl (q0f x) rfl rfl (.inl rfl) (.inl rfl)
end
theorem qce (t : Tab) (r : Nat) : 0 ≤ q3c t r ∧ q3c t r ≤ 1000000000 ∧ (q3s t r).Pairwise qmy ∧ ∀ x ∈ q3s t r, okR x ∧ q3c t r + 2 ≤ x.1 := by
 unfold q3c q3s
 have hc := q2f (t.getD r [])
 cases hl : q16 (t.getD r []) with
 | nil => simp [q1h]
 | cons x l =>
  rw [hl] at hc
  have hp := hc.1
  have ho := hc.2
  have hx : okR x := ho x (by simp)
  rw [List.pairwise_cons] at hp
  unfold okR at hx
  by_cases h1 : x.1 = 1
  ·rw [q72 h1]
   refine ⟨by simp only; omega, by simp only; omega, hp.2, fun y hy => ⟨ho y (by simp [hy]), ?_⟩⟩
   have := hp.1 y hy
   unfold qmy at this
   simp only
   omega
  ·rw [q8m h1]
   refine ⟨by simp, by simp, by simp only; rw [List.pairwise_cons]; exact hp, fun y hy => ⟨ho y hy, ?_⟩⟩
   simp only at hy ⊢
   rcases List.mem_cons.1 hy with rfl | hy
   ·omega
   ·have := hp.1 y hy
    unfold qmy at this
    omega
theorem lowI_T (t : Tab) {r : Nat} (hr : r < 16) : lowI (q52 t).vec r = q3c t r + 2 := by
 unfold lowI q52
 simp only
 rw [List.getElem?_take]
 by_cases h : r < q22 t 16
 ·rw [if_pos h, q9j t hr]
 ·rw [if_neg h]
  have h1 := q6v t 16 r hr (by omega)
  have h2 := (qce t r).1
  simp only
  omega
theorem z0c {vec : List Int} : ∀ {l sf m : List Sn}, ze7 vec sf l → ze7 vec (sf ++ l) m → ze7 vec sf (l ++ m)
 | [], sf, m, _, h => by simpa using h
 | x :: l, sf, m, h1, h2 => ⟨h1.1, z0c h1.2 (by simpa using h2)⟩
theorem qnv {vec : List Int} {r : Nat} (sf : List Sn) (lo hi : Int) : q1x vec r (sf ++ [((r : Int), lo, hi)]) = hi + 2 := by
 unfold q1x
 rw [List.getLast?_append]
 simp
theorem z0a {vec : List Int} {r : Nat} (hr : r ≤ 15) : ∀ (xs : List Rn) (sf : List Sn), xs.Pairwise qmy → (∀ x ∈ xs, okR x) → 0 ≤ q5d sf → q5d sf ≤ (r : Int) → (∀ x ∈ xs, q1x vec r sf ≤ x.1) → ze7 vec sf (xs.map (q3e r))
 | [], sf, _, _, _, _, _ => trivial
 | x :: xs, sf, hp, ho, h1, h2, h3 => by
  rw [List.pairwise_cons] at hp
  have hx := ho x (by simp)
  unfold okR at hx
  refine ⟨⟨h1, h2, by simp only [q3e]; omega, ?_, by simp only [q3e]; omega, by simp only [q3e]; omega⟩, z0a hr xs _ hp.2 (fun y hy => ho y (by simp [hy])) ?_ ?_ fun y hy => ?_⟩
  ·simp only [q3e, Int.toNat_natCast]
   exact h3 x (by simp)
  ·rw [q5c]
   simp only [q3e]
   omega
  ·rw [q5c]
   simp only [q3e]
   omega
  ·have := hp.1 y hy
   unfold qmy at this
   unfold q3e
   rw [qnv]
   omega
theorem qly (t : Tab) : ∀ n, n ≤ 16 → ze7 (q52 t).vec [] (q11 t n) ∧ ∀ s ∈ q11 t n, 0 ≤ s.1 ∧ s.1 < (n : Int)
 | 0, _ => ⟨trivial, fun s hs => by simp [q11] at hs⟩
 | n + 1, hn => by
  obtain ⟨h1, h2⟩ := qly t n (by omega)
  obtain ⟨l1, l2, l3, l4⟩ := qce t n
  rw [q4r]
  have hrep : 0 ≤ q5d (q11 t n) ∧ q5d (q11 t n) ≤ (n : Int) := by
   unfold q5d
   cases hg : (q11 t n).getLast? with
   | none => simp only; omega
   | some s => have := h2 s (List.mem_of_getLast? hg); simp only; omega
  have hle : q1x (q52 t).vec n (q11 t n) = q3c t n + 2 := by
   rw [← lowI_T t (by omega : n < 16)]
   unfold q1x
   cases hg : (q11 t n).getLast? with
   | none => rfl
   | some s =>
    have := h2 s (List.mem_of_getLast? hg)
    simp only
    rw [if_neg (by omega)]
  refine ⟨z0c h1 ?_, fun s hs => ?_⟩
  ·rw [List.nil_append]
   refine z0a (by omega) _ _ l3 (fun x hx => (l4 x hx).1) hrep.1 hrep.2 fun x hx => ?_
   rw [hle]
   exact (l4 x hx).2
  ·rcases List.mem_append.1 hs with hs | hs
   ·have := h2 s hs; omega
   ·simp only [q3o, List.mem_map] at hs
    obtain ⟨x, _, rfl⟩ := hs
    simp only [q3e]
    omega
theorem pastT_PF (t : Tab) : PF (q52 t) := by
 refine ⟨?_, fun x hx => ?_, (qly t 16 (Nat.le_refl _)).1⟩
 ·show ((q1l t 16).take (q22 t 16)).length ≤ 16
  rw [List.length_take, q24]
  omega
 ·have hx : x ∈ q1l t 16 := List.mem_of_mem_take hx
  simp only [q1l, List.mem_map] at hx
  obtain ⟨r, _, rfl⟩ := hx
  exact ⟨(qce t r).1, (qce t r).2.1⟩
theorem q2a {p : Pst} (h : q0u p = true) : PF p := by
 have := q2v.1 h
 unfold CanP at this
 rw [← this]
 exact pastT_PF _
theorem z0b {vec : List Int} : ∀ {l sf : List Sn} {i : Nat} {s : Sn}, ze7 vec sf l → l[i]? = some s → spanF vec (sf ++ l.take i) s
 | [], sf, i, s, _, h => by simp at h
 | x :: l, sf, 0, s, hc, h => by simp at h; subst h; simpa using hc.1
 | x :: l, sf, i + 1, s, hc, h => by
  have := z0b hc.2 (by simpa using h)
  simpa using this
theorem ze6 {vec : List Int} (hv : z1t vec) : ∀ {l sf : List Sn}, zc3 sf → ze7 vec sf l → zc3 (sf ++ l)
 | [], sf, h, _ => by simpa using h
 | x :: l, sf, h, hc => by
  have := ze6 hv (qc2 hv h hc.1) hc.2
  simpa using this
theorem PF.pw {p : Pst} (h : PF p) (hl : p.cloud.length ≤ 1000000000) : PW p := by
 have hcr : zc3 p.cloud := by simpa using ze6 h.v (fun s hs => by cases hs) h.c
 have := h.vl
 refine ⟨by omega, h.v, hl, hcr, fun i s hs => ?_⟩
 have h1 := z0b h.c hs
 rw [List.nil_append] at h1
 obtain ⟨q1, q2, q3, q4, q5, q6⟩ := h1
 exact ⟨q1, q2, by omega, q4, q5, q6⟩
theorem EntsF_of {l : List Ent} : ∀ {sf : List Ent}, (∀ (i : Nat) e, l[i]? = some e → entF (sf ++ l.take i) e) → qgg sf l := by
 induction l with
 | nil => intro sf _; trivial
 | cons x l ih =>
  intro sf h
  refine ⟨by simpa using h 0 x rfl, ih fun i e he => ?_⟩
  have := h (i + 1) e (by simpa using he)
  simpa using this
theorem qcr {e : Ent} (h : q48 e = 0) : 0 ≤ e.rep ∧ e.rep ≤ 15 ∧ 1 ≤ e.num ∧ e.num ≤ 1000000000 ∧ q6k e.sku = true ∧ 1 ≤ e.qty ∧ e.qty ≤ 1000000 := by
 unfold q48 at h
 by_cases h1 : e.rep < 0 ∨ 16 ≤ e.rep
 ·rw [if_pos h1] at h; omega
 ·rw [if_neg h1] at h
  by_cases h2 : e.num < 1 ∨ 1000000000 < e.num
  ·rw [if_pos h2] at h; omega
  ·rw [if_neg h2] at h
   by_cases h3 : q6k e.sku = false
   ·rw [if_pos h3] at h; omega
   ·rw [if_neg h3] at h
    by_cases h4 : e.qty < 1 ∨ 1000000 < e.qty
    ·rw [if_pos h4] at h; omega
    ·refine ⟨by omega, by omega, by omega, by omega, by simpa using h3, by omega, by omega⟩
theorem q9m {s : ByteArray} (h : q6k s = true) : 1 ≤ s.size ∧ s.size ≤ 24 := by
 unfold q6k qgj at h
 by_cases h1 : s.size = 0
 ·rw [if_pos h1] at h; simp at h
 ·rw [if_neg h1] at h
  by_cases h2 : 24 < s.size
  ·rw [if_pos h2] at h; simp at h
  ·omega
theorem qe6 {l : List Ent} (h : q2x l = true) (i : Nat) (e : Ent) (he : l[i]? = some e) : entF (l.take i) e := by
 obtain ⟨h1, h2⟩ := ql8.1 h
 obtain ⟨a1, a2, a3, a4, a5, a6, a7⟩ := qcr (h1 i e he)
 have a8 := q9m a5
 cases i with
 | zero =>
  refine ⟨by simp [qae], by simp [qae]; omega, a2, by simp [q65], by simp [q65], ?_, a4, a8.2, a6, by omega⟩
  unfold q3d
  simp only [List.take_zero, qae, q65, List.getLast?_nil, ite_self]
  omega
 | succ j =>
  have hlt : j + 1 < l.length := (List.getElem?_eq_some_iff.1 he).1
  have hg : l[j]? = some (l[j]) := List.getElem?_eq_getElem (by omega)
  obtain ⟨b1, b2, b3, b4, b5, b6, b7⟩ := qcr (h1 j _ hg)
  have hd := h2 j _ _ hg he
  rw [q2n hg]
  generalize l[j] = x at *
  have hdl : x.rep < e.rep ∨ (x.rep = e.rep ∧ x.num < e.num) := by
   unfold q66 Ent.dot at hd
   simpa using hd
  refine ⟨by rw [q5b]; omega, by rw [q5b]; omega, a2, by rw [q4f]; omega, by rw [q4f]; omega, ?_, a4, a8.2, a6, by omega⟩
  unfold q3d
  rw [q5b, q4f]
  split <;> omega
theorem q4p {l : List Ent} (h : q2x l = true) : qgg [] l := EntsF_of fun i e he => by
 rw [List.nil_append]
 exact qe6 h i e he
theorem q8r {l : List Ent} (hl : l.length ≤ 100000000) (h : q2x l = true) : EW l := ⟨hl, fun i e he => by
 obtain ⟨q1, q2, q3, q4, q5, q6, q7, q8, q9, q10⟩ := qe6 h i e he
 exact ⟨q1, q2, by omega, q4, by omega, q6, q7, by omega, q9, by omega⟩⟩
theorem q8q {l : List Ent} (h : q2x l = true) : ∀ e ∈ l, 1 ≤ e.sku.size ∧ e.qty ≤ 1000000 := fun e he => by
 obtain ⟨i, hi⟩ := List.mem_iff_getElem?.1 he
 obtain ⟨a1, a2, a3, a4, a5, a6, a7⟩ := qcr ((ql8.1 h).1 i e hi)
 exact ⟨(q9m a5).1, a7⟩
theorem size_empty : q88 ⟨[], []⟩ = 0 := by
 have h : q1o [⟨[], []⟩] = List.replicate 16 [] := by decide
 have n0 : q16 [] = [] := q1a Can.nil
 unfold q88 q21
 rw [h]
 have : ∀ r, (List.replicate 16 ([] : List Rn)).getD r [] = [] := fun r => by
  rw [List.getD_eq_getElem?_getD, List.getElem?_replicate]
  split <;> rfl
 simp only [this, n0]
 rfl
theorem q73 {l : List Rec} (h : q4o l = true) : ∀ r ∈ l, (r.sku.size ≤ 24 ∧ PF r.past) ∧ (r.past.vec ≠ [] ∨ r.past.cloud ≠ []) := fun r hr => by
 obtain ⟨i, hi⟩ := List.mem_iff_getElem?.1 hr
 have he := (zcs.1 h).1 i r hi
 unfold q46 at he
 by_cases h1 : ¬ r.sku.size = 0 ∧ q6k r.sku = false
 ·rw [if_pos h1] at he; omega
 ·rw [if_neg h1] at he
  by_cases h2 : q0u r.past = false ∨ q88 r.past = 0
  ·rw [if_pos h2] at he; omega
  ·have hn : q0u r.past = true := by
    cases hq : q0u r.past with
    | true => rfl
    | false => exact absurd (.inl hq) h2
   refine ⟨⟨?_, q2a hn⟩, ?_⟩
   ·by_cases h0 : r.sku.size = 0
    ·omega
    ·refine (q9m ?_).2
     cases hg : q6k r.sku with
     | true => rfl
     | false => exact absurd ⟨h0, hg⟩ h1
   ·by_cases hv : r.past.vec = []
    ·refine .inr fun hc => h2 (.inr ?_)
     obtain ⟨s, ⟨v, c⟩⟩ := r
     simp only at hv hc
     subst hv
     subst hc
     exact size_empty
    ·exact .inl hv
theorem qn2 {b : Bs} : q41 b b.length 0 = 0 := by simp [q41]
theorem qpn {α : Type} {b : Bs} {r : Rs α} (hz : noZ r) (hle : ∀ x a, r = .ok (x, a) → a ≤ b.length) : qda b r = true ↔ ∃ x, r = .ok (x, b.length) := by
 unfold qda
 rw [decide_eq_true_eq]
 constructor
 ·intro h
  cases hr : r with
  | error q =>
   obtain ⟨e, a⟩ := q
   rw [hr] at h
   have he := hz e a hr
   simp only [rdE, rdA, q41, if_neg he] at h
   omega
  | ok q =>
   obtain ⟨x, a⟩ := q
   rw [hr] at h
   have := hle x a hr
   change q41 b a 0 = 0 at h
   by_cases hlt : a < b.length
   ·have h52 : q41 b a 0 = 52 := by simp [q41, hlt]
    omega
   ·exact ⟨x, by rw [show a = b.length by omega]⟩
 ·rintro ⟨x, rfl⟩
  exact qn2

def fixP : Pst := ⟨[4], [(0, 6, 12), (1, 2, 2)]⟩
def qo0 : List Ent := [⟨2, 1, ⟨#[65]⟩, 5⟩]
def qmj : List Rec := [⟨⟨#[]⟩, ⟨[1], []⟩⟩]
def z11 : Bs := [1, 4, 2, 0, 0, 6, 1, 0, 0]
def qfy : Bs := [1, 2, 0, 1, 65, 4]
def qfx : Bs := [1, 0, 1, 1, 0]
theorem qkw {p : Pst} {m : Tab} (h : q1o [p] = m) (hm : m.map q16 = m) : q0r p = pastN m := by
 unfold q0r
 rw [qnk, h, hm]
theorem zcu : q0u fixP = true := by
 refine q2v.2 ?_
 unfold CanP
 have h : q1o [fixP] = [[(1, 4), (6, 12)], [(2, 2)], [], [], [], [], [], [], [], [], [], [], [], [], [], []] := by decide
 have n0 : q16 [] = [] := q1a Can.nil
 have n1 : q16 [(1, 4), (6, 12)] = [(1, 4), (6, 12)] := q1a ⟨by simp [qmy], by simp [okR]⟩
 have n2 : q16 [(2, 2)] = [(2, 2)] := q1a ⟨by simp, by simp [okR]⟩
 rw [qkw h (by simp only [List.map_cons, List.map_nil, n0, n1, n2])]
 rfl
theorem qks : q0u ⟨[1], []⟩ = true := by
 refine q2v.2 ?_
 unfold CanP
 have h : q1o [⟨[1], []⟩] = [[(1, 1)], [], [], [], [], [], [], [], [], [], [], [], [], [], [], []] := by decide
 have n0 : q16 [] = [] := q1a Can.nil
 have n1 : q16 [(1, 1)] = [(1, 1)] := q1a ⟨by simp, by simp [okR]⟩
 rw [qkw h (by simp only [List.map_cons, List.map_nil, n0, n1])]
 rfl
theorem qkr : q88 ⟨[1], []⟩ ≠ 0 := by
 have h : q1o [⟨[1], []⟩] = [[(1, 1)], [], [], [], [], [], [], [], [], [], [], [], [], [], [], []] := by decide
 have n0 : q16 [] = [] := q1a Can.nil
 have n1 : q16 [(1, 1)] = [(1, 1)] := q1a ⟨by simp, by simp [okR]⟩
 unfold q88 q21
 rw [h]
 have hr : List.range 16 = [0, 1, 2, 3, 4, 5, 6, 7, 8, 9, 10, 11, 12, 13, 14, 15] := rfl
 rw [hr]
 simp [n0, n1, qex, q1c]
theorem z10 : q1g fixP = z11 := by
 have e1 : q1x [4] 0 [] = 6 := rfl
 have e2 : q1x [4] 1 [(0, 6, 12)] = 2 := rfl
 simp [q1g, qao, q2c, qdc, fixP, z11, q5d, e1, e2, q43]
theorem z12 : q07 qo0 = qfy := by
 have e0 : ByteArray.size ⟨#[65]⟩ = 1 := rfl
 simp [q07, q36, qzk, qo0, qfy, qae, q65, q3d, q43, e0]
theorem z0z : q0s qmj = qfx := by
 have e0 : ByteArray.size ⟨#[]⟩ = 0 := rfl
 simp [q0s, q2d, z0q, q1g, qao, q2c, qmj, qfx, q43, e0]
theorem qck : q2x qo0 = true := by
 refine q9o ⟨fun i e he => ?_, fun i a b ha hb => ?_⟩
 ·match i with
  | 0 =>
   simp [qo0] at he
   subst he
   decide
  | i + 1 => simp [qo0] at he
 ·match i with
  | 0 => simp [qo0] at hb
  | i + 1 => simp [qo0] at hb
theorem qcj : q4o qmj = true := by
 refine q9n ⟨fun i r he => ?_, fun i a b ha hb => ?_⟩
 ·match i with
  | 0 =>
   simp [qmj] at he
   subst he
   have e0 : ByteArray.size ⟨#[]⟩ = 0 := rfl
   simp [q46, qks, qkr, e0]
  | i + 1 => simp [qmj] at he
 ·match i with
  | 0 => simp [qmj] at hb
  | i + 1 => simp [qmj] at hb

def z3s : List SOp := [zO 2 (.assign (.const (.slice none 0 0)))]
instance : Live z3s := ⟨[0]⟩
def z3r : List SOp := [zM 3 0,zO 4 (.binOp .eql 28 (.tmp 3) (.const (.slice none 0 0)) 28)]
instance : Live z3r := ⟨[0]⟩
def z3q : List SOp := [zO 2 (.assign (.const (.slice none 0 0)))]
instance : Live z3q := ⟨[]⟩
def z3p : List SOp := [zO 5 (.buildSlice 28 0 #[]),zM 6 0,zO 7 (.call ⟨.builtin .append,#[.tmp 5,.tmp 6],#[28,28]⟩),zG 2 7]
instance : Live z3p := ⟨[0]⟩
def t_k94 : SC :=
 (.seq (.ops false z3s) (.seq (.seq (.ops false z3r) (.cond (.tmp 4) (.seq (.ops false z3q) .ret) .skip)) (.seq (.ops false z3p) .ret)))
theorem it_k94 : FnIs Tryz.prog 94 8 [.tmp 2] t_k94 := ⟨Tryz.f94, _, Tryz.func94, rfl, rfl, rfl, rfl, by kernel_rfl⟩

def z8j : List SOp := [zO 2 (.assign (.const (.slice none 0 0))),zO 3 (.assign (.const (.int .i64 0)))]
instance : Live z8j := ⟨[0]⟩
def z8i : List SOp := [zM 4 0,zO 5 (.binOp .eql 92 (.tmp 4) (.const (.pointer none)) 92),zM 6 5,⟨some 7,.move (.tmp 0),some ((some 6),false)⟩,⟨some 8,.nilCheck (.tmp 7),some ((some 6),false)⟩,⟨some 9,.fieldAddr 91 (.tmp 8) 1,some ((some 6),false)⟩,⟨some 10,.load 4 (.tmp 9),some ((some 6),false)⟩,zO 11 (.pick (.tmp 6) (.const (.bool true)) (.tmp 10))]
instance : Live z8i := ⟨[0]⟩
def z8h : List SOp := [zO 2 (.assign (.const (.slice none 0 0))),zO 3 (.assign (.const (.int .i64 2)))]
instance : Live z8h := ⟨[]⟩
def z8g : List SOp := [zM 12 0,zO 13 (.nilCheck (.tmp 12)),zF 14 91 13 0,zL 15 28 14,zO 16 (.call ⟨.value (.func 94),#[.tmp 15],#[28]⟩),zG 2 16,zO 3 (.assign (.const (.int .i64 0)))]
instance : Live z8g := ⟨[0]⟩
def t_k48 : SC :=
 (.seq (.ops false z8j) (.seq (.seq (.ops false z8i) (.cond (.tmp 11) (.seq (.ops false z8h) .ret) .skip)) (.seq (.ops false z8g) .ret)))
theorem it_k48 : FnIs Tryz.prog 48 17 [.tmp 2, .tmp 3] t_k48 := ⟨Tryz.f48, _, Tryz.func48, rfl, rfl, rfl, rfl, by kernel_rfl⟩

def z8s : List SOp := [zO 0 (.assign (.const (.pointer none)))]
instance : Live z8s := ⟨[]⟩
def z8r : List SOp := [zO 1 (.build 91 #[]),zO 2 (.box 91 (.tmp 1)),zG 0 2]
instance : Live z8r := ⟨[]⟩
def t_k46 : SC :=
 (.seq (.ops false z8s) (.seq (.ops false z8r) .ret))
theorem it_k46 : FnIs Tryz.prog 46 3 [.tmp 0] t_k46 := ⟨Tryz.f46, _, Tryz.func46, rfl, rfl, rfl, rfl, by kernel_rfl⟩

def zbm : List SOp := [zO 1 (.box 25 (.tmp 0)),zO 2 (.assign (.const (.slice none 0 0))),zO 3 (.assign (.const (.int .i64 0)))]
instance : Live zbm := ⟨[0]⟩
def zbl : List SOp := [zL 5 25 1,zO 6 (.call ⟨.value (.func 45),#[.tmp 5],#[25]⟩),zO 7 (.unOp .not 4 (.tmp 6))]
instance : Live zbl := ⟨[1]⟩
def zbk : List SOp := [zO 2 (.assign (.const (.slice none 0 0))),zO 3 (.assign (.const (.int .i64 1)))]
instance : Live zbk := ⟨[]⟩
def zbj : List SOp := [zO 8 (.call ⟨.value (.func 46),#[],#[]⟩),zO 9 (.nilCheck (.tmp 8)),zL 10 91 9,zO 11 (.build 95 #[(0,.tmp 10)]),zO 4 (.alloc 95),⟨none,.store 95 (.tmp 4) (.tmp 11),none⟩]
instance : Live zbj := ⟨[1]⟩
def qni : List SOp := [zL 12 25 1,zO 13 (.call ⟨.value (.func 47),#[.tmp 4,.tmp 12],#[95,25]⟩)]
instance : Live qni := ⟨[1,4]⟩
def zbi : List SOp := [zF 14 95 4 0,zO 15 (.call ⟨.value (.func 48),#[.tmp 14],#[91]⟩),zX 16 15 0,zX 17 15 1,zG 2 16,zG 3 17]
instance : Live zbi := ⟨[4]⟩
def t_k12 : SC :=
 (.seq (.ops false zbm) (.seq (.seq (.ops false zbl) (.cond (.tmp 7) (.seq (.ops false zbk) .ret) .skip)) (.seq (.ops false zbj) (.seq (.ops false qni) (.seq (.ops false zbi) .ret)))))
theorem it_k12 : FnIs Tryz.prog 12 18 [.tmp 2, .tmp 3] t_k12 := ⟨Tryz.f12, _, Tryz.func12, rfl, rfl, rfl, rfl, by kernel_rfl⟩

def zb6 : List SOp := [zO 2 (.assign (.const (.slice none 0 0))),zO 3 (.assign (.const (.int .i64 0)))]
instance : Live zb6 := ⟨[0]⟩
def zb5 : List SOp := [zM 5 0,zO 6 (.call ⟨.value (.func 49),#[.tmp 5],#[26]⟩),zO 7 (.binOp .neq 35 (.tmp 6) (.const (.int .i64 0)) 35)]
instance : Live zb5 := ⟨[0]⟩
def zb4 : List SOp := [zO 2 (.assign (.const (.slice none 0 0))),zO 3 (.assign (.const (.int .i64 1)))]
instance : Live zb4 := ⟨[]⟩
def zb3 : List SOp := [zO 8 (.call ⟨.value (.func 46),#[],#[]⟩),zO 9 (.nilCheck (.tmp 8)),zL 10 91 9,zO 11 (.build 95 #[(0,.tmp 10)]),zO 4 (.alloc 95),⟨none,.store 95 (.tmp 4) (.tmp 11),none⟩]
instance : Live zb3 := ⟨[0]⟩
def qnh : List SOp := [zM 12 0,zO 13 (.call ⟨.value (.func 50),#[.tmp 4,.tmp 12],#[95,26]⟩)]
instance : Live qnh := ⟨[0,4]⟩
def zb2 : List SOp := [zF 14 95 4 0,zO 15 (.call ⟨.value (.func 48),#[.tmp 14],#[91]⟩),zX 16 15 0,zX 17 15 1,zG 2 16,zG 3 17]
instance : Live zb2 := ⟨[4]⟩
def t_k15 : SC :=
 (.seq (.ops false zb6) (.seq (.seq (.ops false zb5) (.cond (.tmp 7) (.seq (.ops false zb4) .ret) .skip)) (.seq (.ops false zb3) (.seq (.ops false qnh) (.seq (.ops false zb2) .ret)))))
theorem it_k15 : FnIs Tryz.prog 15 18 [.tmp 2, .tmp 3] t_k15 := ⟨Tryz.f15, _, Tryz.func15, rfl, rfl, rfl, rfl, by kernel_rfl⟩

def zaj : List SOp := [zO 2 (.assign (.const (.slice none 0 0))),zO 3 (.assign (.const (.int .i64 0)))]
instance : Live zaj := ⟨[0]⟩
def zai : List SOp := [zM 5 0,zO 6 (.call ⟨.value (.func 57),#[.tmp 5],#[27]⟩),zO 7 (.binOp .neq 35 (.tmp 6) (.const (.int .i64 0)) 35)]
instance : Live zai := ⟨[0]⟩
def zah : List SOp := [zO 2 (.assign (.const (.slice none 0 0))),zO 3 (.assign (.const (.int .i64 1)))]
instance : Live zah := ⟨[]⟩
def zag : List SOp := [zO 8 (.call ⟨.value (.func 46),#[],#[]⟩),zO 9 (.nilCheck (.tmp 8)),zL 10 91 9,zO 11 (.build 95 #[(0,.tmp 10)]),zO 4 (.alloc 95),⟨none,.store 95 (.tmp 4) (.tmp 11),none⟩]
instance : Live zag := ⟨[0]⟩
def qng : List SOp := [zM 12 0,zO 13 (.call ⟨.value (.func 58),#[.tmp 4,.tmp 12],#[95,27]⟩)]
instance : Live qng := ⟨[0,4]⟩
def zaf : List SOp := [zF 14 95 4 0,zO 15 (.call ⟨.value (.func 48),#[.tmp 14],#[91]⟩),zX 16 15 0,zX 17 15 1,zG 2 16,zG 3 17]
instance : Live zaf := ⟨[4]⟩
def t_k20 : SC :=
 (.seq (.ops false zaj) (.seq (.seq (.ops false zai) (.cond (.tmp 7) (.seq (.ops false zah) .ret) .skip)) (.seq (.ops false zag) (.seq (.ops false qng) (.seq (.ops false zaf) .ret)))))
theorem it_k20 : FnIs Tryz.prog 20 18 [.tmp 2, .tmp 3] t_k20 := ⟨Tryz.f20, _, Tryz.func20, rfl, rfl, rfl, rfl, by kernel_rfl⟩

theorem ev_k94 (b : Bs) (h0 : b ≠ []) (hl : b.length ≤ 900000000000) : Ev (En Tryz.prog rfl).P 94 [.sl 1 (q13 b)] (.ret (.sl 1 (q13 b))) := by
 refine Ev.of_body it_k94 (by simp) (Run.start ?_)
 unfold t_k94
 cases b with
 | nil => exact absurd rfl h0
 | cons x l =>
  have e1 : q13 (x :: l) = .int .u8 (x.toNat : Int) :: q13 l := rfl
  have e2 : (q13 l).length = l.length := q1u l
  have e3 : (l.length + 1 ≤ 70368744177664) = True := by simp only [eq_iff_iff, iff_true]; simp at hl; omega
  have e4 : (l.length + 1 ≤ 4611686018427387904) = True := by simp only [eq_iff_iff, iff_true]; simp at hl; omega
  rw [e1]
  (focus (have hF := (aI @e2 (aI @e3 @e4)); (repeat' (first | refine go0 (k:=?_) | fail)); all_goals clear hF))
  exact Fin.tmp' rfl (q0a (x :: l))
theorem qo9 (b : Bs) (h0 : b ≠ []) (hl : b.length ≤ 900000000000) : EvM (En Tryz.prog rfl).P 48 [.ptr 900000 0] [(900000, wrC b)] (.ret (.tup [.sl 1 (q13 b), .int .i64 0])) [(900000, [.hole, .bool false])] := by
 refine EvM.of_body it_k48 (by simp) (fun k => by rw [q56, q56]) (fun q hq => by rw [List.mem_singleton.1 hq]; exact (by decide : 900000 < q5r)) (fun q hq x hx => by
  rw [List.mem_singleton.1 hq] at hx
  simp only [List.mem_cons, List.not_mem_nil, or_false] at hx
  rcases hx with rfl | rfl <;> rfl) fun β => ?_
 have e0 : lnt [(900000, wrC b)] β = [(900000, .cells (wrC b)), (1900000, .note (.ptr 900000 0) (q3u (β 900000)))] := by
  simp only [lnt, q5r, List.flatMap_cons, List.flatMap_nil, List.cons_append, List.nil_append, List.append_nil, Nat.reduceAdd]
 rw [e0]
 refine Run.start ?_
 unfold t_k48
 have e1 := q1u b
 (focus (have hF := (aI @q2b @e1); (repeat' (first | refine go1 (k:=?_) | with_reducible refine Ny.of ?_ ?_ | (refine Hyp.of ?_; intro hc; (try simp only [hc]); (try simp only [Bh] at hc)))); all_goals clear hF))
 refine z2m (fun j => j == 15) [.sl 1 (q13 b)] (he := ev_k94 b h0 hl) (k:=?_)
 (focus (have hF := (aI @q2b @e1); (repeat' (first | refine go1 (k:=?_) | with_reducible refine Ny.of ?_ ?_ | (refine Hyp.of ?_; intro hc; (try simp only [hc]); (try simp only [Bh] at hc)))); all_goals clear hF))
 refine ⟨[.sl 1 (q13 b), .int .i64 0], rfl, by simp [q0o, AVal.stb, q0a], ⟨[.sl 1 (q13 b), .int .i64 0], ⟨.inl rfl, .inl rfl, trivial⟩, rfl⟩, fun p hp => ?_, fun p hp => ?_⟩
 ·rw [List.mem_singleton.1 hp]; rfl
 ·rw [List.mem_singleton.1 hp]; exact ⟨1900000, rfl⟩
theorem q6s : EvNew (En Tryz.prog rfl).P 46 [] [.nil, .bool false] := by
 refine EvNew.of_body it_k46 (by simp) (Run.start ?_)
 unfold t_k46
 (focus (have hF := @q00; (repeat' (first | refine go1 (k:=?_) | with_reducible refine Ny.of ?_ ?_ | (refine Hyp.of ?_; intro hc; (try simp only [hc]); (try simp only [Bh] at hc)))); all_goals clear hF))
 exact ⟨2, rfl, rfl, rfl⟩
def putR (ok : Bool) (b : Bs) : AVal := .tup [.sl 1 (q13 (if ok = true then b else [])), .int .i64 (if ok = true then 0 else 1)]
theorem q6f {p : Pst} (h : PW p) : (q1g p).length ≤ 20 + 10 * p.vec.length + 30 * p.cloud.length := by
 have h1 := qop (l := p.vec) (fun x hx => by have := h.v x hx; omega)
 have h2 := q9u h p.cloud.length (Nat.le_refl _)
 rw [List.take_length] at h2
 have hv := h.vl
 have hc := h.cl
 have a1 := q09 (n := p.vec.length) (by omega)
 have a2 := q09 (n := p.cloud.length) (by omega)
 simp only [q1g, List.length_append]
 omega
theorem qld (p : Pst) (hw : wt p ≤ 40000000) (h : q0u p = true → PW p) : Ev (En Tryz.prog rfl).P 12 [q17 p] (.ret (putR (q0u p) (q1g p))) := by
 refine Ev.of_body it_k12 (by simp) (Run.start ?_)
 unfold t_k12 q17
 generalize hx : SC.ops false qni = X
 (focus (have hF := @q00; (repeat' (first | refine go1 (k:=?_) | with_reducible refine Ny.of ?_ ?_ | (refine Hyp.of ?_; intro hc; (try simp only [hc]); (try simp only [Bh] at hc)))); all_goals clear hF))
 refine q01 [q17 p] (he := zd3 p hw) (k:=?_)
 cases hn : q0u p with
 | false =>
  (focus (have hF := @q00; (repeat' (first | refine go1 (k:=?_) | with_reducible refine Ny.of ?_ ?_ | (refine Hyp.of ?_; intro hc; (try simp only [hc]); (try simp only [Bh] at hc)))); all_goals clear hF))
  exact Fin.two rfl rfl rfl rfl (.inr ⟨rfl, 1, rfl⟩) (.inl rfl)
 | true =>
  have hp := h hn
  (focus (have hF := @q00; (repeat' (first | refine go1 (k:=?_) | with_reducible refine Ny.of ?_ ?_ | (refine Hyp.of ?_; intro hc; (try simp only [hc]); (try simp only [Bh] at hc)))); all_goals clear hF))
  refine stNew [] (he := q6s) (k:=?_)
  (focus (have hF := @q00; (repeat' (first | refine go1 (k:=?_) | with_reducible refine Ny.of ?_ ?_ | (refine Hyp.of ?_; intro hc; (try simp only [hc]); (try simp only [Bh] at hc)))); all_goals clear hF))
  refine Run.wk (Wk.own_cells (k := 4) (cs' := wrC []) rfl rfl fun i x y hx hy => ?_) ?_
  ·match i with
   | 0 => simp at hx; simp [wrC] at hy; subst hx; subst hy; exact .inr ⟨rfl, 1, rfl⟩
   | 1 => simp at hx; simp [wrC] at hy; subst hx; subst hy; exact .inl rfl
   | i + 2 => simp at hx
  subst hx
  (focus (have hF := @q2b; (repeat' (first | refine go1 (k:=?_) | with_reducible refine Ny.of ?_ ?_ | (refine Hyp.of ?_; intro hc; (try simp only [hc]); (try simp only [Bh] at hc)))); all_goals clear hF))
  refine stWr 4 [q17 p] (he := zcy [] p (by simp) hp) (kk := ?_)
  rw [List.nil_append]
  have h0 : q1g p ≠ [] := fun e => by
   have := congrArg List.length e
   have h1 := q1d p.vec.length
   simp only [q1g, List.length_append, List.length_nil] at this
   omega
  (focus (have hF := @q2b; (repeat' (first | refine go1 (k:=?_) | with_reducible refine Ny.of ?_ ?_ | (refine Hyp.of ?_; intro hc; (try simp only [hc]); (try simp only [Bh] at hc)))); all_goals clear hF))
  refine q50 900000 4 (f := 48) (by with_unfolding_all rfl) (by with_unfolding_all rfl) (by with_unfolding_all rfl) (by with_unfolding_all rfl) (by with_unfolding_all rfl) (qb4 _) rfl (by simp [AVal.stb, q0o, q0a]) (qo9 (q1g p) h0 (by have := q6f hp; have := hp.vl; have := hp.cl; omega)) ?_
  dsimp only [AS.put]
  (focus (have hF := @q2b; (repeat' (first | refine go1 (k:=?_) | with_reducible refine Ny.of ?_ ?_ | (refine Hyp.of ?_; intro hc; (try simp only [hc]); (try simp only [Bh] at hc)))); all_goals clear hF))
  exact Fin.two rfl (q0a _) rfl rfl (.inl rfl) (.inl rfl)
theorem qa8 {l : List Ent} (h : EW l) : (q07 l).length ≤ 10 + 1040 * l.length := by
 have h2 := qcp h l.length (Nat.le_refl _)
 rw [List.take_length] at h2
 have hl := h.ll
 have a1 := q09 (n := l.length) (by omega)
 simp only [q07, List.length_append]
 omega
theorem qzg (l : List Ent) (hw : l.length ≤ 1000000000) (h : q2x l = true → EW l) : Ev (En Tryz.prog rfl).P 15 [.sl 4 (q0l l)] (.ret (putR (q2x l) (q07 l))) := by
 refine Ev.of_body it_k15 (by simp) (Run.start ?_)
 unfold t_k15
 have hS := qhh
 generalize hx : SC.ops false qnh = X
 (focus (have hF := @q00; (repeat' (first | refine go1 (k:=?_) | with_reducible refine Ny.of ?_ ?_ | (refine Hyp.of ?_; intro hc; (try simp only [hc]); (try simp only [Bh] at hc)))); all_goals clear hF))
 refine q01 [.sl 4 (q0l l)] (he := ev_k49 l hw) (k:=?_)
 cases hn : q2x l with
 | false =>
  (focus (have hF := @q00; (repeat' (first | refine go1 (k:=?_) | with_reducible refine Ny.of ?_ ?_ | (refine Hyp.of ?_; intro hc; (try simp only [hc]); (try simp only [Bh] at hc)))); all_goals clear hF))
  exact Fin.two rfl rfl rfl rfl (.inr ⟨rfl, 1, rfl⟩) (.inl rfl)
 | true =>
  have hp := h hn
  (focus (have hF := @q00; (repeat' (first | refine go1 (k:=?_) | with_reducible refine Ny.of ?_ ?_ | (refine Hyp.of ?_; intro hc; (try simp only [hc]); (try simp only [Bh] at hc)))); all_goals clear hF))
  refine stNew [] (he := q6s) (k:=?_)
  (focus (have hF := @q00; (repeat' (first | refine go1 (k:=?_) | with_reducible refine Ny.of ?_ ?_ | (refine Hyp.of ?_; intro hc; (try simp only [hc]); (try simp only [Bh] at hc)))); all_goals clear hF))
  refine Run.wk (Wk.own_cells (k := 4) (cs' := wrC []) rfl rfl fun i x y hx hy => ?_) ?_
  ·match i with
   | 0 => simp at hx; simp [wrC] at hy; subst hx; subst hy; exact .inr ⟨rfl, 1, rfl⟩
   | 1 => simp at hx; simp [wrC] at hy; subst hx; subst hy; exact .inl rfl
   | i + 2 => simp at hx
  subst hx
  (focus (have hF := @q2b; (repeat' (first | refine go1 (k:=?_) | with_reducible refine Ny.of ?_ ?_ | (refine Hyp.of ?_; intro hc; (try simp only [hc]); (try simp only [Bh] at hc)))); all_goals clear hF))
  refine stWr 4 [.sl 4 (q0l l)] (hs := by simp [q0o, AVal.stb, q0d]) (he := z14 [] l (by simp) hp) (kk := ?_)
  rw [List.nil_append]
  have h0 : q07 l ≠ [] := fun e => by
   have := congrArg List.length e
   have h1 := q1d l.length
   simp only [q07, List.length_append, List.length_nil] at this
   omega
  (focus (have hF := @q2b; (repeat' (first | refine go1 (k:=?_) | with_reducible refine Ny.of ?_ ?_ | (refine Hyp.of ?_; intro hc; (try simp only [hc]); (try simp only [Bh] at hc)))); all_goals clear hF))
  refine q50 900000 4 (f := 48) (by with_unfolding_all rfl) (by with_unfolding_all rfl) (by with_unfolding_all rfl) (by with_unfolding_all rfl) (by with_unfolding_all rfl) (qb4 _) rfl (by simp [AVal.stb, q0o, q0a]) (qo9 (q07 l) h0 (by have := qa8 hp; have := hp.ll; omega)) ?_
  dsimp only [AS.put]
  (focus (have hF := @q2b; (repeat' (first | refine go1 (k:=?_) | with_reducible refine Ny.of ?_ ?_ | (refine Hyp.of ?_; intro hc; (try simp only [hc]); (try simp only [Bh] at hc)))); all_goals clear hF))
  exact Fin.two rfl (q0a _) rfl rfl (.inl rfl) (.inl rfl)
theorem ev_k20 (l : List Rec) (hl : l.length ≤ 1000000000) (hw : ∀ r ∈ l, wt r.past ≤ 40000000) (h : q4o l = true → RW l ∧ (q0s l).length ≤ 600000000000) : Ev (En Tryz.prog rfl).P 20 [.sl 3 (q1j l)] (.ret (putR (q4o l) (q0s l))) := by
 refine Ev.of_body it_k20 (by simp) (Run.start ?_)
 unfold t_k20
 have hS := qhh
 generalize hx : SC.ops false qng = X
 (focus (have hF := @q00; (repeat' (first | refine go1 (k:=?_) | with_reducible refine Ny.of ?_ ?_ | (refine Hyp.of ?_; intro hc; (try simp only [hc]); (try simp only [Bh] at hc)))); all_goals clear hF))
 refine q01 [.sl 3 (q1j l)] (he := q8x l hl hw) (k:=?_)
 cases hn : q4o l with
 | false =>
  (focus (have hF := @q00; (repeat' (first | refine go1 (k:=?_) | with_reducible refine Ny.of ?_ ?_ | (refine Hyp.of ?_; intro hc; (try simp only [hc]); (try simp only [Bh] at hc)))); all_goals clear hF))
  exact Fin.two rfl rfl rfl rfl (.inr ⟨rfl, 1, rfl⟩) (.inl rfl)
 | true =>
  have hp := h hn
  (focus (have hF := @q00; (repeat' (first | refine go1 (k:=?_) | with_reducible refine Ny.of ?_ ?_ | (refine Hyp.of ?_; intro hc; (try simp only [hc]); (try simp only [Bh] at hc)))); all_goals clear hF))
  refine stNew [] (he := q6s) (k:=?_)
  (focus (have hF := @q00; (repeat' (first | refine go1 (k:=?_) | with_reducible refine Ny.of ?_ ?_ | (refine Hyp.of ?_; intro hc; (try simp only [hc]); (try simp only [Bh] at hc)))); all_goals clear hF))
  refine Run.wk (Wk.own_cells (k := 4) (cs' := wrC []) rfl rfl fun i x y hx hy => ?_) ?_
  ·match i with
   | 0 => simp at hx; simp [wrC] at hy; subst hx; subst hy; exact .inr ⟨rfl, 1, rfl⟩
   | 1 => simp at hx; simp [wrC] at hy; subst hx; subst hy; exact .inl rfl
   | i + 2 => simp at hx
  subst hx
  (focus (have hF := @q2b; (repeat' (first | refine go1 (k:=?_) | with_reducible refine Ny.of ?_ ?_ | (refine Hyp.of ?_; intro hc; (try simp only [hc]); (try simp only [Bh] at hc)))); all_goals clear hF))
  refine stWr 4 [.sl 3 (q1j l)] (hs := by simp [q0o, AVal.stb, q0f]) (he := z13 [] l (by have := hp.2; simp only [q0s, List.length_append] at this; simp; omega) hp.1) (kk := ?_)
  rw [List.nil_append]
  have h0 : q0s l ≠ [] := fun e => by
   have := congrArg List.length e
   have h1 := q1d l.length
   simp only [q0s, List.length_append, List.length_nil] at this
   omega
  (focus (have hF := @q2b; (repeat' (first | refine go1 (k:=?_) | with_reducible refine Ny.of ?_ ?_ | (refine Hyp.of ?_; intro hc; (try simp only [hc]); (try simp only [Bh] at hc)))); all_goals clear hF))
  refine q50 900000 4 (f := 48) (by with_unfolding_all rfl) (by with_unfolding_all rfl) (by with_unfolding_all rfl) (by with_unfolding_all rfl) (by with_unfolding_all rfl) (qb4 _) rfl (by simp [AVal.stb, q0o, q0a]) (qo9 (q0s l) h0 (by have := hp.2; omega)) ?_
  dsimp only [AS.put]
  (focus (have hF := @q2b; (repeat' (first | refine go1 (k:=?_) | with_reducible refine Ny.of ?_ ?_ | (refine Hyp.of ?_; intro hc; (try simp only [hc]); (try simp only [Bh] at hc)))); all_goals clear hF))
  exact Fin.two rfl (q0a _) rfl rfl (.inl rfl) (.inl rfl)

theorem qav (p : Pst) : 3 * p.cloud.length ≤ (q1g p).length := by
 have := q90 p.vec p.cloud []
 simp only [q1g, List.length_append]
 omega
theorem St.le' {b x : Bs} {p q : Nat} (h : St b p x q) : x.length ≤ b.length := by
 have := h.1
 have := h.2.1
 omega
theorem rPast_sz {b : Bs} {p : Pst} {s q : Nat} (h : q1r b s = .ok (p, q)) : wt p ≤ 16 + b.length ∧ q ≤ b.length := by
 obtain ⟨h1, h2⟩ := q8e h
 have h3 := qav p
 have h4 := h1.le'
 have h5 := h2.vl
 exact ⟨by unfold wt; omega, h1.le⟩
theorem qcq : ∀ (l sf : List Ent), 4 * l.length ≤ (q36 sf l).length
 | [], sf => by simp
 | e :: l, sf => by
  have := qcq l (sf ++ [e])
  have h1 := q1d (e.rep - qae sf).toNat
  have h2 := q1d (e.num - q3d sf e).toNat
  have h3 := q1d e.sku.size
  have h4 := q1d (e.qty - 1).toNat
  simp only [q36, qzk, List.length_append, List.length_cons]
  omega
theorem qnj {b : Bs} {l : List Ent} {s q : Nat} (h : q0c b s = .ok (l, q)) : l.length ≤ b.length ∧ q ≤ b.length := by
 obtain ⟨h1, h2⟩ := q6e h
 have h3 := qcq l []
 have h4 := h1.le'
 simp only [q07, List.length_append] at h4
 exact ⟨by omega, h1.le⟩
theorem qhm {l : List Rec} {r : Rec} (h : r ∈ l) : (z0q r).length ≤ (q2d l).length := by
 induction l with
 | nil => cases h
 | cons x l ih =>
  simp only [q2d, List.flatMap_cons, List.length_append]
  rcases List.mem_cons.1 h with rfl | h
  ·omega
  ·have := ih h
   simp only [q2d] at this
   omega
theorem qhn : ∀ l : List Rec, l.length ≤ (q2d l).length
 | [] => Nat.zero_le _
 | r :: l => by
  have h1 := qhn l
  have h2 := q1d r.sku.size
  have h3 : 1 ≤ (z0q r).length := by simp only [z0q, List.length_append]; omega
  simp only [q2d, List.flatMap_cons, List.length_append, List.length_cons] at h1 ⊢
  omega
theorem qbr {b : Bs} {l : List Rec} {s q : Nat} (h : q08 b s = .ok (l, q)) : l.length ≤ b.length ∧ (∀ r ∈ l, wt r.past ≤ 16 + b.length) ∧ q ≤ b.length := by
 obtain ⟨h1, h2⟩ := q6c h
 have h3 := qhn l
 have h4 := h1.le'
 simp only [q0s, List.length_append] at h4
 refine ⟨by omega, fun r hr => ?_, h1.le⟩
 have h5 := qhm hr
 have h6 := qav r.past
 have h7 := (h2 r hr).2.vl
 simp only [z0q, List.length_append] at h5
 unfold wt
 omega
theorem qkl (b : Bs) : (rdV [] (q08 b 0)).length ≤ b.length ∧ ∀ r ∈ rdV [] (q08 b 0), wt r.past ≤ 16 + b.length := by
 cases hr : q08 b 0 with
 | error q => exact ⟨Nat.zero_le _, fun r hr => by cases hr⟩
 | ok q =>
  have := qbr (q := q.2) (l := q.1) (by rw [hr])
  exact ⟨this.1, this.2.1⟩
theorem ql7 {α : Type} {z : α} {ok : α → Bool} {b : Bs} {r : Rs α} (hz : noZ r) (hle : ∀ x a, r = .ok (x, a) → a ≤ b.length) :
 (qfu z ok b r = 0 ∧ ok (z1v z ok b r) = true ∧ r = .ok (z1v z ok b r, b.length)) ∨ (qfu z ok b r = 8 ∧ z1v z ok b r = z ∧ ∀ x, r = .ok (x, b.length) → ok x = false) := by
 unfold qfu z1v
 cases hb : (qda b r && ok (rdV z r)) with
 | true =>
  simp only [Bool.and_eq_true] at hb
  obtain ⟨h1, h2⟩ := hb
  obtain ⟨x, hx⟩ := (qpn hz hle).1 h1
  have hv : rdV z r = x := by rw [hx]; rfl
  rw [hv] at h2 ⊢
  exact .inl ⟨rfl, h2, hx⟩
 | false =>
  refine .inr ⟨rfl, rfl, fun x hx => ?_⟩
  have h1 := (qpn hz hle).2 ⟨x, hx⟩
  have hv : rdV z r = x := by rw [hx]; rfl
  rw [h1, hv] at hb
  simpa using hb
theorem qbz {p : Pst} (h : q0u p = true) (hl : p.cloud.length ≤ 10000000) : q1r (q1g p) 0 = .ok (p, (q1g p).length) := by
 have hp := q2a h
 have hpl := q6f (hp.pw (by omega))
 have := hp.vl
 exact qbt (St.all _) hp (by omega)
theorem q6n {l : List Ent} (h : q2x l = true) (hl : l.length ≤ 100000000) : q0c (q07 l) 0 = .ok (l, (q07 l).length) := by
 have hpl := qa8 (q8r hl h)
 exact q6d (St.all _) (q4p h) (q8q h) (by omega)
theorem qzb {l : List Rec} (h : q4o l = true) (hw : qac l ≤ 40000000) : RW l ∧ (q0s l).length ≤ 600000000000 := by
 have hll := qem l
 have hr : ∀ r ∈ l, r.sku.size ≤ 24 ∧ PW r.past := fun r hr => by
  have h1 := (q73 h r hr).1
  have h2 := z1y hr
  refine ⟨h1.1, h1.2.pw ?_⟩
  unfold wtK wt at h2
  omega
 have key : ∀ m : List Rec, (∀ r ∈ m, r.sku.size ≤ 24 ∧ PW r.past) → (q2d m).length ≤ 100 * qac m := by
  intro m
  induction m with
  | nil => intro _; simp [q2d]
  | cons r m ih =>
   intro hm
   have h1 := ih fun x hx => hm x (by simp [hx])
   obtain ⟨h2, h3⟩ := hm r (by simp)
   have h4 := q6f h3
   have h5 := q09 (n := r.sku.size) (by omega)
   have h6 : r.sku.data.toList.length = r.sku.size := rfl
   have h7 : qac (r :: m) = wtK r + qac m := by simp [qac]
   have h8 : wtK r = r.past.vec.length + r.past.cloud.length + 1 := rfl
   simp only [q2d, List.flatMap_cons, List.length_append, z0q] at h1 ⊢
   omega
 have h9 := key l hr
 have h10 := q09 (n := l.length) (by omega)
 refine ⟨⟨by omega, fun r hrr => ⟨by have := (hr r hrr).1; omega, (hr r hrr).2⟩⟩, ?_⟩
 simp only [q0s, List.length_append]
 omega
theorem qho {l : List Rec} (h : q4o l = true) (hw : qac l ≤ 40000000) : q08 (q0s l) 0 = .ok (l, (q0s l).length) := by
 have hk := q73 h
 exact q6b (St.all _) (fun r hr => (hk r hr).1) (fun r hr => (hk r hr).2) (by have := (qzb h hw).2; omega)

structure Kd (α : Type) where
 z : α
 ok : α → Bool
 rd : Bs → Rs α
 nz : ∀ b, noZ (rd b)
 le : ∀ b x a, rd b = .ok (x, a) → a ≤ b.length
 ext : ∀ b c x q, b.length + c.length ≤ 900000000 → ok x = true → rd b = .ok (x, q) → rd (b ++ c) = .ok (x, q)
def Kd.tk {α : Type} (k : Kd α) (b : Bs) : Bool := decide (qfu k.z k.ok b (k.rd b) = 0)
theorem Kd.taken {α : Type} (k : Kd α) {b : Bs} (h : k.tk b = true) : ∃ x, k.ok x = true ∧ k.rd b = .ok (x, b.length) := by
 have h0 : qfu k.z k.ok b (k.rd b) = 0 := by simpa [Kd.tk] using h
 rcases ql7 (z := k.z) (ok := k.ok) (k.nz b) (k.le b) with ⟨_, h1, h2⟩ | ⟨h1, _⟩
 ·exact ⟨_, h1, h2⟩
 ·omega
theorem Kd.takes {α : Type} (k : Kd α) {b : Bs} {x : α} (h : k.rd b = .ok (x, b.length)) (ho : k.ok x = true) : k.tk b = true := by
 rcases ql7 (z := k.z) (ok := k.ok) (k.nz b) (k.le b) with ⟨h1, _, _⟩ | ⟨_, _, h1⟩
 ·simp [Kd.tk, h1]
 ·rw [h1 x h] at ho; cases ho
theorem Kd.more {α : Type} (k : Kd α) {b c : Bs} {x : α} (hb : b.length + c.length ≤ 900000000) (h : k.rd b = .ok (x, b.length)) (ho : k.ok x = true) (hc : c ≠ []) : k.tk (b ++ c) = false := by
 cases ht : k.tk (b ++ c) with
 | false => rfl
 | true =>
  obtain ⟨y, _, hy⟩ := k.taken ht
  rw [k.ext b c x _ hb ho h] at hy
  simp only [Except.ok.injEq, Prod.mk.injEq, List.length_append] at hy
  have : 0 < c.length := List.length_pos_iff.2 hc
  omega
theorem Kd.less {α : Type} (k : Kd α) {b : Bs} {x : α} {n : Nat} (hb : b.length ≤ 900000000) (h : k.rd b = .ok (x, b.length)) (hn : n < b.length) : k.tk (b.take n) = false := by
 cases ht : k.tk (b.take n) with
 | false => rfl
 | true =>
  obtain ⟨y, ho, hy⟩ := k.taken ht
  have hl : (b.take n).length = n := by rw [List.length_take]; omega
  have := k.ext (b.take n) (b.drop n) y _ (by rw [← List.length_append, List.take_append_drop]; exact hb) ho hy
  rw [List.take_append_drop, h] at this
  simp only [Except.ok.injEq, Prod.mk.injEq] at this
  omega
def kd1 : Kd Pst := ⟨⟨[], []⟩, q0u, fun b => q1r b 0, fun b => qff b 0, fun b x a h => (rPast_sz h).2, fun b c x q hb ho h => by
 obtain ⟨h1, h2⟩ := q8e h
 exact qbt (h1.ext c) h2 (by rw [List.length_append]; omega)⟩
noncomputable def kd2 : Kd (List Ent) := ⟨[], q2x, fun b => q0c b 0, fun b => qbu b 0, fun b x a h => (qnj h).2, fun b c x q hb ho h => by
 obtain ⟨h1, h2⟩ := q6e h
 exact q6d (h1.ext c) h2 (q8q ho) (by rw [List.length_append]; omega)⟩
noncomputable def kd3 : Kd (List Rec) := ⟨[], q4o, fun b => q08 b 0, fun b => qbs b 0, fun b x a h => (qbr h).2.2, fun b c x q hb ho h => by
 obtain ⟨h1, h2⟩ := q6c h
 exact q6b (h1.ext c) h2 (fun r hr => (q73 ho r hr).2) (by rw [List.length_append]; omega)⟩
noncomputable def tkK (kind : Nat) (b : Bs) : Bool := if kind = 1 then kd1.tk b else if kind = 2 then kd2.tk b else kd3.tk b
structure WholeB (kind : Nat) (b : Bs) : Prop where
 l : b.length ≤ 109000000
 no : ∀ n, n < b.length → tkK kind (b.take n) = false
 more : ∀ c, tkK kind (b ++ [c]) = false
 yes : tkK kind b = true
theorem Kd.whole {α : Type} (k : Kd α) {b : Bs} {x : α} (hb : b.length ≤ 109000000) (h : k.rd b = .ok (x, b.length)) (ho : k.ok x = true) : (∀ n, n < b.length → k.tk (b.take n) = false) ∧ (∀ c, k.tk (b ++ [c]) = false) ∧ k.tk b = true :=
 ⟨fun n hn => k.less (by omega) h hn, fun c => k.more (by simp; omega) h ho (by simp), k.takes h ho⟩
theorem z0d {p : Pst} (h : q0u p = true) (hl : wt p ≤ 1050000) : WholeB 1 (q1g p) := by
 have hc : p.cloud.length ≤ 1050000 := by unfold wt at hl; omega
 have hp := q2a h
 have hpl := q6f (hp.pw (by omega))
 have hv := hp.vl
 obtain ⟨h1, h2, h3⟩ := kd1.whole (b := q1g p) (by omega) (qbz h (by omega)) h
 exact ⟨by omega, h1, h2, h3⟩
theorem z1a {sf : List Ent} {e : Ent} (h : entF sf e) : (qzk sf e).length ≤ 64 := by
 obtain ⟨h1, h2, h3, h4, h4', h5, h6, h7, h8, h9⟩ := h
 have h10 : 1 ≤ q3d sf e := by unfold q3d; split <;> omega
 have a1 := q09 (n := (e.rep - qae sf).toNat) (by omega)
 have a2 := q09 (n := (e.num - q3d sf e).toNat) (by omega)
 have a3 := q09 (n := e.sku.size) (by omega)
 have a4 := q09 (n := (e.qty - 1).toNat) (by omega)
 have a5 : e.sku.data.toList.length = e.sku.size := rfl
 simp only [qzk, List.length_append]
 omega
theorem qco : ∀ {l sf : List Ent}, qgg sf l → (q36 sf l).length ≤ 64 * l.length
 | [], sf, _ => by simp [q36]
 | e :: l, sf, h => by
  have h1 := qco h.2
  have h2 := z1a h.1
  simp only [q36, List.length_append, List.length_cons]
  omega
theorem qeo {l : List Ent} (h : q2x l = true) (hl : l.length ≤ 1050000) : WholeB 2 (q07 l) := by
 have h0 := qco (q4p h)
 have h9 := q09 (n := l.length) (by omega)
 have hlen : (q07 l).length ≤ 109000000 := by simp only [q07, List.length_append]; omega
 obtain ⟨h1, h2, h3⟩ := kd2.whole (b := q07 l) hlen (q6n h (by omega)) h
 exact ⟨hlen, h1, h2, h3⟩
theorem qbo {l : List Rec} (h : q4o l = true) (hw : qac l ≤ 40000000) : (q0s l).length ≤ 10 + 100 * qac l := by
 have hll := qem l
 have hr : ∀ r ∈ l, r.sku.size ≤ 24 ∧ PW r.past := fun r hr => by
  have h1 := (q73 h r hr).1
  have h2 := z1y hr
  refine ⟨h1.1, h1.2.pw ?_⟩
  unfold wtK wt at h2
  omega
 have key : ∀ m : List Rec, (∀ r ∈ m, r.sku.size ≤ 24 ∧ PW r.past) → (q2d m).length ≤ 100 * qac m := by
  intro m
  induction m with
  | nil => intro _; simp [q2d]
  | cons r m ih =>
   intro hm
   have h1 := ih fun x hx => hm x (by simp [hx])
   obtain ⟨h2, h3⟩ := hm r (by simp)
   have h4 := q6f h3
   have h5 := q09 (n := r.sku.size) (by omega)
   have h6 : r.sku.data.toList.length = r.sku.size := rfl
   have h7 : qac (r :: m) = wtK r + qac m := by simp [qac]
   have h8 : wtK r = r.past.vec.length + r.past.cloud.length + 1 := rfl
   simp only [q2d, List.flatMap_cons, List.length_append, z0q] at h1 ⊢
   omega
 have h9 := key l hr
 have h10 := q09 (n := l.length) (by omega)
 simp only [q0s, List.length_append]
 omega
theorem qen {l : List Rec} (h : q4o l = true) (hw : qac l ≤ 1050000) : WholeB 3 (q0s l) := by
 have hlen := qbo h (by omega)
 obtain ⟨h1, h2, h3⟩ := kd3.whole (b := q0s l) (by omega) (qho h (by omega)) h
 exact ⟨by omega, h1, h2, h3⟩
theorem zbs (b : Bs) : 3 * wt (rdV ⟨[], []⟩ (q1r b 0)) ≤ 48 + b.length := by
 cases hr : q1r b 0 with
 | error q => exact Nat.zero_le _
 | ok q =>
  obtain ⟨h1, h2⟩ := q8e (x := q.1) (q := q.2) (by rw [hr])
  have h3 := qav q.1
  have h4 := h1.le'
  have h5 := h2.vl
  show 3 * (q.1.vec.length + q.1.cloud.length) ≤ _
  omega
theorem qfg (b : Bs) : 4 * (rdV [] (q0c b 0)).length ≤ b.length := by
 cases hr : q0c b 0 with
 | error q => exact Nat.zero_le _
 | ok q =>
  obtain ⟨h1, h2⟩ := q6e (l := q.1) (q := q.2) (by rw [hr])
  have h3 := qcq q.1 []
  have h4 := h1.le'
  simp only [q07, List.length_append] at h4
  show 4 * q.1.length ≤ _
  omega
theorem qkk (b : Bs) : ∀ r ∈ rdV [] (q08 b 0), 3 * wt r.past ≤ 48 + b.length := by
 cases hr : q08 b 0 with
 | error q => exact fun r hr => by cases hr
 | ok q =>
  obtain ⟨h1, h2⟩ := q6c (l := q.1) (q := q.2) (by rw [hr])
  intro r hrr
  have hrr : r ∈ q.1 := hrr
  have h4 := h1.le'
  have h5 := qhm hrr
  have h6 := qav r.past
  have h7 := (h2 r hrr).2.vl
  simp only [q0s, List.length_append] at h4
  simp only [z0q, List.length_append] at h5
  show 3 * (r.past.vec.length + r.past.cloud.length) ≤ _
  omega


structure FoS where
 i : Nat
 all : Pst
 out : List Rec


def SrtK (l : List Rec) : Prop := ∀ (i : Nat) a b, l[i]? = some a → l[i + 1]? = some b → qlw a b < 0
theorem SrtK.tail {t l : List Rec} (h : SrtK (t ++ l)) : SrtK l := fun i a b ha hb =>
 h (t.length + i) a b (by rw [List.getElem?_append_right (by omega)]; simpa using ha) (by rw [List.getElem?_append_right (by omega)]; rw [show t.length + i + 1 - t.length = i + 1 by omega]; exact hb)

def zas : List SOp := [zO 4 (.assign (.const (.bool false)))]
instance : Live zas := ⟨[0,1]⟩
def zar : List SOp := [zM 6 0,zO 7 (.call ⟨.builtin .len,#[.tmp 6],#[26]⟩),zM 8 1,zO 9 (.call ⟨.builtin .len,#[.tmp 8],#[26]⟩),zO 10 (.binOp .neq 3 (.tmp 7) (.tmp 9) 3)]
instance : Live zar := ⟨[0,1]⟩
def zaq : List SOp := [zO 4 (.assign (.const (.bool false)))]
instance : Live zaq := ⟨[]⟩
def zap : List SOp := [zO 5 (.assign (.const (.int .i64 0)))]
instance : Live zap := ⟨[0,1]⟩
def zao : List SOp := [zM 11 5,zM 12 0,zO 13 (.call ⟨.builtin .len,#[.tmp 12],#[26]⟩),zO 14 (.binOp .lss 3 (.tmp 11) (.tmp 13) 3)]
instance : Live zao := ⟨[0,1,5]⟩
def zan : List SOp := [zM 17 0,zM 18 5,zI 19 26 17 18,zL 20 45 19,zM 21 1,zM 22 5,zI 23 26 21 22,zL 24 45 23,zO 25 (.binOp .neq 45 (.tmp 20) (.tmp 24) 45)]
instance : Live zan := ⟨[0,1,5]⟩
def zam : List SOp := [zO 4 (.assign (.const (.bool false)))]
instance : Live zam := ⟨[]⟩
def zal : List SOp := [zM 15 5,zO 16 (.binOp .add 3 (.tmp 15) (.const (.int .i64 1)) 3),zG 5 16]
instance : Live zal := ⟨[0,1,5]⟩
def zak : List SOp := [zO 4 (.assign (.const (.bool true)))]
instance : Live zak := ⟨[]⟩
def qer : SC :=
 (.seq (.seq (.ops false zao) (.cond (.tmp 14) .skip (.exit 0))) (.seq (.block 1 (.seq (.ops true zan) (.cond (.tmp 25) (.seq (.ops false zam) .ret) .skip))) (.ops false zal)))
def t_k17 : SC :=
 (.seq (.ops false zas) (.seq (.seq (.ops false zar) (.cond (.tmp 10) (.seq (.ops false zaq) .ret) .skip)) (.seq (.seq (.ops false zap) (.block 0 (.loop qer))) (.seq (.ops false zak) .ret))))
theorem it_k17 : FnIs Tryz.prog 17 26 [.tmp 4] t_k17 := ⟨Tryz.f17, _, Tryz.func17, rfl, rfl, rfl, rfl, by kernel_rfl⟩

def z9o : List SOp := [zO 4 (.assign (.const (.bool false)))]
instance : Live z9o := ⟨[0,1]⟩
def z9n : List SOp := [zM 6 0,zO 7 (.call ⟨.builtin .len,#[.tmp 6],#[27]⟩),zM 8 1,zO 9 (.call ⟨.builtin .len,#[.tmp 8],#[27]⟩),zO 10 (.binOp .neq 3 (.tmp 7) (.tmp 9) 3)]
instance : Live z9n := ⟨[0,1]⟩
def z9m : List SOp := [zO 4 (.assign (.const (.bool false)))]
instance : Live z9m := ⟨[]⟩
def z9l : List SOp := [zO 5 (.assign (.const (.int .i64 0)))]
instance : Live z9l := ⟨[0,1]⟩
def z9k : List SOp := [zM 11 5,zM 12 0,zO 13 (.call ⟨.builtin .len,#[.tmp 12],#[27]⟩),zO 14 (.binOp .lss 3 (.tmp 11) (.tmp 13) 3)]
instance : Live z9k := ⟨[0,1,5]⟩
def z9j : List SOp := [zM 17 0,zM 18 5,zI 19 27 17 18,zF 20 84 19 0,zL 21 9 20,zM 22 1,zM 23 5,zI 24 27 22 23,zF 25 84 24 0,zL 26 9 25,zO 27 (.binOp .neq 9 (.tmp 21) (.tmp 26) 9),zM 28 27,⟨some 29,.move (.tmp 0),some ((some 28),false)⟩,⟨some 30,.move (.tmp 5),some ((some 28),false)⟩,⟨some 31,.indexAddr 27 (.tmp 29) (.tmp 30),some ((some 28),false)⟩,⟨some 32,.fieldAddr 84 (.tmp 31) 1,some ((some 28),false)⟩,⟨some 33,.load 25 (.tmp 32),some ((some 28),false)⟩,⟨some 34,.move (.tmp 1),some ((some 28),false)⟩,⟨some 35,.move (.tmp 5),some ((some 28),false)⟩,⟨some 36,.indexAddr 27 (.tmp 34) (.tmp 35),some ((some 28),false)⟩,⟨some 37,.fieldAddr 84 (.tmp 36) 1,some ((some 28),false)⟩,⟨some 38,.load 25 (.tmp 37),some ((some 28),false)⟩,⟨some 39,.call ⟨.value (.func 14),#[.tmp 33,.tmp 38],#[25,25]⟩,some ((some 28),false)⟩,⟨some 40,.unOp .not 4 (.tmp 39),some ((some 28),false)⟩,zO 41 (.pick (.tmp 28) (.const (.bool true)) (.tmp 40))]
instance : Live z9j := ⟨[0,1,5]⟩
def z9i : List SOp := [zO 4 (.assign (.const (.bool false)))]
instance : Live z9i := ⟨[]⟩
def z9h : List SOp := [zM 15 5,zO 16 (.binOp .add 3 (.tmp 15) (.const (.int .i64 1)) 3),zG 5 16]
instance : Live z9h := ⟨[0,1,5]⟩
def z9g : List SOp := [zO 4 (.assign (.const (.bool true)))]
instance : Live z9g := ⟨[]⟩
def qpe : SC :=
 (.seq (.seq (.ops false z9k) (.cond (.tmp 14) .skip (.exit 0))) (.seq (.block 1 (.seq (.ops true z9j) (.cond (.tmp 41) (.seq (.ops false z9i) .ret) .skip))) (.ops false z9h)))
def t_k27 : SC :=
 (.seq (.ops false z9o) (.seq (.seq (.ops false z9n) (.cond (.tmp 10) (.seq (.ops false z9m) .ret) .skip)) (.seq (.seq (.ops false z9l) (.block 0 (.loop qpe))) (.seq (.ops false z9g) .ret))))
theorem it_k27 : FnIs Tryz.prog 27 42 [.tmp 4] t_k27 := ⟨Tryz.f27, _, Tryz.func27, rfl, rfl, rfl, rfl, by kernel_rfl⟩





theorem z0j (p : Pst) : qey p p = true := q6x ⟨rfl, rfl⟩
theorem ev_k27 (l : List Rec) (hl : l.length ≤ 1000000000) (hw : ∀ r ∈ l, wt r.past ≤ 900000000) : Ev (En Tryz.prog rfl).P 27 [.sl 3 (q1j l), .sl 3 (q1j l)] (.ret (.bool true)) := by
 refine Ev.of_body it_k27 (by simp) (Run.start ?_)
 unfold t_k27
 have e1 := q6q l
 have hS := qhh
 (focus (have hF := @e1; (repeat' (first | refine go1 (k:=?_) | with_reducible refine Ny.of ?_ ?_ | (refine Hyp.of ?_; intro hc; (try simp only [hc]); (try simp only [Bh] at hc)))); all_goals clear hF))
 refine Run.while (σ := Nat) (fun i => ⟨tms [(0, .sl 3 (q1j l)), (1, .sl 3 (q1j l)), (5, .int .i64 (i : Int))], mms []⟩)
  (fun i => i ≤ l.length) (fun i => l.length - i) 0 (have hW := @q0f; q0z) (Nat.zero_le _) ?_
 intro i hi
 unfold qpe
 by_cases hlt : i < l.length
 ·obtain ⟨r, hr⟩ : ∃ r, l[i]? = some r := ⟨l[i], by simp [hlt]⟩
  have g1 := q5h hr
  have hwr := hw r (List.mem_of_getElem? hr)
  unfold wt at hwr
  have c1 := zda r.past r.past (by omega) (by omega)
  rw [z0j] at c1
  (focus (have hF := (aI @e1 @g1); (repeat' (first | refine go1 (k:=?_) | with_reducible refine Ny.of ?_ ?_ | (refine Hyp.of ?_; intro hc; (try simp only [hc]); (try simp only [Bh] at hc)))); all_goals clear hF))
  refine q01 [q17 r.past, q17 r.past] (he := c1) (k:=?_)
  (focus (have hF := (aI @e1 @g1); (repeat' (first | refine go1 (k:=?_) | with_reducible refine Ny.of ?_ ?_ | (refine Hyp.of ?_; intro hc; (try simp only [hc]); (try simp only [Bh] at hc)))); all_goals clear hF))
  (refine Fin.nextW (i + 1) ?_ (have hW := @q0f; q0z); (try dsimp only))
  omega
 ·(focus (have hF := @e1; (repeat' (first | refine go1 (k:=?_) | with_reducible refine Ny.of ?_ ?_ | (refine Hyp.of ?_; intro hc; (try simp only [hc]); (try simp only [Bh] at hc)))); all_goals clear hF))
  exact Fin.tmp' rfl rfl
theorem ev_k17 (l : List Ent) (hl : l.length ≤ 1000000000) : Ev (En Tryz.prog rfl).P 17 [.sl 4 (q0l l), .sl 4 (q0l l)] (.ret (.bool true)) := by
 refine Ev.of_body it_k17 (by simp) (Run.start ?_)
 unfold t_k17
 have e1 := q3w l
 have hS := qhh
 (focus (have hF := @e1; (repeat' (first | refine go1 (k:=?_) | with_reducible refine Ny.of ?_ ?_ | (refine Hyp.of ?_; intro hc; (try simp only [hc]); (try simp only [Bh] at hc)))); all_goals clear hF))
 refine Run.while (σ := Nat) (fun i => ⟨tms [(0, .sl 4 (q0l l)), (1, .sl 4 (q0l l)), (5, .int .i64 (i : Int))], mms []⟩)
  (fun i => i ≤ l.length) (fun i => l.length - i) 0 (have hW := @q0d; q0z) (Nat.zero_le _) ?_
 intro i hi
 unfold qer
 by_cases hlt : i < l.length
 ·obtain ⟨r, hr⟩ : ∃ r, l[i]? = some r := ⟨l[i], by simp [hlt]⟩
  have g1 := q39 hr
  (focus (have hF := (aI @e1 @g1); (repeat' (first | refine go1 (k:=?_) | with_reducible refine Ny.of ?_ ?_ | (refine Hyp.of ?_; intro hc; (try simp only [hc]); (try simp only [Bh] at hc)))); all_goals clear hF))
  (refine Fin.nextW (i + 1) ?_ (have hW := @q0d; q0z); (try dsimp only))
  omega
 ·(focus (have hF := @e1; (repeat' (first | refine go1 (k:=?_) | with_reducible refine Ny.of ?_ ?_ | (refine Hyp.of ?_; intro hc; (try simp only [hc]); (try simp only [Bh] at hc)))); all_goals clear hF))
  exact Fin.tmp' rfl rfl

def Wkn (x y : AVal) : Prop := ∀ (D : Nat → Nat → Prop) (G : Gh) (B : Nat → Prop) (w : World) (v : Value), VR D G B w x v → VR D G B w y v
theorem Wkn.refl (x : AVal) : Wkn x x := fun _ _ _ _ _ h => h
theorem Wkn.nil (sz : Nat) : Wkn .nil (.sl sz []) := fun D G B w v h => by
 cases h
 exact .slnil sz
theorem Wkn.agg2 {a b c d : AVal} (h1 : Wkn a c) (h2 : Wkn b d) : Wkn (.agg [a, b]) (.agg [c, d]) := fun D G B w v h => by
 cases h with
 | agg cs vs hl h =>
  refine .agg [c, d] vs hl fun n x v hx hv => ?_
  match n with
  | 0 =>
   simp only [List.getElem?_cons_zero, Option.some.injEq] at hx
   subst hx
   exact h1 D G B w v (h 0 a v rfl hv)
  | 1 =>
   simp only [List.getElem?_cons_succ, List.getElem?_cons_zero, Option.some.injEq] at hx
   subst hx
   exact h2 D G B w v (h 1 b v rfl hv)
  | n + 2 => simp at hx
def Wkns : List AVal → List AVal → Prop
 | [], [] => True
 | a :: l, b :: m => Wkn a b ∧ Wkns l m
 | _, _ => False
theorem Wkns.len : ∀ {l m : List AVal}, Wkns l m → l.length = m.length
 | [], [], _ => rfl
 | a :: l, b :: m, h => by rw [List.length_cons, List.length_cons, Wkns.len h.2]
 | [], _ :: _, h => h.elim
 | _ :: _, [], h => h.elim
theorem Wkns.get : ∀ {l m : List AVal}, Wkns l m → ∀ (i : Nat) (y : AVal), m[i]? = some y → ∃ x, l[i]? = some x ∧ Wkn x y
 | [], [], _, i, y, h => by simp at h
 | a :: l, b :: m, hw, 0, y, h => by
  simp only [List.getElem?_cons_zero, Option.some.injEq] at h
  subst h
  exact ⟨a, rfl, hw.1⟩
 | a :: l, b :: m, hw, i + 1, y, h => by
  obtain ⟨x, hx, hxy⟩ := Wkns.get hw.2 i y (by simpa using h)
  exact ⟨x, by simpa using hx, hxy⟩
 | [], _ :: _, h, _, _, _ => h.elim
 | _ :: _, [], h, _, _, _ => h.elim
theorem Wkns.refl : ∀ l : List AVal, Wkns l l
 | [] => trivial
 | a :: l => ⟨Wkn.refl a, Wkns.refl l⟩
theorem Wkn.agg {l m : List AVal} (h : Wkns l m) : Wkn (.agg l) (.agg m) := fun D G B w v hv => by
 cases hv with
 | agg cs vs hl hh =>
  refine .agg m vs (by rw [hl, h.len]) fun n x u hx hu => ?_
  obtain ⟨y, hy, hyx⟩ := h.get n x hx
  exact hyx D G B w u (hh n y u hy hu)
theorem Ev.wks {P : Program} {f : FuncId} {l m : List AVal} {out : Out} (he : Ev P f m out) (h : Wkns l m) : Ev P f l out :=
 ⟨he.1, fun B w vs G ho hs hv hb => he.2 B w vs G ho (by rw [hs, h.len]) (fun i y v hy hvv => by
  obtain ⟨x, hx, hxy⟩ := h.get i y hy
  exact hxy _ G B w v (hv i x v hx hvv)) hb⟩

theorem Wkn.sl {sz : Nat} {xs ys : List AVal} (hl : xs.length = ys.length) (hf : Wkns (flat xs) (flat ys)) (h1 : ∀ x ∈ flat ys, x.one = true) (h2 : ∀ x ∈ ys, x.cells.length = sz) : Wkn (.sl sz xs) (.sl sz ys) := fun D G B w v h => by
 cases h with
 | slnil =>
  have : ys = [] := List.length_eq_zero_iff.1 hl.symm
  subst this
  exact .slnil sz
 | slemp _ a cap =>
  have : ys = [] := List.length_eq_zero_iff.1 hl.symm
  subst this
  exact .slemp sz a cap
 | sl _ _ b off cap f hcap hB hone hsz hc hv =>
  have hne : flat ys ≠ [] → flat xs ≠ [] := fun h h' => h (List.length_eq_zero_iff.1 (by rw [← hf.len, h']; rfl))
  have hg := fun n y (hy : (flat ys)[n]? = some y) => hf.get n y hy
  rw [hl]
  refine .sl sz ys b off cap f (by omega) (fun h => hB (hne h)) h1 h2 (fun n y hy => ?_) (fun n y hy => ?_)
  ·obtain ⟨x, hx, _⟩ := hg n y hy
   exact hc n x hx
  ·obtain ⟨x, hx, hxy⟩ := hg n y hy
   exact hxy D G B w _ (hv n x hx)
def sa : ByteArray := ⟨#[97]⟩

theorem qog {P : Program} {TE : TyE} (hT : q2q P TE) {n : Nat} {B : Nat → Prop} {G : Gh} {s : AS} {a : Act} {w : World} (h : Rel n B G s a w) {t : TypeId} {len : Nat} {parts : List (Nat × AVal)} {parts' : Array (Nat × Value)}
 (hl : parts'.size = parts.length) (hr : ∀ (n : Nat) (p : Nat × AVal), parts[n]? = some p → ∃ p', parts'[n]? = some p' ∧ p'.1 = p.1 ∧ VR (Dm s.M) G B w p.2 p'.2)
 {sz : Nat} {xs0 : List AVal} (h0 : len ≠ 0) (hb : q1p TE s.M t len parts none = some (.sl sz xs0, [])) (k : Nat) (hk : s.M k = none) :
 ∃ v w' G', (Instr.buildSlice t len parts').run P w = .ok v w' ∧ Adv G w G' w' ∧ Rel n B G' ⟨s.T, upd s.M k (some (.arr 0 sz xs0))⟩ a w' ∧ VR (Dm (upd s.M k (some (.arr 0 sz xs0)))) G' B w' (.os k 0) v := by
 unfold q1p at hb
 split at hb
 case h_2 => cases hb
 rename_i e s1 b1 z1 ht
 split at hb
 case h_2 => cases hb
 rename_i ei he
 split at hb
 case isFalse => cases hb
 rename_i hc
 obtain ⟨hok, hlim⟩ := hc
 obtain ⟨o1, o2, o3, o4⟩ := q5p hT he hok
 split at hb
 case h_2 => cases hb
 rename_i xs hxs
 split at hb
 case isFalse => cases hb
 rename_i hone
 have hone' : ∀ x ∈ flat xs, x.one = true := List.all_eq_true.1 hone
 obtain ⟨g1, g2, g3⟩ := qmx parts (List.replicate len ei.zeroElem) xs (fun x hx => by rw [List.eq_of_mem_replicate hx, o2, o3]) hxs
 have hlen : xs.length = len := by simpa using g3
 have hu := q1n hT ht rfl
 have hflr : (flat (List.replicate len ei.zeroElem)).length = len * ei.size := by
  rw [q0q (sz := ei.size) (fun x hx => by rw [List.eq_of_mem_replicate hx, o2, o3])]; simp
 simp only [Option.some.injEq, Prod.mk.injEq, AVal.sl.injEq] at hb
 obtain ⟨⟨rfl, rfl⟩, _⟩ := hb
 have hne : ¬ (len * ei.size = 0) := by
  intro hz
  rcases Nat.mul_eq_zero.1 hz with hz | hz <;> omega
 obtain ⟨c', f1, f2, f3⟩ := q8u (D := Dm s.M) (G := G) (B := B) (w := w) (place := fun i => some (i * ei.size, ei.size)) (place' := fun i => some (i * ei.size, ei.size)) (fun i p hp => hp) parts parts'.toList _
  ((Array.range (len * ei.size)).map fun j => ei.zero.cells[j % ei.zero.cells.size]!) (flat xs) (by simpa using hl)
  (fun n p hn => by obtain ⟨p', q1, q2, q3⟩ := hr n p hn; exact ⟨p', by simpa using q1, q2, q3⟩) (by simp [hflr]) (qal hT he o2 o1 len len (Nat.le_refl _)) g1
 have hc's : c'.size = len * ei.size := by rw [f2, q0q (sz := ei.size) g2, hlen]
 obtain ⟨G', hA, hR, hh⟩ := h.new_arr (k := k) (e := 0) (.inl hk) ei.size len xs c' e (by omega) (by omega) g2 hone' f3
 refine ⟨.slice (some ⟨w.heap.size, 0, none⟩) len len, w.alloc (.cells c' e), G', ?_, hA, hR, .os k 0 (Dm_arr (q00 _ _ _) (Nat.le_refl _)) _ (by rw [hh, hlen])⟩
 have hlim2 : len * ei.size ≤ 2 ^ 24 := by omega
 simp only [Instr.buildSlice, Sem.run_bind, run_underlying hu, q0k hT he, Result.andThen]
 rw [if_neg (by omega), if_neg hne]
 simp [q12 hT he, f1, newRow]
def qaj (l : List UInt8) : List AVal := l.map fun b => .int .u8 (b.toNat : Int)
theorem qe7 : ∀ l : List UInt8, flat (qaj l) = qaj l
 | [] => rfl
 | b :: l => by
  show AVal.cells _ ++ flat (qaj l) = _
  rw [qe7 l]
  rfl
theorem qe3 {P : Program} {TE : TyE} (hT : q2q P TE) {s : AS} {t : TypeId} {len : Nat} {parts : Array (Nat × Operand)} {sz : Nat} {xs : List AVal} (h0 : len ≠ 0) (hb : q1p TE s.M t len (evp s.T parts.toList) none = some (.sl sz xs, [])) (k : Nat) (hk : s.M k = none) :
 Hook P s (.buildSlice t len parts) (fun v M' => v = .os k 0 ∧ M' = upd s.M k (some (.arr 0 sz xs))) := by
 intro n B G act w hR o ho K Q hK
 obtain ⟨p1, p2⟩ := qfj hR parts
 obtain ⟨v, w', G', r1, r2, r3, r4⟩ := qog hT hR p1 p2 h0 hb k hk
 unfold Oper.wp
 have hrun : (execOp act.eval o).run P w = .ok (.value v) w' := by
  unfold execOp
  rw [ho]
  simp only [Sem.run_bind, r1, Result.andThen]
  rfl
 rw [hrun]
 exact hK _ _ _ w' G' ⟨rfl, rfl⟩ r2 r3 r4
theorem ql6 {P : Program} {TE : TyE} (hT : q2q P TE) {s : AS} {x : Operand} {t u : TypeId} {i j : TyI} (ht : TE t = some i) (hd : i.td = .slice u) (hu : TE u = some j) (hj : j.td = .int .u8) {k e : Nat} {bs : List UInt8} (hb0 : bs ≠ []) (hx : ev s.T x = .os k e) (hk : s.M k = some (.arr e 1 (qaj bs))) :
 Hook P s (.convert t t x) (fun v M' => v = .sl 1 (qaj bs) ∧ M' = upd s.M k (some .dead)) := by
 intro n B G act w hR o ho K Q hK
 have q1 := hR.ev x
 rw [hx] at q1
 generalize hxv : act.eval x = xv at q1
 cases q1 with
 | os _ _ hD _ hv =>
 have hm : OwnAt (Dm s.M) G B w (.arr k) 1 (qaj bs) (G.hd k e) := hR.mem k _ hk
 rw [← hv] at hm
 rcases hm with ⟨_, h0⟩ | ⟨b, off, cap, c, el, rfl, h2, h3, h4, h5, h6, h7, h8, h9⟩
 ·exact absurd h0 (by cases bs <;> simp [qaj] at hb0 ⊢)
 obtain ⟨d, inf, u1, u2, u3, u4, u5, u6, u7⟩ := hT t i ht
 obtain ⟨d', inf', u1', u2', _⟩ := hT u j hu
 have hdd : d = .slice u := by rw [hd] at u2; cases d <;> simp [TD.of] at u2; rw [u2]
 have hdd' : d' = .int .u8 := by rw [hj] at u2'; cases d' <;> simp [TD.of] at u2'; rw [u2']
 subst hdd
 subst hdd'
 let w' : World := w.freeze { block := b, off := c.size } 1
 have hlt : b < w.heap.size := (Array.getElem?_eq_some_iff.1 h5).1
 have hsz : w'.heap.size = w.heap.size := by simp [w', World.freeze]
 have hsame : ∀ r, r ≠ b → w'.heap[r]? = w.heap[r]? := fun r hr => by
  simp only [w', World.freeze]
  rw [if_neg (by decide)]
  simp only [Array.getElem?_modify]
  rw [if_neg (fun e => hr e.symm)]
 have hb' : w'.heap[b]? = some (.cells c el (c.size, c.size + 1)) := by
  simp only [w', World.freeze]
  rw [if_neg (by decide)]
  simp only [Array.getElem?_modify, if_true, h5, Option.map_some]
  rfl
 have hrun : (execOp act.eval o).run P w = .ok (.value (.slice (some ⟨b, off, none⟩) (qaj bs).length cap)) w' := by
  unfold execOp
  rw [ho]
  have hsh : w.shape? b = some (el, c.size) := by simp [World.shape?, h5]
  simp [convert, run_underlying u1, run_underlying u1', hxv, markStringish, shape, freeze, Sem.run, hsh, Result.andThen]
  rfl
 let G' : Gh := { G with ow := fun r => if r = b then none else G.ow r }
 have g0 : ∀ r, G.ow r = none → G'.ow r = none := fun r hr => by simp only [G', hr]; split <;> rfl
 have hA : Adv G w G' w' := ⟨⟨rfl, Nat.le_refl _⟩, rfl, rfl, by rw [hsz]; exact Nat.le_refl _, fun r hr ho => ⟨hsame r (fun e => by rw [e, h3] at ho; cases ho), g0 r ho⟩⟩
 have hR' : Rel n B G' ⟨s.T, upd s.M k (some .dead)⟩ act w' := hR.update hA k .dead (by show qml (s.M k) _; rw [hk]; trivial) (fun _ _ _ => ⟨rfl, rfl⟩) (fun r key hr hn ho hne => by
  have hrb : r ≠ b := fun e => by rw [e, h3] at ho; cases ho; exact hne rfl
  exact ⟨hsame r hrb, by simp only [G', if_neg hrb]; exact ho⟩) (fun r hr => by
  rw [hsz]
  refine hR.ol r fun hn => hr (g0 r hn)) trivial
 unfold Oper.wp
 rw [hrun]
 refine hK _ _ _ w' G' ⟨rfl, rfl⟩ hA hR' ?_
 refine .sl 1 (qaj bs) b off cap (fun m => c.getD (off + m) undef) h2 (fun _ => ⟨h4, by simp [G']⟩) h8 h7 (fun m y hy => ?_) (fun m y hy => ?_)
 ·obtain ⟨q, hq, _⟩ := h9 m y hy
  simp only [World.cell?, hb']
  simp [hq]
 ·obtain ⟨q, hq, hr⟩ := h9 m y hy
  have hf : c.getD (off + m) undef = q := by simp [hq]
  rw [hf]
  have hy' := List.mem_of_getElem? hy
  rw [qe7] at hy'
  simp only [qaj, List.mem_map] at hy'
  obtain ⟨z, _, rfl⟩ := hy'
  cases hr
  exact .int _ _

def zbh : List SOp := [zO 4 (.assign (.const (.bool false)))]
instance : Live zbh := ⟨[0,1]⟩
def zbg : List SOp := [zM 5 0,zO 6 (.convert 28 9 (.tmp 5)),zM 7 1,zO 8 (.convert 28 9 (.tmp 7)),zO 9 (.binOp .eql 9 (.tmp 6) (.tmp 8) 9),zG 4 9]
instance : Live zbg := ⟨[0,1]⟩
def t_k13 : SC :=
 (.seq (.ops false zbh) (.seq (.ops false zbg) .ret))
theorem it_k13 : FnIs Tryz.prog 13 10 [.tmp 4] t_k13 := ⟨Tryz.f13, _, Tryz.func13, rfl, rfl, rfl, rfl, by kernel_rfl⟩

def r_k9_1 : List SOp := [zO 0 (.assign (.const (.bool false)))]
instance : Live r_k9_1 := ⟨[]⟩
def r_k9_2 : List SOp := [zO 8 (.buildSlice 22 1 #[(0,.const (.int .i64 4))]),zO 9 (.build 82 #[(0,.const (.int .i64 0)),(1,.const (.int .i64 6)),(2,.const (.int .i64 12))]),zO 10 (.build 82 #[(0,.const (.int .i64 1)),(1,.const (.int .i64 2)),(2,.const (.int .i64 2))]),zO 11 (.buildSlice 23 2 #[(0,.tmp 9),(1,.tmp 10)]),zO 12 (.build 25 #[(0,.tmp 8),(1,.tmp 11)]),zO 13 (.call ⟨.value (.func 12),#[.tmp 12],#[25]⟩),zM 7 13,zX 14 7 0,zX 15 7 1,zG 1 14,zG 2 15]
instance : Live r_k9_2 := ⟨[]⟩
def r_k9_3 : List SOp := [zM 16 2,zO 17 (.binOp .neq 35 (.tmp 16) (.const (.int .i64 0)) 35),zM 18 17,⟨some 19,.move (.tmp 1),some ((some 18),false)⟩,⟨some 20,.convert 28 9 (.tmp 19),some ((some 18),false)⟩,⟨some 21,.binOp .neq 9 (.tmp 20) (.const (.string ⟨#[1,4,2,0,0,6,1,0,0]⟩)) 9,some ((some 18),false)⟩,zO 22 (.pick (.tmp 18) (.const (.bool true)) (.tmp 21))]
instance : Live r_k9_3 := ⟨[1,2]⟩
def r_k9_4 : List SOp := [zO 0 (.assign (.const (.bool false)))]
instance : Live r_k9_4 := ⟨[]⟩
def qpp : List SOp := [zO 24 (.buildSlice 28 6 #[(0,.const (.int .u8 1)),(1,.const (.int .u8 2)),(2,.const (.int .u8 0)),(3,.const (.int .u8 1)),(4,.const (.int .u8 65)),(5,.const (.int .u8 4))]),zO 25 (.convert 28 28 (.tmp 24)),zO 26 (.call ⟨.value (.func 24),#[.tmp 25],#[28]⟩),zM 23 26,zX 27 23 0,zX 28 23 1,zG 3 27,zG 4 28]
instance : Live qpp := ⟨[]⟩
def r_k9_6 : List SOp := [zM 29 4,zO 30 (.binOp .neq 35 (.tmp 29) (.const (.int .i64 0)) 35),zM 31 30,⟨some 32,.move (.tmp 3),some ((some 31),false)⟩,⟨some 33,.build 43 #[(0,.const (.int .i64 2)),(1,.const (.int .i64 1))],some ((some 31),false)⟩,⟨some 34,.build 45 #[(0,.tmp 33),(1,.const (.string ⟨#[65]⟩)),(2,.const (.int .i64 5))],some ((some 31),false)⟩,⟨some 35,.buildSlice 26 1 #[(0,.tmp 34)],some ((some 31),false)⟩,⟨some 36,.call ⟨.value (.func 17),#[.tmp 32,.tmp 35],#[26,26]⟩,some ((some 31),false)⟩,⟨some 37,.unOp .not 4 (.tmp 36),some ((some 31),false)⟩,zO 38 (.pick (.tmp 31) (.const (.bool true)) (.tmp 37))]
instance : Live r_k9_6 := ⟨[3,4]⟩
def r_k9_7 : List SOp := [zO 0 (.assign (.const (.bool false)))]
instance : Live r_k9_7 := ⟨[]⟩
def qpo : List SOp := [zO 40 (.buildSlice 28 5 #[(0,.const (.int .u8 1)),(1,.const (.int .u8 0)),(2,.const (.int .u8 1)),(3,.const (.int .u8 1)),(4,.const (.int .u8 0))]),zO 41 (.convert 28 28 (.tmp 40)),zO 42 (.call ⟨.value (.func 26),#[.tmp 41],#[28]⟩),zM 39 42,zX 43 39 0,zX 44 39 1,zG 5 43,zG 6 44]
instance : Live qpo := ⟨[]⟩
def r_k9_9 : List SOp := [zM 45 6,zO 46 (.binOp .eql 35 (.tmp 45) (.const (.int .i64 0)) 35),zM 47 46,⟨some 48,.move (.tmp 5),some ((some 47),true)⟩,⟨some 49,.buildSlice 22 1 #[(0,.const (.int .i64 1))],some ((some 47),true)⟩,⟨some 50,.build 25 #[(0,.tmp 49)],some ((some 47),true)⟩,⟨some 51,.build 84 #[(1,.tmp 50)],some ((some 47),true)⟩,⟨some 52,.buildSlice 27 1 #[(0,.tmp 51)],some ((some 47),true)⟩,⟨some 53,.call ⟨.value (.func 27),#[.tmp 48,.tmp 52],#[27,27]⟩,some ((some 47),true)⟩,zO 54 (.pick (.tmp 47) (.tmp 53) (.const (.bool false))),zG 0 54]
instance : Live r_k9_9 := ⟨[5,6]⟩
def t_k9 : SC :=
 (.seq (.ops false r_k9_1) (.seq (.ops false r_k9_2) (.seq (.seq (.ops false r_k9_3) (.cond (.tmp 22) (.seq (.ops false r_k9_4) .ret) .skip)) (.seq (.ops false qpp) (.seq (.seq (.ops false r_k9_6) (.cond (.tmp 38) (.seq (.ops false r_k9_7) .ret) .skip)) (.seq (.ops false qpo) (.seq (.ops false r_k9_9) .ret)))))))
theorem it_k9 : FnIs Tryz.prog 9 55 [.tmp 0] t_k9 := ⟨Tryz.f9, _, Tryz.func9, rfl, rfl, rfl, rfl, by kernel_rfl⟩

def qep (b : Bs) : ByteArray := ⟨b.toArray⟩
theorem z2e {a b : Bs} (h : qep a = qep b) : a = b := by
 have := congrArg (fun x => x.data.toList) h
 simpa [qep] using this
abbrev numsB (b : Bs) : List Int := b.map fun c => (c.toNat : Int)
theorem qdr (b : Bs) : z0f (numsB b) = qep b := by
 have key : ∀ (b : Bs) (r : ByteArray), (numsB b).foldl (fun r n => r.push (UInt8.ofNat n.toNat)) r = ⟨r.data ++ b.toArray⟩ := by
  intro b
  induction b with
  | nil => intro r; simp [numsB]
  | cons c b ih =>
   intro r
   show (numsB b).foldl _ (r.push (UInt8.ofNat ((c.toNat : Int)).toNat)) = _
   rw [ih, Int.toNat_natCast, UInt8.ofNat_toNat]
   simp [ByteArray.push]
 have := key b ByteArray.empty
 unfold z0f
 rw [this]
 simp [qep]
theorem ev_k13 (a b : Bs) : Ev (En Tryz.prog rfl).P 13 [.sl 1 (q13 a), .sl 1 (q13 b)] (.ret (.bool (decide (a = b)))) := by
 refine Ev.of_body it_k13 (by simp) (Run.start ?_)
 unfold t_k13
 have n1 := q5e a
 have n2 := q5e b
 have s1 := qdr a
 have s2 := qdr b
 have hd : decide (qep a = qep b) = decide (a = b) := by
  by_cases h : a = b
  ·subst h; simp
  ·have : qep a ≠ qep b := fun e => h (z2e e)
   simp [h, this]
 (focus (have hF := (aI (aI @n1 @n2) (aI @s1 (aI @s2 @hd))); (repeat' (first | refine go1 (k:=?_) | with_reducible refine Ny.of ?_ ?_ | (refine Hyp.of ?_; intro hc; (try simp only [hc]); (try simp only [Bh] at hc)))); all_goals clear hF))
 exact Fin.all rfl rfl rfl
theorem zco {α : Type} {z x : α} {ok : α → Bool} {b : Bs} {r : Rs α} (h : r = .ok (x, b.length)) (ho : ok x = true) : z1v z ok b r = x ∧ qfu z ok b r = 0 := by
 have hr : qda b r = true := by rw [h]; simp [qda, rdA, rdE, q41]
 have hv : rdV z r = x := by rw [h]; rfl
 unfold z1v qfu
 rw [hr, hv, ho]
 exact ⟨rfl, rfl⟩
theorem ev_k9 : Ev (En Tryz.prog rfl).P 9 [] (.ret (.bool true)) := by
 have c1 : Ev (En Tryz.prog rfl).P 12 [q17 fixP] (.ret (.tup [.sl 1 (q13 z11), .int .i64 0])) := by
  have := qld fixP (by decide) fun h => (q2a h).pw (by decide)
  rw [zcu, z10] at this
  exact this
 have e2 : q0c qfy 0 = .ok (qo0, qfy.length) := q6d (by rw [z12]; exact St.all _) (q4p qck) (q8q qck) (by decide)
 have c2 : Ev (En Tryz.prog rfl).P 24 [.sl 1 (q13 qfy)] (.ret (.tup [.sl 4 (q0l qo0), .int .i64 0])) := by
  have := ev_k24 qfy (by decide) (by rw [e2]; exact (by decide : qo0.length ≤ 1000000000))
  obtain ⟨h1, h2⟩ := zco (z := []) (ok := q2x) e2 qck
  rw [h1, h2] at this
  exact this
 have c3 : Ev (En Tryz.prog rfl).P 17 [.sl 4 (q0l qo0), .sl 4 (q0l qo0)] (.ret (.bool true)) := ev_k17 qo0 (by decide)
 have e4 : q08 qfx 0 = .ok (qmj, qfx.length) := q6b (by rw [z0z]; exact St.all _) (fun r hr => (q73 qcj r hr).1) (fun r hr => (q73 qcj r hr).2) (by decide)
 have c4 : Ev (En Tryz.prog rfl).P 26 [.sl 1 (q13 qfx)] (.ret (.tup [.sl 3 (q1j qmj), .int .i64 0])) := by
  have hw : ∀ r ∈ qmj, wt r.past ≤ 40000000 := by decide
  have := ev_k26 qfx (by decide) (by rw [e4]; exact (by decide : qmj.length ≤ 1000000000)) (by rw [e4]; exact hw)
  obtain ⟨h1, h2⟩ := zco (z := []) (ok := q4o) e4 qcj
  rw [h1, h2] at this
  exact this
 have c5 : Ev (En Tryz.prog rfl).P 27 [.sl 3 (q1j qmj), .sl 3 (q1j qmj)] (.ret (.bool true)) := ev_k27 qmj (by decide) (by decide)
 refine Ev.of_body it_k9 (by simp) (Run.start ?_)
 unfold t_k9
 have hS := qhh
 generalize hx : SC.ops false qpp = X
 generalize hy : SC.ops false qpo = Y
 (focus (have hF := @q00; (repeat' (first | refine go1 (k:=?_) | with_reducible refine Ny.of ?_ ?_ | (refine Hyp.of ?_; intro hc; (try simp only [hc]); (try simp only [Bh] at hc)))); all_goals clear hF))
 refine q01 [q17 fixP] (he := c1) (k:=?_)
 have n1 := q5e z11
 have s1 := qhg z11
 have d1 : ((⟨z11.toArray⟩ : ByteArray) = ⟨#[1, 4, 2, 0, 0, 6, 1, 0, 0]⟩) = True := eq_true rfl
 (focus (have hF := (aI @n1 (aI @s1 @d1)); (repeat' (first | refine go1 (k:=?_) | with_reducible refine Ny.of ?_ ?_ | (refine Hyp.of ?_; intro hc; (try simp only [hc]); (try simp only [Bh] at hc)))); all_goals clear hF))
 subst hx
 refine Run.ops ?_
 unfold qpp
 refine q1z (qe3 (TE := TE0) (En Tryz.prog rfl).hT (s := ⟨_, _⟩) (sz := 1) (xs := qaj qfy) (by decide) (by with_unfolding_all rfl) 24 (by with_unfolding_all rfl)) ?_
 rintro v M' ⟨rfl, rfl⟩
 dsimp only [AS.put]
 refine q1z (ql6 (TE := TE0) (En Tryz.prog rfl).hT (s := ⟨_, _⟩) ze2 rfl TE_5 rfl (bs := qfy) (by decide) (k := 24) (e := 0) (by with_unfolding_all rfl) (by with_unfolding_all rfl)) ?_
 rintro v M' ⟨rfl, rfl⟩
 dsimp only [AS.put]
 refine q01 [.sl 1 (q13 qfy)] (he := c2) (k:=?_)
 (focus (have hF := @q00; (repeat' (first | refine go1 (k:=?_) | with_reducible refine Ny.of ?_ ?_ | (refine Hyp.of ?_; intro hc; (try simp only [hc]); (try simp only [Bh] at hc)))); all_goals clear hF))
 refine q01 [.sl 4 (q0l qo0), .sl 4 (q0l qo0)] (he := c3) (k:=?_)
 (focus (have hF := @q00; (repeat' (first | refine go1 (k:=?_) | with_reducible refine Ny.of ?_ ?_ | (refine Hyp.of ?_; intro hc; (try simp only [hc]); (try simp only [Bh] at hc)))); all_goals clear hF))
 subst hy
 refine Run.ops ?_
 unfold qpo
 refine q1z (qe3 (TE := TE0) (En Tryz.prog rfl).hT (s := ⟨_, _⟩) (sz := 1) (xs := qaj qfx) (by decide) (by with_unfolding_all rfl) 40 (by with_unfolding_all rfl)) ?_
 rintro v M' ⟨rfl, rfl⟩
 dsimp only [AS.put]
 refine q1z (ql6 (TE := TE0) (En Tryz.prog rfl).hT (s := ⟨_, _⟩) ze2 rfl TE_5 rfl (bs := qfx) (by decide) (k := 40) (e := 0) (by with_unfolding_all rfl) (by with_unfolding_all rfl)) ?_
 rintro v M' ⟨rfl, rfl⟩
 dsimp only [AS.put]
 refine q01 [.sl 1 (q13 qfx)] (he := c4) (k:=?_)
 (focus (have hF := @q00; (repeat' (first | refine go1 (k:=?_) | with_reducible refine Ny.of ?_ ?_ | (refine Hyp.of ?_; intro hc; (try simp only [hc]); (try simp only [Bh] at hc)))); all_goals clear hF))
 replace c5 : Ev (En Tryz.prog rfl).P 27 [.sl 3 (q1j qmj), .sl 3 [.agg [.str ⟨#[]⟩, .sl 1 (q04 [1]), .nil]]] _ := c5.wks ⟨Wkn.refl _, Wkn.sl rfl ⟨Wkn.refl _, Wkn.refl _, Wkn.nil 3, trivial⟩ (by decide) (by decide), trivial⟩
 refine q01 [.sl 3 (q1j qmj), .sl 3 [.agg [.str ⟨#[]⟩, .sl 1 (q04 [1]), .nil]]] (he := c5) (k:=?_)
 (focus (have hF := @q00; (repeat' (first | refine go1 (k:=?_) | with_reducible refine Ny.of ?_ ?_ | (refine Hyp.of ?_; intro hc; (try simp only [hc]); (try simp only [Bh] at hc)))); all_goals clear hF))
 exact Fin.all rfl rfl rfl

theorem qcz : Tryz.prog.cellsOf 9 = 1 := by kernel_rfl
theorem qlz : Tryz.prog.cellsOf 84 = 3 := by kernel_rfl
theorem q93 : Tryz.prog.cellsOf 45 = 4 := by kernel_rfl
theorem q7b : Tryz.prog.cellsOf 27 = 1 := by kernel_rfl
theorem q7c : Tryz.prog.cellsOf 26 = 1 := by kernel_rfl
theorem zby : Opens Tryz.prog 9 ByteArray (fun _ => True) (fun s => [.str s]) (fun s => s.size + 1) := Opens.string Tryz.underlying9
def okK (r : Rec) : Prop := okP r.past
def cellsK (r : Rec) : List AVal := [.str r.sku, .sl 1 (q04 r.past.vec), .sl 3 (q0j r.past.cloud)]
theorem op_Rec : Opens Tryz.prog 84 Rec okK cellsK wtK :=
 (Opens.struct Tryz.underlying84 qlz (OpensF.cons (k := 1) zby (fun _ => rfl) qcz rfl (OpensF.cons (k := 2) qc1 (fun _ => rfl) q4i rfl (OpensF.nil _)))).map
  (fun x => ⟨x.1, x.2.1⟩) (fun x h => h.2.1) (fun _ => rfl) (fun x => by show wt x.2.1 + 1 ≤ x.1.size + 1 + (wt x.2.1 + 0) + 1; omega)
theorem qfk : Opens Tryz.prog 27 (List Rec) (fun l => ∀ x ∈ l, okK x) (fun l => [.sl 3 (q1j l)]) (wtL wtK) :=
 Opens.slice (mk := qcs) Tryz.underlying27 op_Rec qlz (by decide) (fun _ => rfl) (fun _ => rfl) (fun x y hy => by simp [cellsK] at hy; rcases hy with rfl | rfl | rfl <;> rfl)
def okE (e : Ent) : Prop := True
def qzy (e : Ent) : List AVal := [.int .i64 e.rep, .int .i64 e.num, .str e.sku, .int .i64 e.qty]
theorem op_Ent : Opens Tryz.prog 45 Ent okE qzy (fun _ => 1) :=
 (Opens.struct Tryz.underlying45 q93 (OpensF.cons (k := 2) op_Dot (fun _ => rfl) qd0 rfl (OpensF.cons (k := 1) zby (fun _ => rfl) qcz rfl (OpensF.cons (k := 1) qa4 (fun _ => rfl) q3x rfl (OpensF.nil _))))).map
  (fun x => ⟨x.1.1, x.1.2, x.2.1, x.2.2.1⟩) (fun x h => trivial) (fun _ => rfl) (fun _ => Nat.le_add_left _ _)
theorem zbz : Opens Tryz.prog 26 (List Ent) (fun l => ∀ x ∈ l, okE x) (fun l => [.sl 4 (q0l l)]) (wtL fun _ => 1) :=
 Opens.slice (mk := encE) Tryz.underlying26 op_Ent q93 (by decide) (fun _ => rfl) (fun _ => rfl) (fun x y hy => by simp [qzy] at hy; rcases hy with rfl | rfl | rfl | rfl <;> rfl)
structure CasK where
 r : List Rec
 q : List Rec
 a : List Ent
 b : List Ent
 p : Pst
 o : Pst

section
open Go.Proofs Go.ChangeShapes Go.WideShapes Go.ChangeAt Go.RowKit
theorem Opens.byte {P : Program} {t : TypeId} (ht : P.underlying t = some (.int .u8)) : Opens P t UInt8 (fun _ => True) (fun c => [.int .u8 (c.toNat : Int)]) (fun _ => 1) := by
 refine ⟨fun {H} enc w fuel cs d ps h => ?_⟩
 obtain ⟨n, rfl, hx, hw⟩ := DataW.trod_int ht h
 have hd : d = .lit (.int .u8 n) := congrArg Prod.fst hx
 subst hd
 have hb := bounds_u8 hw
 refine ⟨UInt8.ofNat n.toNat, trivial, by simp [Rows.uptoBulk], rfl, fun i y v hy hv G hG => ?_⟩
 match i with
 | 0 =>
  simp only [List.getElem?_cons_zero, Option.some.injEq] at hy hv
  subst hy; subst hv
  have hn : ((UInt8.ofNat n.toNat).toNat : Int) = n := by
   rw [UInt8.toNat_ofNat']
   omega
  rw [hn]
  exact .int _ _
 | i + 1 => simp at hy
theorem z1h : Tryz.prog.cellsOf 5 = 1 := by kernel_rfl
theorem q3j : Tryz.prog.cellsOf 28 = 1 := by kernel_rfl
def mkB (c : UInt8) : AVal := .int .u8 (c.toNat : Int)
theorem q6z : Opens Tryz.prog 28 Bs (fun l => ∀ x ∈ l, True) (fun l => [.sl 1 (q13 l)]) (wtL fun _ => 1) :=
 Opens.slice (mk := mkB) Tryz.underlying28 (Opens.byte Tryz.underlying5) z1h (by decide) (fun _ => rfl) (fun _ => rfl) (fun x y hy => by simp at hy; subst hy; rfl)
structure CasP where
 p : Pst
 q : Pst
 es : List Ent
 fs : List Ent
 rs : List Rec
 ts : List Rec
 a : Bs
 b : Bs
 c : Bs
def q3y (x : CasP) : List AVal := [.sl 1 (q04 x.p.vec), .sl 3 (q0j x.p.cloud), .sl 1 (q04 x.q.vec), .sl 3 (q0j x.q.cloud), .sl 4 (q0l x.es), .sl 4 (q0l x.fs), .sl 3 (q1j x.rs), .sl 3 (q1j x.ts), .sl 1 (q13 x.a), .sl 1 (q13 x.b), .sl 1 (q13 x.c)]
def encZ (x : CasP) : AVal := .agg (q3y x)
def okZ (x : CasP) : Prop := okP x.p ∧ okP x.q
def wtZ (x : CasP) : Nat := wt x.p + wt x.q + x.es.length + x.fs.length + qac x.rs + qac x.ts + x.a.length + x.b.length + x.c.length
theorem qd1 : Tryz.prog.cellsOf 30 = 11 := by kernel_rfl
theorem op_CaseP : Opens Tryz.prog 30 CasP okZ q3y wtZ :=
 (Opens.struct Tryz.underlying30 qd1 (OpensF.cons (k := 2) qc1 (fun _ => rfl) q4i rfl (OpensF.cons (k := 2) qc1 (fun _ => rfl) q4i rfl
  (OpensF.cons (k := 1) zbz (fun _ => rfl) q7c rfl (OpensF.cons (k := 1) zbz (fun _ => rfl) q7c rfl (OpensF.cons (k := 1) qfk (fun _ => rfl) q7b rfl (OpensF.cons (k := 1) qfk (fun _ => rfl) q7b rfl
  (OpensF.cons (k := 1) q6z (fun _ => rfl) q3j rfl (OpensF.cons (k := 1) q6z (fun _ => rfl) q3j rfl (OpensF.cons (k := 1) q6z (fun _ => rfl) q3j rfl (OpensF.nil _))))))))))).map
  (fun x => ⟨x.1, x.2.1, x.2.2.1, x.2.2.2.1, x.2.2.2.2.1, x.2.2.2.2.2.1, x.2.2.2.2.2.2.1, x.2.2.2.2.2.2.2.1, x.2.2.2.2.2.2.2.2.1⟩) (fun x h => ⟨h.1, h.2.1⟩) (fun _ => rfl)
  (fun x => by
   show wt x.1 + wt x.2.1 + x.2.2.1.length + x.2.2.2.1.length + qac x.2.2.2.2.1 + qac x.2.2.2.2.2.1 + x.2.2.2.2.2.2.1.length + x.2.2.2.2.2.2.2.1.length + x.2.2.2.2.2.2.2.2.1.length ≤
    wt x.1 + (wt x.2.1 + (wtL (fun _ => 1) x.2.2.1 + (wtL (fun _ => 1) x.2.2.2.1 + ((qac x.2.2.2.2.1 + 1) + ((qac x.2.2.2.2.2.1 + 1) + (wtL (fun _ => 1) x.2.2.2.2.2.2.1 + (wtL (fun _ => 1) x.2.2.2.2.2.2.2.1 + (wtL (fun _ => 1) x.2.2.2.2.2.2.2.2.1 + 0)))))))) + 1
   rw [q7o, q7o, q7o, q7o, q7o]; omega)
end
theorem qch {P : Program} {TE : TyE} (hT : q2q P TE) {s : AS} {t e : TypeId} {x hi mx : Operand} {i ei : TyI} (ht : TE t = some i) (hd : i.td = .slice e) (he : TE e = some ei) {sz n : Nat} {xs : List AVal} {k1 k2 : IntKind} (hsz : sz = ei.size) (hx : ev s.T x = .sl sz xs) (hh : ev s.T hi = .int k1 (n : Int)) (hm : ev s.T mx = .int k2 (n : Int)) (hn : n ≤ xs.length) :
 Hook P s (.slice t x none (some hi) (some mx)) (fun v M' => v = .sl sz (xs.take n) ∧ M' = s.M) := by
 intro nn B G act w hR o ho K Q hK
 have q1 := hR.ev x
 have q2 := hR.ev hi
 have q3 := hR.ev mx
 rw [hx] at q1
 rw [hh] at q2
 rw [hm] at q3
 have hu := q1n hT ht hd
 generalize hxv : act.eval x = xv at q1
 generalize hhv : act.eval hi = hv at q2
 generalize hmv : act.eval mx = mv at q3
 cases q2
 cases q3
 have fin : ∀ (A : Option Addr) (len cap : Nat) (v : Value), xv = .slice A len cap → n ≤ cap → v = .slice (if n = 0 then A else A.map (·.add (0 * ei.size))) (n - 0) (n - 0) → VR (Dm s.M) G B w (.sl sz (xs.take n)) v → o.wp P act w K Q := by
  intro A len cap v hA hc hv hV
  have hrun : (execOp act.eval o).run P w = .ok (.value v) w := by
   unfold execOp
   rw [ho]
   have b1 : (Instr.sliceBounds true len cap none (some (.int k1 (n : Int))) (some (.int k2 (n : Int)))).run P w = .ok (0, n, n) w := by
    have c1 : (0 : Int) ≤ (n : Int) ∧ (n : Int) ≤ (cap : Int) := ⟨by omega, by omega⟩
    have c2 : (0 : Int) ≤ (n : Int) ∧ (n : Int) ≤ (n : Int) := ⟨by omega, Int.le_refl _⟩
    simp [Instr.sliceBounds, Instr.sliceBound, asIntOf, c1, c2]
   simp only [Option.map_none, Option.map_some, hxv, hhv, hmv, hA]
   subst hv
   simp [Instr.sliceAt, Instr.slice, run_underlying hu, b1, q0k hT he, Result.andThen]
  unfold Oper.wp
  rw [hrun]
  exact hK _ _ s.M w G ⟨rfl, rfl⟩ (.refl G w) hR hV
 cases q1 with
 | slnil =>
  have h0 : n = 0 := by simpa using hn
  subst h0
  exact fin none 0 0 (.slice none 0 0) rfl (Nat.le_refl _) rfl (by simp; exact .slnil sz)
 | slemp _ a cap =>
  have h0 : n = 0 := by simpa using hn
  subst h0
  exact fin (some a) 0 cap (.slice (some a) 0 0) rfl (Nat.zero_le _) rfl (by simp; exact .slemp sz a 0)
 | sl _ _ b off cap f hcap hB hone hsz' hcc hv =>
  have hl : (xs.take n).length = n := by rw [List.length_take]; omega
  have hft : flat (xs.take n) = (flat xs).take (n * sz) := q8s hsz' n
  have hget : ∀ (m : Nat) (y : AVal), (flat (xs.take n))[m]? = some y → (flat xs)[m]? = some y := fun m y hy => by
   rw [hft, List.getElem?_take] at hy
   split at hy
   ·exact hy
   ·cases hy
  have hV : VR (Dm s.M) G B w (.sl sz (xs.take n)) (.slice (some ⟨b, off, none⟩) (xs.take n).length n) :=
   .sl sz (xs.take n) b off n f (by omega) (fun hne => hB (fun e => hne (by rw [hft, e]; simp))) (fun y hy => hone y (by rw [hft] at hy; exact List.mem_of_mem_take hy)) (fun y hy => hsz' y (List.mem_of_mem_take hy)) (fun m y hy => hcc m y (hget m y hy)) (fun m y hy => hv m y (hget m y hy))
  rw [hl] at hV
  refine fin (some ⟨b, off, none⟩) xs.length cap _ rfl (by omega) ?_ hV
  by_cases h0 : n = 0
  ·subst h0; simp
  ·rw [if_neg h0]
   simp [q2u]
theorem ql4 {P : Program} {TE : TyE} (hT : q2q P TE) {s : AS} {t e : TypeId} {x lo hi mx : Operand} {i ei : TyI} (ht : TE t = some i) (hd : i.td = .slice e) (he : TE e = some ei) {sz l n : Nat} {xs : List AVal} {k0 k1 k2 : IntKind} (hsz : sz = ei.size) (hx : ev s.T x = .sl sz xs) (hl : ev s.T lo = .int k0 (l : Int)) (hh : ev s.T hi = .int k1 (n : Int)) (hm : ev s.T mx = .int k2 (n : Int)) (hln : l ≤ n) (hn : n ≤ xs.length) :
 Hook P s (.slice t x (some lo) (some hi) (some mx)) (fun v M' => v = .sl sz ((xs.take n).drop l) ∧ M' = s.M) := by
 intro nn B G act w hR o ho K Q hK
 have q1 := hR.ev x
 have q0 := hR.ev lo
 have q2 := hR.ev hi
 have q3 := hR.ev mx
 rw [hx] at q1
 rw [hl] at q0
 rw [hh] at q2
 rw [hm] at q3
 have hu := q1n hT ht hd
 generalize hxv : act.eval x = xv at q1
 generalize hlv : act.eval lo = lv at q0
 generalize hhv : act.eval hi = hv at q2
 generalize hmv : act.eval mx = mv at q3
 cases q0
 cases q2
 cases q3
 have fin : ∀ (A : Option Addr) (len cap : Nat) (v : Value), xv = .slice A len cap → n ≤ cap → v = .slice (if n = l then A else A.map (·.add (l * ei.size))) (n - l) (n - l) → VR (Dm s.M) G B w (.sl sz ((xs.take n).drop l)) v → o.wp P act w K Q := by
  intro A len cap v hA hc hv hV
  have hrun : (execOp act.eval o).run P w = .ok (.value v) w := by
   unfold execOp
   rw [ho]
   have b1 : (Instr.sliceBounds true len cap (some (.int k0 (l : Int))) (some (.int k1 (n : Int))) (some (.int k2 (n : Int)))).run P w = .ok (l, n, n) w := by
    have c1 : (0 : Int) ≤ (n : Int) ∧ (n : Int) ≤ (cap : Int) := ⟨by omega, by omega⟩
    have c2 : (0 : Int) ≤ (n : Int) ∧ (n : Int) ≤ (n : Int) := ⟨by omega, Int.le_refl _⟩
    have c3 : (0 : Int) ≤ (l : Int) ∧ (l : Int) ≤ (n : Int) := ⟨by omega, by omega⟩
    simp [Instr.sliceBounds, Instr.sliceBound, asIntOf, c1, c2, c3]
    intro hlt
    omega
   simp only [Option.map_some, hxv, hlv, hhv, hmv, hA]
   subst hv
   simp [Instr.sliceAt, Instr.slice, run_underlying hu, b1, q0k hT he, Result.andThen]
  unfold Oper.wp
  rw [hrun]
  exact hK _ _ s.M w G ⟨rfl, rfl⟩ (.refl G w) hR hV
 cases q1 with
 | slnil =>
  have h0 : n = 0 := by simpa using hn
  subst h0
  obtain rfl : l = 0 := by omega
  exact fin none 0 0 (.slice none 0 0) rfl (Nat.le_refl _) rfl (by simp; exact .slnil sz)
 | slemp _ a cap =>
  have h0 : n = 0 := by simpa using hn
  subst h0
  obtain rfl : l = 0 := by omega
  exact fin (some a) 0 cap (.slice (some a) 0 0) rfl (Nat.zero_le _) rfl (by simp; exact .slemp sz a 0)
 | sl _ _ b off cap f hcap hB hone hsz' hcc hv =>
  have hl : (xs.take n).length = n := by rw [List.length_take]; omega
  have hft : flat (xs.take n) = (flat xs).take (n * sz) := q8s hsz' n
  have hget : ∀ (m : Nat) (y : AVal), (flat (xs.take n))[m]? = some y → (flat xs)[m]? = some y := fun m y hy => by
   rw [hft, List.getElem?_take] at hy
   split at hy
   ·exact hy
   ·cases hy
  have hV : VR (Dm s.M) G B w (.sl sz (xs.take n)) (.slice (some ⟨b, off, none⟩) (xs.take n).length n) :=
   .sl sz (xs.take n) b off n f (by omega) (fun hne => hB (fun e => hne (by rw [hft, e]; simp))) (fun y hy => hone y (by rw [hft] at hy; exact List.mem_of_mem_take hy)) (fun y hy => hsz' y (List.mem_of_mem_take hy)) (fun m y hy => hcc m y (hget m y hy)) (fun m y hy => hv m y (hget m y hy))
  have hV2 := hV.piece (l := l) (hh := n) hln (by omega)
  rw [List.take_take, Nat.min_self] at hV2
  subst hsz
  exact fin (some ⟨b, off, none⟩) xs.length cap _ rfl (by omega) rfl hV2

def z5i : List SOp := [zO 4 (.assign (.const (.bool false)))]
instance : Live z5i := ⟨[0,1]⟩
def z5h : List SOp := [zO 5 (.assign (.const (.int .i64 8)))]
instance : Live z5h := ⟨[0,1]⟩
def z5g : List SOp := [zM 6 1]
instance : Live z5g := ⟨[0,1,5]⟩
def z5f : List SOp := [zO 8 (.binOp .eql 3 (.tmp 6) (.const (.int .i64 1)) 3),zG 7 8]
instance : Live z5f := ⟨[0,5,6]⟩
def z5e : List SOp := [zM 10 0,zO 11 (.call ⟨.value (.func 23),#[.tmp 10],#[28]⟩),zM 9 11,zX 12 9 0,zX 13 9 1,zG 5 13]
instance : Live z5e := ⟨[0]⟩
def z5d : List SOp := [zO 15 (.binOp .eql 3 (.tmp 6) (.const (.int .i64 2)) 3),zG 14 15]
instance : Live z5d := ⟨[0,5,6]⟩
def z5c : List SOp := [zM 17 0,zO 18 (.call ⟨.value (.func 24),#[.tmp 17],#[28]⟩),zM 16 18,zX 19 16 0,zX 20 16 1,zG 5 20]
instance : Live z5c := ⟨[0]⟩
def z5b : List SOp := [zO 22 (.binOp .eql 3 (.tmp 6) (.const (.int .i64 3)) 3),zG 21 22]
instance : Live z5b := ⟨[0,5,6]⟩
def z5a : List SOp := [zM 24 0,zO 25 (.call ⟨.value (.func 26),#[.tmp 24],#[28]⟩),zM 23 25,zX 26 23 0,zX 27 23 1,zG 5 27]
instance : Live z5a := ⟨[0]⟩
def qq7 : List SOp := [zM 28 5,zO 29 (.binOp .eql 35 (.tmp 28) (.const (.int .i64 0)) 35),zG 4 29]
instance : Live qq7 := ⟨[5]⟩
def t_k67 : SC :=
 (.seq (.ops false z5i) (.seq (.ops false z5h) (.seq (.seq (.ops false z5g) (.block 0 (.seq (.ops false z5f) (.cond (.tmp 7) (.ops false z5e) (.seq (.ops false z5d) (.cond (.tmp 14) (.ops false z5c) (.seq (.ops false z5b) (.cond (.tmp 21) (.ops false z5a) .skip)))))))) (.seq (.ops false qq7) .ret))))
theorem it_k67 : FnIs Tryz.prog 67 30 [.tmp 4] t_k67 := ⟨Tryz.f67, _, Tryz.func67, rfl, rfl, rfl, rfl, by kernel_rfl⟩

def z9f : List SOp := [zO 4 (.assign (.const (.bool false)))]
instance : Live z9f := ⟨[0,1]⟩
def z9e : List SOp := [zO 5 (.assign (.const (.int .i64 0)))]
instance : Live z9e := ⟨[0,1]⟩
def z9d : List SOp := [zM 8 5,zM 9 0,zO 10 (.call ⟨.builtin .len,#[.tmp 9],#[28]⟩),zO 11 (.binOp .lss 3 (.tmp 8) (.tmp 10) 3)]
instance : Live z9d := ⟨[0,1,5]⟩
def z9c : List SOp := [zM 18 0,zM 19 5,zM 20 5,zO 21 (.slice 28 (.tmp 18) none (some (.tmp 19)) (some (.tmp 20))),zM 22 1,zO 23 (.call ⟨.value (.func 67),#[.tmp 21,.tmp 22],#[28,3]⟩),zM 24 23,⟨some 25,.move (.tmp 0),some ((some 24),false)⟩,⟨some 26,.move (.tmp 0),some ((some 24),false)⟩,⟨some 27,.call ⟨.builtin .len,#[.tmp 26],#[28]⟩,some ((some 24),false)⟩,⟨some 28,.binOp .sub 3 (.tmp 27) (.const (.int .i64 1)) 3,some ((some 24),false)⟩,⟨some 29,.move (.tmp 5),some ((some 24),false)⟩,⟨some 30,.binOp .sub 3 (.tmp 28) (.tmp 29) 3,some ((some 24),false)⟩,⟨some 31,.move (.tmp 0),some ((some 24),false)⟩,⟨some 32,.call ⟨.builtin .len,#[.tmp 31],#[28]⟩,some ((some 24),false)⟩,⟨some 33,.binOp .sub 3 (.tmp 32) (.const (.int .i64 1)) 3,some ((some 24),false)⟩,⟨some 34,.move (.tmp 5),some ((some 24),false)⟩,⟨some 35,.binOp .sub 3 (.tmp 33) (.tmp 34) 3,some ((some 24),false)⟩,⟨some 36,.slice 28 (.tmp 25) none (some (.tmp 30)) (some (.tmp 35)),some ((some 24),false)⟩,⟨some 37,.move (.tmp 1),some ((some 24),false)⟩,⟨some 38,.call ⟨.value (.func 67),#[.tmp 36,.tmp 37],#[28,3]⟩,some ((some 24),false)⟩,zO 39 (.pick (.tmp 24) (.const (.bool true)) (.tmp 38))]
instance : Live z9c := ⟨[0,1,5]⟩
def z9b : List SOp := [zO 4 (.assign (.const (.bool false)))]
instance : Live z9b := ⟨[]⟩
def z9a : List SOp := [zM 12 5,zM 13 0,zO 14 (.call ⟨.builtin .len,#[.tmp 13],#[28]⟩),zO 15 (.binOp .quo 3 (.tmp 14) (.const (.int .i64 2000)) 3),zO 16 (.binOp .add 3 (.const (.int .i64 1)) (.tmp 15) 3),zO 17 (.binOp .add 3 (.tmp 12) (.tmp 16) 3),zG 5 17]
instance : Live z9a := ⟨[0,1,5]⟩
def z99 : List SOp := [zO 40 (.buildSlice 28 4 #[(0,.const (.int .u8 0)),(1,.const (.int .u8 1)),(2,.const (.int .u8 127)),(3,.const (.int .u8 255))]),zO 41 (.call ⟨.builtin .len,#[.tmp 40],#[28]⟩),zO 42 (.move (.const (.int .i64 0)))]
instance : Live z99 := ⟨[0,1]⟩
def z98 : List SOp := [zO 43 (.binOp .lss 3 (.tmp 42) (.tmp 41) 3)]
instance : Live z98 := ⟨[0,1,40,41,42]⟩
def z97 : List SOp := [zI 44 28 40 42,zL 45 5 44,zG 7 45]
instance : Live z97 := ⟨[0,1,40,41,42]⟩
def qr4 : List SOp := [zO 46 (.buildSlice 28 0 #[]),zM 47 0,zO 48 (.call ⟨.builtin .append,#[.tmp 46,.tmp 47],#[28,28]⟩),zM 49 7,zO 50 (.buildSlice 28 1 #[(0,.tmp 49)]),zO 51 (.call ⟨.builtin .append,#[.tmp 48,.tmp 50],#[28,28]⟩),zM 52 1,zO 53 (.call ⟨.value (.func 67),#[.tmp 51,.tmp 52],#[28,3]⟩)]
instance : Live qr4 := ⟨[0,1,7,40,41,42]⟩
def qr3 : List SOp := [zO 4 (.assign (.const (.bool false)))]
instance : Live qr3 := ⟨[]⟩
def qr2 : List SOp := [zO 54 (.binOp .add 3 (.tmp 42) (.const (.int .i64 1)) 3),zM 42 54]
instance : Live qr2 := ⟨[0,1,40,41,42]⟩
def qr1 : List SOp := [zM 55 0,zM 56 1,zO 57 (.call ⟨.value (.func 67),#[.tmp 55,.tmp 56],#[28,3]⟩),zG 4 57]
instance : Live qr1 := ⟨[0,1]⟩
def qpd : SC :=
 (.seq (.seq (.ops false z9d) (.cond (.tmp 11) .skip (.exit 0))) (.seq (.block 1 (.seq (.ops false z9c) (.cond (.tmp 39) (.seq (.ops false z9b) .ret) .skip))) (.ops false z9a)))
def qpc : SC :=
 (.seq (.ops false z98) (.seq (.cond (.tmp 43) .skip (.exit 2)) (.seq (.block 3 (.seq (.ops false z97) (.seq (.ops false qr4) (.cond (.tmp 53) (.seq (.ops false qr3) .ret) .skip)))) (.ops false qr2))))
def t_k29 : SC :=
 (.seq (.ops false z9f) (.seq (.seq (.ops false z9e) (.block 0 (.loop qpd))) (.seq (.seq (.ops false z99) (.block 2 (.loop qpc))) (.seq (.ops false qr1) .ret))))
theorem it_k29 : FnIs Tryz.prog 29 58 [.tmp 4] t_k29 := ⟨Tryz.f29, _, Tryz.func29, rfl, rfl, rfl, rfl, by kernel_rfl⟩

def z59 : List SOp := [zO 1 (.box 30 (.tmp 0)),zO 2 (.assign (.const (.bool false)))]
instance : Live z59 := ⟨[0]⟩
def z58 : List SOp := [zO 7 (.call ⟨.value (.func 9),#[],#[]⟩),zO 8 (.unOp .not 4 (.tmp 7))]
instance : Live z58 := ⟨[1]⟩
def z57 : List SOp := [zO 2 (.assign (.const (.bool false)))]
instance : Live z57 := ⟨[]⟩
def z56 : List SOp := [zF 10 30 1 0,zL 11 25 10,zO 12 (.call ⟨.value (.func 12),#[.tmp 11],#[25]⟩),zM 9 12,zX 13 9 0,zX 14 9 1,zG 3 13,zG 4 14]
instance : Live z56 := ⟨[1]⟩
def z54 : List SOp := [zF 15 30 1 0,zL 16 25 15,zO 17 (.call ⟨.value (.func 22),#[.tmp 16],#[25]⟩),zM 18 17,⟨some 19,.move (.tmp 4),some ((some 18),true)⟩,⟨some 20,.binOp .neq 35 (.tmp 19) (.const (.int .i64 0)) 35,some ((some 18),true)⟩,⟨some 21,.move (.tmp 20),some ((some 18),true)⟩,⟨some 22,.move (.tmp 3),some ((some 21),false)⟩,⟨some 23,.call ⟨.value (.func 29),#[.tmp 22,.const (.int .i64 1)],#[28,3]⟩,some ((some 21),false)⟩,⟨some 24,.unOp .not 4 (.tmp 23),some ((some 21),false)⟩,⟨some 25,.pick (.tmp 21) (.const (.bool true)) (.tmp 24),some ((some 18),true)⟩,zO 26 (.pick (.tmp 18) (.tmp 25) (.const (.bool false)))]
instance : Live z54 := ⟨[1,3,4]⟩
def z52 : List SOp := [zO 2 (.assign (.const (.bool false)))]
instance : Live z52 := ⟨[]⟩
def z51 : List SOp := [zF 28 30 1 2,zL 29 26 28,zO 30 (.call ⟨.value (.func 15),#[.tmp 29],#[26]⟩),zM 27 30,zX 31 27 0,zX 32 27 1,zG 5 31,zG 4 32]
instance : Live z51 := ⟨[1]⟩
def z4z : List SOp := [zF 33 30 1 2,zL 34 26 33,zO 35 (.call ⟨.value (.func 16),#[.tmp 34],#[26]⟩),zM 36 35,⟨some 37,.move (.tmp 4),some ((some 36),true)⟩,⟨some 38,.binOp .neq 35 (.tmp 37) (.const (.int .i64 0)) 35,some ((some 36),true)⟩,⟨some 39,.move (.tmp 38),some ((some 36),true)⟩,⟨some 40,.move (.tmp 5),some ((some 39),false)⟩,⟨some 41,.call ⟨.value (.func 29),#[.tmp 40,.const (.int .i64 2)],#[28,3]⟩,some ((some 39),false)⟩,⟨some 42,.unOp .not 4 (.tmp 41),some ((some 39),false)⟩,⟨some 43,.pick (.tmp 39) (.const (.bool true)) (.tmp 42),some ((some 36),true)⟩,zO 44 (.pick (.tmp 36) (.tmp 43) (.const (.bool false)))]
instance : Live z4z := ⟨[1,4,5]⟩
def z4y : List SOp := [zO 2 (.assign (.const (.bool false)))]
instance : Live z4y := ⟨[]⟩
def qn6 : List SOp := [zF 46 30 1 4,zL 47 27 46,zO 48 (.call ⟨.value (.func 20),#[.tmp 47],#[27]⟩),zM 45 48,zX 49 45 0,zX 50 45 1,zG 6 49,zG 4 50]
instance : Live qn6 := ⟨[1]⟩
def qn5 : List SOp := [zF 51 30 1 4,zL 52 27 51,zO 53 (.call ⟨.value (.func 25),#[.tmp 52],#[27]⟩),zO 54 (.binOp .neq 35 (.tmp 53) (.const (.int .i64 0)) 35),zM 55 54,⟨some 56,.move (.tmp 4),some ((some 55),false)⟩,⟨some 57,.binOp .eql 35 (.tmp 56) (.const (.int .i64 0)) 35,some ((some 55),false)⟩,⟨some 58,.move (.tmp 57),some ((some 55),false)⟩,⟨some 59,.move (.tmp 6),some ((some 58),true)⟩,⟨some 60,.call ⟨.value (.func 29),#[.tmp 59,.const (.int .i64 3)],#[28,3]⟩,some ((some 58),true)⟩,⟨some 61,.pick (.tmp 58) (.tmp 60) (.const (.bool false)),some ((some 55),false)⟩,zO 62 (.pick (.tmp 55) (.const (.bool true)) (.tmp 61)),zG 2 62]
instance : Live qn5 := ⟨[1,4,6]⟩
def t_k7 : SC :=
 (.seq (.ops false z59) (.seq (.seq (.ops false z58) (.cond (.tmp 8) (.seq (.ops false z57) .ret) .skip)) (.seq (.ops false z56) (.seq (.seq (.ops false z54) (.cond (.tmp 26) (.seq (.ops false z52) .ret) .skip)) (.seq (.ops false z51) (.seq (.seq (.ops false z4z) (.cond (.tmp 44) (.seq (.ops false z4y) .ret) .skip)) (.seq (.ops false qn6) (.seq (.ops false qn5) .ret))))))))
theorem it_k7 : FnIs Tryz.prog 7 63 [.tmp 2] t_k7 := ⟨Tryz.f7, _, Tryz.func7, rfl, rfl, rfl, rfl, by kernel_rfl⟩

section
theorem qze (b : Bs) (hb : b.length ≤ 110000000) (kind : Nat) (hk : kind = 1 ∨ kind = 2 ∨ kind = 3) : Ev (En Tryz.prog rfl).P 67 [.sl 1 (q13 b), .int .i64 (kind : Int)] (.ret (.bool (tkK kind b))) := by
 refine Ev.of_body it_k67 (by simp) (Run.start ?_)
 have hS := qhh
 unfold t_k67
 rcases hk with rfl | rfl | rfl
 ·have w := zbs b
  have g := ev_k23 b (by omega) (by omega)
  have e : tkK 1 b = decide (qfu ⟨[], []⟩ q0u b (q1r b 0) = 0) := rfl
  rw [e]
  generalize qfu ⟨[], []⟩ q0u b (q1r b 0) = r at *
  (focus (have hF := @q00; (repeat' (first | refine go1 (k:=?_) | with_reducible refine Ny.of ?_ ?_ | (refine Hyp.of ?_; intro hc; (try simp only [hc]); (try simp only [Bh] at hc)))); all_goals clear hF))
  refine q01 [.sl 1 (q13 b)] (he := g) (k:=?_)
  (focus (have hF := @q00; (repeat' (first | refine go1 (k:=?_) | with_reducible refine Ny.of ?_ ?_ | (refine Hyp.of ?_; intro hc; (try simp only [hc]); (try simp only [Bh] at hc)))); all_goals clear hF))
  exact Fin.all rfl rfl rfl
 ·have w := qfg b
  have g := ev_k24 b (by omega) (by omega)
  have e : tkK 2 b = decide (qfu [] q2x b (q0c b 0) = 0) := rfl
  rw [e]
  generalize qfu [] q2x b (q0c b 0) = r at *
  (focus (have hF := @q00; (repeat' (first | refine go1 (k:=?_) | with_reducible refine Ny.of ?_ ?_ | (refine Hyp.of ?_; intro hc; (try simp only [hc]); (try simp only [Bh] at hc)))); all_goals clear hF))
  refine q01 [.sl 1 (q13 b)] (he := g) (k:=?_)
  (focus (have hF := @q00; (repeat' (first | refine go1 (k:=?_) | with_reducible refine Ny.of ?_ ?_ | (refine Hyp.of ?_; intro hc; (try simp only [hc]); (try simp only [Bh] at hc)))); all_goals clear hF))
  exact Fin.all rfl rfl rfl
 ·have w := (qkl b).1
  have w2 := qkk b
  have g := ev_k26 b (by omega) (by omega) (fun r hr => by have := w2 r hr; omega)
  have e : tkK 3 b = decide (qfu [] q4o b (q08 b 0) = 0) := rfl
  rw [e]
  generalize qfu [] q4o b (q08 b 0) = r at *
  (focus (have hF := @q00; (repeat' (first | refine go1 (k:=?_) | with_reducible refine Ny.of ?_ ?_ | (refine Hyp.of ?_; intro hc; (try simp only [hc]); (try simp only [Bh] at hc)))); all_goals clear hF))
  refine q01 [.sl 1 (q13 b)] (he := g) (k:=?_)
  (focus (have hF := @q00; (repeat' (first | refine go1 (k:=?_) | with_reducible refine Ny.of ?_ ?_ | (refine Hyp.of ?_; intro hc; (try simp only [hc]); (try simp only [Bh] at hc)))); all_goals clear hF))
  exact Fin.all rfl rfl rfl
theorem zd5 (b : Bs) (kind : Nat) (hk : kind = 1 ∨ kind = 2 ∨ kind = 3) (hw : WholeB kind b) : Ev (En Tryz.prog rfl).P 29 [.sl 1 (q13 b), .int .i64 (kind : Int)] (.ret (.bool true)) := by
 refine Ev.of_body it_k29 (by simp) (Run.start ?_)
 unfold t_k29
 have e1 := q1u b
 have hb := hw.l
 (focus (have hF := @e1; (repeat' (first | refine go1 (k:=?_) | with_reducible refine Ny.of ?_ ?_ | (refine Hyp.of ?_; intro hc; (try simp only [hc]); (try simp only [Bh] at hc)))); all_goals clear hF))
 refine Run.while (σ := Nat) (fun n => ⟨tms [(0, .sl 1 (q13 b)), (1, .int .i64 (kind : Int)), (5, .int .i64 (n : Int))], mms []⟩) (fun n => n ≤ 300000000) (fun n => 300000000 - n) 0 (have hW := True.intro; q0z) (Nat.zero_le _) ?_
 intro n hn
 unfold qpd
 by_cases hlt : n < b.length
 ·have hlt2 : (n : Int) < (b.length : Int) := by omega
  have k1 : (q13 b).take n = q13 (b.take n) := by simp [q13]
  have k2 : (q13 b).take (b.length - 1 - n) = q13 (b.take (b.length - 1 - n)) := by simp [q13]
  have c1 := qze (b.take n) (by rw [List.length_take]; omega) kind hk
  have c2 := qze (b.take (b.length - 1 - n)) (by rw [List.length_take]; omega) kind hk
  rw [hw.no n hlt] at c1
  rw [hw.no _ (by omega)] at c2
  have w1 : IntKind.i64.wrap ((b.length : Int) - 1) = (b.length : Int) - 1 := q0e (by omega)
  have w2 : IntKind.i64.wrap ((b.length : Int) - 1 - (n : Int)) = ((b.length - 1 - n : Nat) : Int) := by rw [q0e (by omega)]; omega
  have q1 : ((b.length : Int)).tdiv 2000 = ((b.length / 2000 : Nat) : Int) := by rw [Int.tdiv_eq_ediv_of_nonneg (by omega)]; omega
  have w3 : IntKind.i64.wrap ((b.length / 2000 : Nat) : Int) = ((b.length / 2000 : Nat) : Int) := q0e (by omega)
  have w4 : IntKind.i64.wrap (1 + ((b.length / 2000 : Nat) : Int)) = ((1 + b.length / 2000 : Nat) : Int) := by rw [q0e (by omega)]; omega
  have w5 : IntKind.i64.wrap ((n : Int) + ((1 + b.length / 2000 : Nat) : Int)) = ((n + (1 + b.length / 2000) : Nat) : Int) := by rw [q0e (by omega)]; omega
  (focus (have hF := (aI @e1 @hlt2); (repeat' (first | refine go1 (k:=?_) | with_reducible refine Ny.of ?_ ?_ | (refine Hyp.of ?_; intro hc; (try simp only [hc]); (try simp only [Bh] at hc)))); all_goals clear hF))
  refine q1z (qch (TE := TE0) (En Tryz.prog rfl).hT (s := ⟨_, _⟩) ze2 rfl TE_5 rfl (by with_unfolding_all rfl) (by with_unfolding_all rfl) (by with_unfolding_all rfl) (n := n) (by omega)) ?_
  rintro v M' ⟨rfl, rfl⟩
  dsimp only [AS.put]
  rw [k1]
  (focus (have hF := @e1; (repeat' (first | refine go1 (k:=?_) | with_reducible refine Ny.of ?_ ?_ | (refine Hyp.of ?_; intro hc; (try simp only [hc]); (try simp only [Bh] at hc)))); all_goals clear hF))
  refine q01 [.sl 1 (q13 (b.take n)), .int .i64 (kind : Int)] (he := c1) (k:=?_)
  (focus (have hF := (aI @e1 (aI @w1 @w2)); (repeat' (first | refine go1 (k:=?_) | with_reducible refine Ny.of ?_ ?_ | (refine Hyp.of ?_; intro hc; (try simp only [hc]); (try simp only [Bh] at hc)))); all_goals clear hF))
  refine q1z (qch (TE := TE0) (En Tryz.prog rfl).hT (s := ⟨_, _⟩) ze2 rfl TE_5 rfl (by with_unfolding_all rfl) (by with_unfolding_all rfl) (by with_unfolding_all rfl) (n := b.length - 1 - n) (by omega)) ?_
  rintro v M' ⟨rfl, rfl⟩
  dsimp only [AS.put]
  rw [k2]
  (focus (have hF := @e1; (repeat' (first | refine go1 (k:=?_) | with_reducible refine Ny.of ?_ ?_ | (refine Hyp.of ?_; intro hc; (try simp only [hc]); (try simp only [Bh] at hc)))); all_goals clear hF))
  refine q01 [.sl 1 (q13 (b.take (b.length - 1 - n))), .int .i64 (kind : Int)] (he := c2) (k:=?_)
  (focus (have hF := (aI (aI @e1 @q1) (aI @w3 (aI @w4 @w5))); (repeat' (first | refine go1 (k:=?_) | with_reducible refine Ny.of ?_ ?_ | (refine Hyp.of ?_; intro hc; (try simp only [hc]); (try simp only [Bh] at hc)))); all_goals clear hF))
  (refine Fin.nextW (n + (1 + b.length / 2000)) ?_ (have hW := True.intro; q0z); (try dsimp only))
  omega
 ·have hlt2 : ¬ (n : Int) < (b.length : Int) := by omega
  (focus (have hF := (aI @e1 @hlt2); (repeat' (first | refine go1 (k:=?_) | with_reducible refine Ny.of ?_ ?_ | (refine Hyp.of ?_; intro hc; (try simp only [hc]); (try simp only [Bh] at hc)))); all_goals clear hF))
  refine Run.while (σ := Nat) (fun i => ⟨tms [(0, .sl 1 (q13 b)), (1, .int .i64 (kind : Int)), (40, .sl 1 [.int .u8 0, .int .u8 1, .int .u8 127, .int .u8 255]), (41, .int .i64 4), (42, .int .i64 (i : Int))], mms []⟩) (fun i => i ≤ 4) (fun i => 4 - i) 0 (have hW := True.intro; q0z) (Nat.zero_le _) ?_
  intro i hi
  unfold qpc
  by_cases hlt4 : i < 4
  ·obtain ⟨c, hc⟩ : ∃ c : UInt8, ([AVal.int .u8 0, .int .u8 1, .int .u8 127, .int .u8 255])[i]? = some (.int .u8 (c.toNat : Int)) := by
    match i, hlt4 with
    | 0, _ => exact ⟨0, rfl⟩
    | 1, _ => exact ⟨1, rfl⟩
    | 2, _ => exact ⟨127, rfl⟩
    | 3, _ => exact ⟨255, rfl⟩
    | i + 4, h => omega
   have hl4 : ([AVal.int .u8 0, .int .u8 1, .int .u8 127, .int .u8 255]).length = 4 := rfl
   generalize hL : ([AVal.int .u8 0, .int .u8 1, .int .u8 127, .int .u8 255]) = L at *
   have hlt5 : (i : Int) < 4 := by omega
   have c1 := qze (b ++ [c]) (by simp; omega) kind hk
   rw [hw.more c] at c1
   have x1 : IntKind.i64.wrap ((i : Int) + 1) = ((i + 1 : Nat) : Int) := q0x (by omega)
   (focus (have hF := (aI (aI @e1 (aI @hl4 @hlt5)) (aI @hlt4 (aI @hc @qct))); (repeat' (first | refine go1 (k:=?_) | with_reducible refine Ny.of ?_ ?_ | (refine Hyp.of ?_; intro hc; (try simp only [hc]); (try simp only [Bh] at hc)))); all_goals clear hF))
   refine z02 (fun j => j == 46) (l := [.sl 1 (q13 (b ++ [c])), .int .i64 (kind : Int)]) (by with_unfolding_all rfl) (by with_unfolding_all rfl) (by simp [q0o, AVal.stb, q0a]) c1 rfl rfl ?_
   (focus (have hF := @x1; (repeat' (first | refine go1 (k:=?_) | with_reducible refine Ny.of ?_ ?_ | (refine Hyp.of ?_; intro hc; (try simp only [hc]); (try simp only [Bh] at hc)))); all_goals clear hF))
   subst hL
   (refine Fin.nextW (i + 1) ?_ (have hW := True.intro; q0z); (try dsimp only))
   omega
  ·have hi4 : i = 4 := by omega
   subst hi4
   have c1 := qze b (by omega) kind hk
   rw [hw.yes] at c1
   (focus (have hF := @e1; (repeat' (first | refine go1 (k:=?_) | with_reducible refine Ny.of ?_ ?_ | (refine Hyp.of ?_; intro hc; (try simp only [hc]); (try simp only [Bh] at hc)))); all_goals clear hF))
   refine q01 [.sl 1 (q13 b), .int .i64 (kind : Int)] (he := c1) (k:=?_)
   (focus (have hF := @e1; (repeat' (first | refine go1 (k:=?_) | with_reducible refine Ny.of ?_ ?_ | (refine Hyp.of ?_; intro hc; (try simp only [hc]); (try simp only [Bh] at hc)))); all_goals clear hF))
   exact Fin.all rfl rfl rfl
def qmm : SC := .seq (.ops false qn6) (.seq (.ops false qn5) .ret)
def qmn : SC := .seq (.ops false z51) (.seq (.seq (.ops false z4z) (.cond (.tmp 44) (.seq (.ops false z4y) .ret) .skip)) qmm)
def qmo : SC := .seq (.ops false z56) (.seq (.seq (.ops false z54) (.cond (.tmp 26) (.seq (.ops false z52) .ret) .skip)) qmn)
theorem z21 : t_k7 = .seq (.ops false z59) (.seq (.seq (.ops false z58) (.cond (.tmp 8) (.seq (.ops false z57) .ret) .skip)) qmo) := rfl
abbrev z23 : Ex → AS → Prop := FnQ (En Tryz.prog rfl).TE [.tmp 2] (.ret (.bool true))
section
variable (x : CasP) (hw : wtZ x ≤ 1050000)
include hw
theorem whole_3 : Run (En Tryz.prog rfl) 63 z23 qmm .done ⟨tms [(1, .ptr 1 0)], mms [(1, .cells (q3y x))]⟩ := by
 have hS := qhh
 unfold wtZ at hw
 have hr := qem x.rs
 have hr2 : ∀ r ∈ x.rs, wt r.past ≤ 1050000 := fun r hr => by have := z1y hr; unfold wtK at this; omega
 have c0 := qdk x.rs (by omega) (fun r hr => by have := hr2 r hr; omega)
 have c1 := ev_k20 x.rs (by omega) (fun r hr => by have := hr2 r hr; omega) (fun h => qzb h (by omega))
 have c2 : q4o x.rs = true → Ev (En Tryz.prog rfl).P 29 [.sl 1 (q13 (q0s x.rs)), .int .i64 3] (.ret (.bool true)) := fun h => zd5 _ 3 (.inr (.inr rfl)) (qen h (by omega))
 unfold qmm q3y
 cases hf : q4o x.rs with
 | false =>
  rw [hf] at c0 c1
  have c1' : Ev (En Tryz.prog rfl).P 20 [.sl 3 (q1j x.rs)] (.ret (.tup [.sl 1 (q13 []), .int .i64 1])) := c1
  (focus (have hF := @q00; (repeat' (first | refine go1 (k:=?_) | with_reducible refine Ny.of ?_ ?_ | (refine Hyp.of ?_; intro hc; (try simp only [hc]); (try simp only [Bh] at hc)))); all_goals clear hF))
  refine q01 [.sl 3 (q1j x.rs)] (he := c1') (k:=?_)
  (focus (have hF := @q00; (repeat' (first | refine go1 (k:=?_) | with_reducible refine Ny.of ?_ ?_ | (refine Hyp.of ?_; intro hc; (try simp only [hc]); (try simp only [Bh] at hc)))); all_goals clear hF))
  refine q01 [.sl 3 (q1j x.rs)] (he := c0) (k:=?_)
  (focus (have hF := @q00; (repeat' (first | refine go1 (k:=?_) | with_reducible refine Ny.of ?_ ?_ | (refine Hyp.of ?_; intro hc; (try simp only [hc]); (try simp only [Bh] at hc)))); all_goals clear hF))
  exact Fin.all rfl rfl rfl
 | true =>
  have c2 := c2 hf
  rw [hf] at c0 c1
  have c1' : Ev (En Tryz.prog rfl).P 20 [.sl 3 (q1j x.rs)] (.ret (.tup [.sl 1 (q13 (q0s x.rs)), .int .i64 0])) := c1
  (focus (have hF := @q00; (repeat' (first | refine go1 (k:=?_) | with_reducible refine Ny.of ?_ ?_ | (refine Hyp.of ?_; intro hc; (try simp only [hc]); (try simp only [Bh] at hc)))); all_goals clear hF))
  refine q01 [.sl 3 (q1j x.rs)] (he := c1') (k:=?_)
  (focus (have hF := @q00; (repeat' (first | refine go1 (k:=?_) | with_reducible refine Ny.of ?_ ?_ | (refine Hyp.of ?_; intro hc; (try simp only [hc]); (try simp only [Bh] at hc)))); all_goals clear hF))
  refine q01 [.sl 3 (q1j x.rs)] (he := c0) (k:=?_)
  (focus (have hF := @q00; (repeat' (first | refine go1 (k:=?_) | with_reducible refine Ny.of ?_ ?_ | (refine Hyp.of ?_; intro hc; (try simp only [hc]); (try simp only [Bh] at hc)))); all_goals clear hF))
  refine q01 [.sl 1 (q13 (q0s x.rs)), .int .i64 3] (he := c2) (k:=?_)
  (focus (have hF := @q00; (repeat' (first | refine go1 (k:=?_) | with_reducible refine Ny.of ?_ ?_ | (refine Hyp.of ?_; intro hc; (try simp only [hc]); (try simp only [Bh] at hc)))); all_goals clear hF))
  exact Fin.all rfl rfl rfl
theorem whole_2 : Run (En Tryz.prog rfl) 63 z23 qmn .done ⟨tms [(1, .ptr 1 0)], mms [(1, .cells (q3y x))]⟩ := by
 have h4 := whole_3 x hw
 unfold q3y at h4
 have hS := qhh
 unfold wtZ at hw
 have c0 := qzf x.es (by omega)
 have c1 := qzg x.es (by omega) (fun h => q8r (by omega) h)
 have c2 : q2x x.es = true → Ev (En Tryz.prog rfl).P 29 [.sl 1 (q13 (q07 x.es)), .int .i64 2] (.ret (.bool true)) := fun h => zd5 _ 2 (.inr (.inl rfl)) (qeo h (by omega))
 unfold qmn q3y
 cases hf : q2x x.es with
 | false =>
  rw [hf] at c0 c1
  have c1' : Ev (En Tryz.prog rfl).P 15 [.sl 4 (q0l x.es)] (.ret (.tup [.sl 1 (q13 []), .int .i64 1])) := c1
  (focus (have hF := @q00; (repeat' (first | refine go1 (k:=?_) | with_reducible refine Ny.of ?_ ?_ | (refine Hyp.of ?_; intro hc; (try simp only [hc]); (try simp only [Bh] at hc)))); all_goals clear hF))
  refine q01 [.sl 4 (q0l x.es)] (he := c1') (k:=?_)
  (focus (have hF := @q00; (repeat' (first | refine go1 (k:=?_) | with_reducible refine Ny.of ?_ ?_ | (refine Hyp.of ?_; intro hc; (try simp only [hc]); (try simp only [Bh] at hc)))); all_goals clear hF))
  refine q01 [.sl 4 (q0l x.es)] (he := c0) (k:=?_)
  (focus (have hF := @q00; (repeat' (first | refine go1 (k:=?_) | with_reducible refine Ny.of ?_ ?_ | (refine Hyp.of ?_; intro hc; (try simp only [hc]); (try simp only [Bh] at hc)))); all_goals clear hF))
  exact Run.wk (have hW := (aI @q0d @q0f); q0z) h4
 | true =>
  have c2 := c2 hf
  rw [hf] at c0 c1
  have c1' : Ev (En Tryz.prog rfl).P 15 [.sl 4 (q0l x.es)] (.ret (.tup [.sl 1 (q13 (q07 x.es)), .int .i64 0])) := c1
  (focus (have hF := @q00; (repeat' (first | refine go1 (k:=?_) | with_reducible refine Ny.of ?_ ?_ | (refine Hyp.of ?_; intro hc; (try simp only [hc]); (try simp only [Bh] at hc)))); all_goals clear hF))
  refine q01 [.sl 4 (q0l x.es)] (he := c1') (k:=?_)
  (focus (have hF := @q00; (repeat' (first | refine go1 (k:=?_) | with_reducible refine Ny.of ?_ ?_ | (refine Hyp.of ?_; intro hc; (try simp only [hc]); (try simp only [Bh] at hc)))); all_goals clear hF))
  refine q01 [.sl 4 (q0l x.es)] (he := c0) (k:=?_)
  (focus (have hF := @q00; (repeat' (first | refine go1 (k:=?_) | with_reducible refine Ny.of ?_ ?_ | (refine Hyp.of ?_; intro hc; (try simp only [hc]); (try simp only [Bh] at hc)))); all_goals clear hF))
  refine q01 [.sl 1 (q13 (q07 x.es)), .int .i64 2] (he := c2) (k:=?_)
  (focus (have hF := @q00; (repeat' (first | refine go1 (k:=?_) | with_reducible refine Ny.of ?_ ?_ | (refine Hyp.of ?_; intro hc; (try simp only [hc]); (try simp only [Bh] at hc)))); all_goals clear hF))
  exact Run.wk (have hW := (aI @q0d @q0f); q0z) h4
theorem whole_1 : Run (En Tryz.prog rfl) 63 z23 qmo .done ⟨tms [(1, .ptr 1 0)], mms [(1, .cells (q3y x))]⟩ := by
 have h4 := whole_2 x hw
 unfold q3y at h4
 have hS := qhh
 unfold wtZ at hw
 have hp : wt x.p ≤ 1050000 := by omega
 have hp2 := hp
 unfold wt at hp2
 have c0 := ev_k22 x.p (by omega)
 have c1 := qld x.p (by omega) (fun h => (q2a h).pw (by omega))
 have c2 : q0u x.p = true → Ev (En Tryz.prog rfl).P 29 [.sl 1 (q13 (q1g x.p)), .int .i64 1] (.ret (.bool true)) := fun h => zd5 _ 1 (.inl rfl) (z0d h hp)
 unfold qmo q3y
 cases hf : q0u x.p with
 | false =>
  rw [hf] at c0 c1
  have c1' : Ev (En Tryz.prog rfl).P 12 [q17 x.p] (.ret (.tup [.sl 1 (q13 []), .int .i64 1])) := c1
  (focus (have hF := @q00; (repeat' (first | refine go1 (k:=?_) | with_reducible refine Ny.of ?_ ?_ | (refine Hyp.of ?_; intro hc; (try simp only [hc]); (try simp only [Bh] at hc)))); all_goals clear hF))
  refine q01 [q17 x.p] (he := c1') (k:=?_)
  (focus (have hF := @q00; (repeat' (first | refine go1 (k:=?_) | with_reducible refine Ny.of ?_ ?_ | (refine Hyp.of ?_; intro hc; (try simp only [hc]); (try simp only [Bh] at hc)))); all_goals clear hF))
  refine q01 [q17 x.p] (he := c0) (k:=?_)
  (focus (have hF := @q00; (repeat' (first | refine go1 (k:=?_) | with_reducible refine Ny.of ?_ ?_ | (refine Hyp.of ?_; intro hc; (try simp only [hc]); (try simp only [Bh] at hc)))); all_goals clear hF))
  exact Run.wk (have hW := (aI @q0d @q0f); q0z) h4
 | true =>
  have c2 := c2 hf
  rw [hf] at c0 c1
  have c1' : Ev (En Tryz.prog rfl).P 12 [q17 x.p] (.ret (.tup [.sl 1 (q13 (q1g x.p)), .int .i64 0])) := c1
  (focus (have hF := @q00; (repeat' (first | refine go1 (k:=?_) | with_reducible refine Ny.of ?_ ?_ | (refine Hyp.of ?_; intro hc; (try simp only [hc]); (try simp only [Bh] at hc)))); all_goals clear hF))
  refine q01 [q17 x.p] (he := c1') (k:=?_)
  (focus (have hF := @q00; (repeat' (first | refine go1 (k:=?_) | with_reducible refine Ny.of ?_ ?_ | (refine Hyp.of ?_; intro hc; (try simp only [hc]); (try simp only [Bh] at hc)))); all_goals clear hF))
  refine q01 [q17 x.p] (he := c0) (k:=?_)
  (focus (have hF := @q00; (repeat' (first | refine go1 (k:=?_) | with_reducible refine Ny.of ?_ ?_ | (refine Hyp.of ?_; intro hc; (try simp only [hc]); (try simp only [Bh] at hc)))); all_goals clear hF))
  refine q01 [.sl 1 (q13 (q1g x.p)), .int .i64 1] (he := c2) (k:=?_)
  (focus (have hF := @q00; (repeat' (first | refine go1 (k:=?_) | with_reducible refine Ny.of ?_ ?_ | (refine Hyp.of ?_; intro hc; (try simp only [hc]); (try simp only [Bh] at hc)))); all_goals clear hF))
  exact Run.wk (have hW := (aI @q0d @q0f); q0z) h4
theorem ev_k7 : Ev (En Tryz.prog rfl).P 7 [encZ x] (.ret (.bool true)) := by
 have h1 := whole_1 x hw
 refine Ev.of_body it_k7 (by simp) (Run.start ?_)
 rw [z21]
 have hcs : q0o (q3y x) = true := by simp [q3y, q0o, AVal.stb, q02, q03, q0f, q0d, q0a]
 unfold encZ q3y at *
 (focus (have hF := @hcs; (repeat' (first | refine go1 (k:=?_) | with_reducible refine Ny.of ?_ ?_ | (refine Hyp.of ?_; intro hc; (try simp only [hc]); (try simp only [Bh] at hc)))); all_goals clear hF))
 refine q01 [] (he := ev_k9) (k:=?_)
 (focus (have hF := @hcs; (repeat' (first | refine go1 (k:=?_) | with_reducible refine Ny.of ?_ ?_ | (refine Hyp.of ?_; intro hc; (try simp only [hc]); (try simp only [Bh] at hc)))); all_goals clear hF))
 exact Run.wk (have hW := (aI @q0d @q0f); q0z) h1
end
end
theorem lead_one {x : Int} (h0 : 0 ≤ x) (h1 : x ≤ 1000000000) : q1h (q16 [(1, x)]) = (x, []) := by
 by_cases h : 1 ≤ x
 ·rw [q1a ⟨by simp, by simp [okR]; omega⟩]
  exact q72 rfl
 ·have hx : x = 0 := by omega
  subst hx
  have : q16 [(1, 0)] = [] := (qkx (c := []) (by decide) (by simp)).trans (by decide)
  rw [this]
  rfl
theorem vec_only (p : Pst) : q0u ⟨(q0r p).vec, []⟩ = true := by
 refine q2v.2 ?_
 unfold CanP
 have hv : (q0r p).vec = (q1l (q1o [p]) 16).take (q22 (q1o [p]) 16) := rfl
 rw [hv]
 generalize q1o [p] = t
 generalize hvv : (q1l t 16).take (q22 t 16) = v
 have hs := q6w t 16
 have hl : v.length = q22 t 16 := by rw [← hvv, List.length_take, q24]; omega
 have row : ∀ r, r < 16 → (q1o [⟨v, []⟩]).getD r [] = if r < v.length then [(1, q3c t r)] else [] := fun r hr => by
  have h1 := (qnm (t := q7x) (by simp [q7x]) ⟨v, []⟩ hr).2
  have e0 : q7x.getD r [] = [] := by
   unfold q7x
   rw [List.getD_eq_getElem?_getD, List.getElem?_replicate]
   split <;> rfl
  have e1 : q1o [⟨v, []⟩] = q1s q7x ⟨v, []⟩ := rfl
  rw [e1, h1, e0]
  have e2 : q69 ([] : List Sn) r = [] := rfl
  simp only [e2, List.append_nil, List.nil_append]
  by_cases hlt : r < v.length
  ·rw [if_pos hlt, if_pos hlt]
   have hg : v[r]? = some (q3c t r) := by
    rw [← hvv, List.getElem?_take, if_pos (by omega), q9j t hr]
   have : q26 v r = q3c t r := by
    simp [q26, hg, List.getD_eq_getElem?_getD]
   rw [this]
  ·rw [if_neg hlt, if_neg hlt]
 have lead : ∀ r, r < 16 → q3c (q1o [⟨v, []⟩]) r = q3c t r ∧ q3s (q1o [⟨v, []⟩]) r = [] := fun r hr => by
  obtain ⟨l1, l2, _⟩ := qce t r
  unfold q3c q3s
  rw [row r hr]
  by_cases hlt : r < v.length
  ·rw [if_pos hlt, lead_one l1 l2]
   exact ⟨rfl, rfl⟩
  ·rw [if_neg hlt, q1a Can.nil]
   have h1 := q6v t 16 r hr (by omega)
   exact ⟨by show (0 : Int) = q3c t r; omega, rfl⟩
 have size : ∀ n, n ≤ 16 → q22 (q1o [⟨v, []⟩]) n = q22 t n := by
  intro n
  induction n with
  | zero => intro _; rfl
  | succ n ih =>
   intro hn
   rw [q4e, q4e, ih (by omega), (lead n (by omega)).1]
 have leads : q1l (q1o [⟨v, []⟩]) 16 = q1l t 16 := by
  unfold q1l
  refine List.map_congr_left fun r hr => ?_
  exact (lead r (List.mem_range.1 hr)).1
 have cloud : q11 (q1o [⟨v, []⟩]) 16 = [] := by
  unfold q11
  rw [List.flatMap_eq_nil_iff]
  intro r hr
  unfold q3o
  rw [(lead r (List.mem_range.1 hr)).2]
  rfl
 show q52 (q1o [⟨v, []⟩]) = ⟨v, []⟩
 unfold q52
 rw [leads, size 16 (Nat.le_refl _), cloud, hvv]
theorem vecB_sz {l : List Int} (h : z1t l) : l.length ≤ (qao l).length ∧ (qao l).length ≤ 5 * l.length := by
 induction l with
 | nil => simp [qao]
 | cons x l ih =>
  have h1 := ih fun y hy => h y (by simp [hy])
  have h2 := h x (by simp)
  have h3 := q5q 4 x.toNat (by omega)
  have h4 := q1d x.toNat
  rw [q80, List.length_append, List.length_cons]
  omega
theorem vec_sz {v : List Int} (h : PF ⟨v, []⟩) : 2 + v.length ≤ (q1g ⟨v, []⟩).length ∧ (q1g ⟨v, []⟩).length ≤ 2 + 5 * v.length := by
 have h1 := vecB_sz h.v
 have h2 := h.vl
 simp only at h1 h2
 have e1 : q1w v.length = [UInt8.ofNat v.length] := q43 (by omega)
 have e2 : q1w 0 = [UInt8.ofNat 0] := q43 (by omega)
 simp only [q1g, List.length_append, List.length_nil, e1, e2, q2c, List.length_singleton]
 omega
theorem zbw {p q : Pst} (hp : q0u p = true) (hq : q0u q = true) (lp : p.cloud.length ≤ 10000000) (lq : q.cloud.length ≤ 10000000) (h : q1g p = q1g q) : p = q := by
 have h1 := qbz hp lp
 have h2 := qbz hq lq
 rw [h, h2] at h1
 simp only [Except.ok.injEq, Prod.mk.injEq] at h1
 exact h1.1.symm
theorem qlf {p q : List Ent} (hp : q2x p = true) (hq : q2x q = true) (lp : p.length ≤ 100000000) (lq : q.length ≤ 100000000) (h : q07 p = q07 q) : p = q := by
 have h1 := q6n hp lp
 have h2 := q6n hq lq
 rw [h, h2] at h1
 simp only [Except.ok.injEq, Prod.mk.injEq] at h1
 exact h1.1.symm
theorem entB_sz {sf : List Ent} {e : Ent} (h : entF sf e) (hq : e.qty ≤ 1000000) : (qzk sf e).length ≤ 10 + e.sku.size := by
 obtain ⟨h1, h2, h3, h4, h4', h5, h6, h7, h8, h9⟩ := h
 have h10 : 1 ≤ q3d sf e := by unfold q3d; split <;> omega
 have a1 := q5q 0 (e.rep - qae sf).toNat (by omega)
 have a2 := q5q 4 (e.num - q3d sf e).toNat (by omega)
 have a3 := q5q 0 e.sku.size (by omega)
 have a4 := q5q 2 (e.qty - 1).toNat (by omega)
 have a5 : e.sku.data.toList.length = e.sku.size := rfl
 simp only [qzk, List.length_append]
 omega
def q9b (l : List Ent) : Nat := (l.map fun e => 10 + e.sku.size).sum
theorem qhe (l : List Ent) (e : Ent) : q9b (l ++ [e]) = q9b l + (10 + e.sku.size) := by simp [q9b]
theorem qg6 : ∀ {l sf : List Ent}, qgg sf l → (∀ e ∈ l, e.qty ≤ 1000000) → (q36 sf l).length ≤ q9b l
 | [], sf, _, _ => by simp [q36]
 | e :: l, sf, h, hq => by
  have h1 := qg6 h.2 fun x hx => hq x (by simp [hx])
  have h2 := entB_sz h.1 (hq e (by simp))
  have h3 : q9b (e :: l) = 10 + e.sku.size + q9b l := by simp [q9b]
  rw [q36, List.length_append, h3]
  omega
theorem z18 {l : List Ent} (h : q2x l = true) (hl : l.length ≤ 100000000) : (q07 l).length ≤ 10 + q9b l := by
 have h1 := qg6 (q4p h) fun e he => (q8q h e he).2
 have a1 := q09 (n := l.length) (by omega)
 simp only [q07, List.length_append]
 omega
theorem entry_sz {e : Ent} (h : q2x [e] = true) : (q07 [e]).length ≤ 11 + e.sku.size := by
 have h1 := qg6 (q4p h) fun e he => (q8q h e he).2
 have e1 : q1w 1 = [UInt8.ofNat 1] := q43 (by omega)
 have h3 : q9b [e] = 10 + e.sku.size := by simp [q9b]
 rw [h3] at h1
 simp only [q07, List.length_append, List.length_singleton, e1]
 omega
def wtE (l : List Ent) : Nat := (l.map fun e => e.sku.size + 1).sum
theorem sumE_le (l : List Ent) : q9b l ≤ 10 * wtE l := by
 induction l with
 | nil => simp [q9b]
 | cons e l ih =>
  have h1 : q9b (e :: l) = 10 + e.sku.size + q9b l := by simp [q9b]
  have h2 : wtE (e :: l) = e.sku.size + 1 + wtE l := by simp [wtE]
  omega
theorem z1z (l : List Ent) : l.length ≤ wtE l := by
 induction l with
 | nil => simp
 | cons e l ih =>
  have h2 : wtE (e :: l) = e.sku.size + 1 + wtE l := by simp [wtE]
  rw [List.length_cons]
  omega
theorem z2i (l : List Ent) (i : Nat) : q9b (l.take i) ≤ q9b l := by
 have : q9b l = q9b (l.take i) + q9b (l.drop i) := by
  unfold q9b
  rw [← List.sum_append, ← List.map_append, List.take_append_drop]
 omega

theorem q7g (a b : List Ent) (ha : a.length ≤ 1000000000) (hb : b.length ≤ 1000000000) (d : Bool) (hd : d = true ↔ a = b) : Ev (En Tryz.prog rfl).P 17 [.sl 4 (q0l a), .sl 4 (q0l b)] (.ret (.bool d)) := by
 refine Ev.of_body it_k17 (by simp) (Run.start ?_)
 unfold t_k17
 have e1 := q3w a
 have e2 := q3w b
 have hS := qhh
 by_cases hl : a.length = b.length
 ·have hl2 : ((a.length : Int) = (b.length : Int)) = True := eq_true (by omega)
  (focus (have hF := (aI @e1 (aI @e2 @hl2)); (repeat' (first | refine go1 (k:=?_) | with_reducible refine Ny.of ?_ ?_ | (refine Hyp.of ?_; intro hc; (try simp only [hc]); (try simp only [Bh] at hc)))); all_goals clear hF))
  refine Run.while (σ := Nat) (fun i => ⟨tms [(0, .sl 4 (q0l a)), (1, .sl 4 (q0l b)), (5, .int .i64 (i : Int))], mms []⟩)
   (fun i => i ≤ a.length ∧ a.take i = b.take i) (fun i => a.length - i) 0 (have hW := @q0d; q0z) ⟨Nat.zero_le _, rfl⟩ ?_
  rintro i ⟨hi, hp⟩
  unfold qer
  by_cases hlt : i < a.length
  ·have hlt2 : (i : Int) < (a.length : Int) := by omega
   have h1 : a[i]? = some a[i] := List.getElem?_eq_getElem hlt
   have h2 : b[i]? = some b[i] := List.getElem?_eq_getElem (by omega)
   have g1 := q39 h1
   have g2 := q39 h2
   generalize a[i] = x at *
   generalize b[i] = y at *
   obtain ⟨x1, x2, x3, x4⟩ := x
   obtain ⟨y1, y2, y3, y4⟩ := y
   simp only at g1 g2
   (focus (have hF := (aI (aI @e1 @e2) (aI @hlt2 (aI @g1 @g2))); (repeat' (first | refine go1 (k:=?_) | with_reducible refine Ny.of ?_ ?_ | (refine Hyp.of ?_; intro hc; (try simp only [hc]); (try simp only [Bh] at hc)))); all_goals clear hF))
   ·have hne : d = false := by
     cases d with
     | false => rfl
     | true =>
      have := hd.1 rfl
      subst this
      rw [h1] at h2
      cases h2
      simp at hc
    subst hne
    exact Fin.all rfl rfl rfl
   ·have heq : x1 = y1 ∧ x2 = y2 ∧ x3 = y3 ∧ x4 = y4 := by
     refine ⟨?_, ?_, ?_, ?_⟩ <;> (apply Classical.byContradiction; intro hq; simp [hq] at hc)
    have x5 := q0x (i := i) (by omega)
    (focus (have hF := @x5; (repeat' (first | refine go1 (k:=?_) | with_reducible refine Ny.of ?_ ?_ | (refine Hyp.of ?_; intro hc; (try simp only [hc]); (try simp only [Bh] at hc)))); all_goals clear hF))
    (refine Fin.nextW (i + 1) ?_ (have hW := @q0d; q0z); (try dsimp only))
    refine ⟨⟨by omega, ?_⟩, by omega⟩
    obtain ⟨rfl, rfl, rfl, rfl⟩ := heq
    rw [q2n h1, q2n h2, hp]
  ·have hin : i = a.length := by omega
   subst hin
   have hlt2 : ¬ (a.length : Int) < (a.length : Int) := by omega
   have hab : a = b := by
    rw [List.take_length, hl, List.take_length] at hp
    exact hp
   have hdt := hd.2 hab
   subst hdt
   (focus (have hF := (aI @e1 (aI @e2 @hlt2)); (repeat' (first | refine go1 (k:=?_) | with_reducible refine Ny.of ?_ ?_ | (refine Hyp.of ?_; intro hc; (try simp only [hc]); (try simp only [Bh] at hc)))); all_goals clear hF))
   exact Fin.all rfl rfl rfl
 ·have hl2 : ((a.length : Int) = (b.length : Int)) = False := eq_false (by omega)
  have hne : d = false := by
   cases d with
   | false => rfl
   | true => exact absurd (congrArg List.length (hd.1 rfl)) hl
  subst hne
  (focus (have hF := (aI @e1 (aI @e2 @hl2)); (repeat' (first | refine go1 (k:=?_) | with_reducible refine Ny.of ?_ ?_ | (refine Hyp.of ?_; intro hc; (try simp only [hc]); (try simp only [Bh] at hc)))); all_goals clear hF))
  exact Fin.all rfl rfl rfl

def r_k4_1 : List SOp := [zO 1 (.box 30 (.tmp 0)),zO 2 (.assign (.const (.bool false)))]
instance : Live r_k4_1 := ⟨[0]⟩
def r_k4_2 : List SOp := [zO 16 (.call ⟨.value (.func 9),#[],#[]⟩),zO 17 (.unOp .not 4 (.tmp 16))]
instance : Live r_k4_2 := ⟨[1]⟩
def r_k4_3 : List SOp := [zO 2 (.assign (.const (.bool false)))]
instance : Live r_k4_3 := ⟨[]⟩
def r_k4_4 : List SOp := [zF 18 30 1 0,zL 19 25 18,zO 20 (.call ⟨.value (.func 11),#[.tmp 19],#[25]⟩),zO 3 (.alloc 25),⟨none,.store 25 (.tmp 3) (.tmp 20),none⟩]
instance : Live r_k4_4 := ⟨[1]⟩
def r_k4_5 : List SOp := [zF 21 25 3 1,⟨none,.store 23 (.tmp 21) (.const (.slice none 0 0)),none⟩]
instance : Live r_k4_5 := ⟨[1,3]⟩
def r_k4_6 : List SOp := [zL 23 25 3,zO 24 (.call ⟨.value (.func 12),#[.tmp 23],#[25]⟩),zM 22 24,zX 25 22 0,zX 26 22 1,zG 4 25,zG 5 26]
instance : Live r_k4_6 := ⟨[1,3]⟩
def r_k4_7 : List SOp := [zM 27 5,zO 28 (.binOp .neq 35 (.tmp 27) (.const (.int .i64 0)) 35),zM 29 28,⟨some 30,.move (.tmp 4),some ((some 29),false)⟩,⟨some 31,.call ⟨.builtin .len,#[.tmp 30],#[28]⟩,some ((some 29),false)⟩,⟨some 32,.fieldAddr 25 (.tmp 3) 0,some ((some 29),false)⟩,⟨some 33,.load 22 (.tmp 32),some ((some 29),false)⟩,⟨some 34,.call ⟨.builtin .len,#[.tmp 33],#[22]⟩,some ((some 29),false)⟩,⟨some 35,.binOp .mul 3 (.const (.int .i64 5)) (.tmp 34) 3,some ((some 29),false)⟩,⟨some 36,.binOp .add 3 (.const (.int .i64 2)) (.tmp 35) 3,some ((some 29),false)⟩,⟨some 37,.binOp .gtr 3 (.tmp 31) (.tmp 36) 3,some ((some 29),false)⟩,zO 38 (.pick (.tmp 29) (.const (.bool true)) (.tmp 37)),zM 39 38,⟨some 40,.move (.tmp 4),some ((some 39),false)⟩,⟨some 41,.call ⟨.builtin .len,#[.tmp 40],#[28]⟩,some ((some 39),false)⟩,⟨some 42,.fieldAddr 25 (.tmp 3) 0,some ((some 39),false)⟩,⟨some 43,.load 22 (.tmp 42),some ((some 39),false)⟩,⟨some 44,.call ⟨.builtin .len,#[.tmp 43],#[22]⟩,some ((some 39),false)⟩,⟨some 45,.binOp .add 3 (.const (.int .i64 2)) (.tmp 44) 3,some ((some 39),false)⟩,⟨some 46,.binOp .lss 3 (.tmp 41) (.tmp 45) 3,some ((some 39),false)⟩,zO 47 (.pick (.tmp 39) (.const (.bool true)) (.tmp 46))]
instance : Live r_k4_7 := ⟨[1,3,4,5]⟩
def r_k4_8 : List SOp := [zO 2 (.assign (.const (.bool false)))]
instance : Live r_k4_8 := ⟨[]⟩
def r_k4_9 : List SOp := [zF 49 30 1 0,zL 50 25 49,zO 51 (.call ⟨.value (.func 11),#[.tmp 50],#[25]⟩),zO 52 (.call ⟨.value (.func 12),#[.tmp 51],#[25]⟩),zM 48 52,zX 53 48 0,zX 54 48 1,zG 6 53,zG 5 54]
instance : Live r_k4_9 := ⟨[1]⟩
def z87 : List SOp := [zF 56 30 1 1,zL 57 25 56,zO 58 (.call ⟨.value (.func 11),#[.tmp 57],#[25]⟩),zO 59 (.call ⟨.value (.func 12),#[.tmp 58],#[25]⟩),zM 55 59,zX 60 55 0,zX 61 55 1,zG 7 60,zG 8 61]
instance : Live z87 := ⟨[1,5,6]⟩
def z86 : List SOp := [zM 62 5,zO 63 (.binOp .neq 35 (.tmp 62) (.const (.int .i64 0)) 35),zM 64 63,⟨some 65,.move (.tmp 8),some ((some 64),false)⟩,⟨some 66,.binOp .neq 35 (.tmp 65) (.const (.int .i64 0)) 35,some ((some 64),false)⟩,zO 67 (.pick (.tmp 64) (.const (.bool true)) (.tmp 66)),zM 68 67,⟨some 69,.move (.tmp 6),some ((some 68),false)⟩,⟨some 70,.move (.tmp 7),some ((some 68),false)⟩,⟨some 71,.call ⟨.value (.func 13),#[.tmp 69,.tmp 70],#[28,28]⟩,some ((some 68),false)⟩,⟨some 72,.fieldAddr 30 (.tmp 1) 0,some ((some 68),false)⟩,⟨some 73,.load 25 (.tmp 72),some ((some 68),false)⟩,⟨some 74,.call ⟨.value (.func 11),#[.tmp 73],#[25]⟩,some ((some 68),false)⟩,⟨some 75,.fieldAddr 30 (.tmp 1) 1,some ((some 68),false)⟩,⟨some 76,.load 25 (.tmp 75),some ((some 68),false)⟩,⟨some 77,.call ⟨.value (.func 11),#[.tmp 76],#[25]⟩,some ((some 68),false)⟩,⟨some 78,.call ⟨.value (.func 14),#[.tmp 74,.tmp 77],#[25,25]⟩,some ((some 68),false)⟩,⟨some 79,.binOp .neq 4 (.tmp 71) (.tmp 78) 4,some ((some 68),false)⟩,zO 80 (.pick (.tmp 68) (.const (.bool true)) (.tmp 79))]
instance : Live z86 := ⟨[1,5,6,7,8]⟩
def z85 : List SOp := [zO 2 (.assign (.const (.bool false)))]
instance : Live z85 := ⟨[]⟩
def z84 : List SOp := [zO 9 (.assign (.const (.int .i64 0)))]
instance : Live z84 := ⟨[1]⟩
def z83 : List SOp := [zO 10 (.assign (.const (.int .i64 0)))]
instance : Live z83 := ⟨[1,9]⟩
def z82 : List SOp := [zM 81 10,zF 82 30 1 2,zL 83 26 82,zO 84 (.call ⟨.builtin .len,#[.tmp 83],#[26]⟩),zO 85 (.binOp .lss 3 (.tmp 81) (.tmp 84) 3)]
instance : Live z82 := ⟨[1,9,10]⟩
def z81 : List SOp := [zF 88 30 1 2,zL 89 26 88,zM 90 10,zM 91 10,zO 92 (.binOp .add 3 (.tmp 91) (.const (.int .i64 1)) 3),zM 93 10,zO 94 (.binOp .add 3 (.tmp 93) (.const (.int .i64 1)) 3),zO 95 (.slice 26 (.tmp 89) (some (.tmp 90)) (some (.tmp 92)) (some (.tmp 94))),zG 11 95]
instance : Live z81 := ⟨[1,9,10]⟩
def z80 : List SOp := [zM 97 11,zO 98 (.call ⟨.value (.func 15),#[.tmp 97],#[26]⟩),zM 96 98,zX 99 96 0,zX 100 96 1,zG 12 99,zG 13 100]
instance : Live z80 := ⟨[1,9,10,11]⟩
def z7z : List SOp := [zM 101 11,zO 102 (.call ⟨.value (.func 16),#[.tmp 101],#[26]⟩),zM 103 102,⟨some 104,.move (.tmp 13),some ((some 103),true)⟩,⟨some 105,.binOp .neq 35 (.tmp 104) (.const (.int .i64 0)) 35,some ((some 103),true)⟩,⟨some 106,.move (.tmp 105),some ((some 103),true)⟩,⟨some 107,.move (.tmp 12),some ((some 106),false)⟩,⟨some 108,.call ⟨.builtin .len,#[.tmp 107],#[28]⟩,some ((some 106),false)⟩,⟨some 109,.fieldAddr 30 (.tmp 1) 2,some ((some 106),false)⟩,⟨some 110,.load 26 (.tmp 109),some ((some 106),false)⟩,⟨some 111,.move (.tmp 10),some ((some 106),false)⟩,⟨some 112,.indexAddr 26 (.tmp 110) (.tmp 111),some ((some 106),false)⟩,⟨some 113,.fieldAddr 45 (.tmp 112) 1,some ((some 106),false)⟩,⟨some 114,.load 9 (.tmp 113),some ((some 106),false)⟩,⟨some 115,.call ⟨.builtin .len,#[.tmp 114],#[9]⟩,some ((some 106),false)⟩,⟨some 116,.binOp .add 3 (.const (.int .i64 11)) (.tmp 115) 3,some ((some 106),false)⟩,⟨some 117,.binOp .gtr 3 (.tmp 108) (.tmp 116) 3,some ((some 106),false)⟩,⟨some 118,.pick (.tmp 106) (.const (.bool true)) (.tmp 117),some ((some 103),true)⟩,zO 119 (.pick (.tmp 103) (.tmp 118) (.const (.bool false)))]
instance : Live z7z := ⟨[1,9,10,11,12,13]⟩
def z7y : List SOp := [zO 2 (.assign (.const (.bool false)))]
instance : Live z7y := ⟨[]⟩
def z7x : List SOp := [zM 120 9,zF 121 30 1 2,zL 122 26 121,zM 123 10,zI 124 26 122 123,zF 125 45 124 1,zL 126 9 125,zO 127 (.call ⟨.builtin .len,#[.tmp 126],#[9]⟩),zO 128 (.binOp .add 3 (.const (.int .i64 10)) (.tmp 127) 3),zO 129 (.binOp .add 3 (.tmp 120) (.tmp 128) 3),zG 9 129]
instance : Live z7x := ⟨[1,9,10]⟩
def z7w : List SOp := [zM 86 10,zO 87 (.binOp .add 3 (.tmp 86) (.const (.int .i64 1)) 3),zG 10 87]
instance : Live z7w := ⟨[1,9,10]⟩
def z7v : List SOp := [zF 131 30 1 2,zL 132 26 131,zO 133 (.call ⟨.value (.func 15),#[.tmp 132],#[26]⟩),zM 130 133,zX 134 130 0,zX 135 130 1,zG 14 134,zG 5 135]
instance : Live z7v := ⟨[1,9]⟩
def z7u : List SOp := [zF 137 30 1 3,zL 138 26 137,zO 139 (.call ⟨.value (.func 15),#[.tmp 138],#[26]⟩),zM 136 139,zX 140 136 0,zX 141 136 1,zG 15 140,zG 8 141]
instance : Live z7u := ⟨[1,5,9,14]⟩
def z7t : List SOp := [zF 142 30 1 2,zL 143 26 142,zO 144 (.call ⟨.value (.func 16),#[.tmp 143],#[26]⟩),zO 145 (.unOp .not 4 (.tmp 144))]
instance : Live z7t := ⟨[1,5,8,9,14,15]⟩
def z7s : List SOp := [zM 146 5,zO 147 (.binOp .eql 35 (.tmp 146) (.const (.int .i64 1)) 35),zG 2 147]
instance : Live z7s := ⟨[5]⟩
def z7r : List SOp := [zM 148 5,zO 149 (.binOp .neq 35 (.tmp 148) (.const (.int .i64 0)) 35),zM 150 149,⟨some 151,.move (.tmp 14),some ((some 150),false)⟩,⟨some 152,.call ⟨.builtin .len,#[.tmp 151],#[28]⟩,some ((some 150),false)⟩,⟨some 153,.move (.tmp 9),some ((some 150),false)⟩,⟨some 154,.binOp .add 3 (.const (.int .i64 10)) (.tmp 153) 3,some ((some 150),false)⟩,⟨some 155,.binOp .gtr 3 (.tmp 152) (.tmp 154) 3,some ((some 150),false)⟩,zO 156 (.pick (.tmp 150) (.const (.bool true)) (.tmp 155))]
instance : Live z7r := ⟨[1,5,8,9,14,15]⟩
def z7q : List SOp := [zO 2 (.assign (.const (.bool false)))]
instance : Live z7q := ⟨[]⟩
def z7p : List SOp := [zF 157 30 1 3,zL 158 26 157,zO 159 (.call ⟨.value (.func 16),#[.tmp 158],#[26]⟩),zO 160 (.unOp .not 4 (.tmp 159)),zM 161 160,⟨some 162,.move (.tmp 8),some ((some 161),false)⟩,⟨some 163,.binOp .eql 35 (.tmp 162) (.const (.int .i64 0)) 35,some ((some 161),false)⟩,⟨some 164,.move (.tmp 163),some ((some 161),false)⟩,⟨some 165,.move (.tmp 14),some ((some 164),true)⟩,⟨some 166,.move (.tmp 15),some ((some 164),true)⟩,⟨some 167,.call ⟨.value (.func 13),#[.tmp 165,.tmp 166],#[28,28]⟩,some ((some 164),true)⟩,⟨some 168,.fieldAddr 30 (.tmp 1) 2,some ((some 164),true)⟩,⟨some 169,.load 26 (.tmp 168),some ((some 164),true)⟩,⟨some 170,.fieldAddr 30 (.tmp 1) 3,some ((some 164),true)⟩,⟨some 171,.load 26 (.tmp 170),some ((some 164),true)⟩,⟨some 172,.call ⟨.value (.func 17),#[.tmp 169,.tmp 171],#[26,26]⟩,some ((some 164),true)⟩,⟨some 173,.binOp .eql 4 (.tmp 167) (.tmp 172) 4,some ((some 164),true)⟩,⟨some 174,.pick (.tmp 164) (.tmp 173) (.const (.bool false)),some ((some 161),false)⟩,zO 175 (.pick (.tmp 161) (.const (.bool true)) (.tmp 174)),zG 2 175]
instance : Live z7p := ⟨[1,8,14,15]⟩
def z2f : SC :=
 (.seq (.seq (.ops false z82) (.cond (.tmp 85) .skip (.exit 0))) (.seq (.block 1 (.seq (.ops false z81) (.seq (.ops false z80) (.seq (.seq (.ops false z7z) (.cond (.tmp 119) (.seq (.ops false z7y) .ret) .skip)) (.ops false z7x))))) (.ops false z7w)))
def t_k4 : SC :=
 (.seq (.ops false r_k4_1) (.seq (.seq (.ops false r_k4_2) (.cond (.tmp 17) (.seq (.ops false r_k4_3) .ret) .skip)) (.seq (.ops false r_k4_4) (.seq (.ops false r_k4_5) (.seq (.ops false r_k4_6) (.seq (.seq (.ops false r_k4_7) (.cond (.tmp 47) (.seq (.ops false r_k4_8) .ret) .skip)) (.seq (.ops false r_k4_9) (.seq (.ops false z87) (.seq (.seq (.ops true z86) (.cond (.tmp 80) (.seq (.ops false z85) .ret) .skip)) (.seq (.ops false z84) (.seq (.seq (.ops false z83) (.block 0 (.loop z2f))) (.seq (.ops false z7v) (.seq (.ops false z7u) (.seq (.seq (.ops false z7t) (.cond (.tmp 145) (.seq (.ops false z7s) .ret) .skip)) (.seq (.seq (.ops false z7r) (.cond (.tmp 156) (.seq (.ops false z7q) .ret) .skip)) (.seq (.ops true z7p) .ret))))))))))))))))
theorem it_k4 : FnIs Tryz.prog 4 176 [.tmp 2] t_k4 := ⟨Tryz.f4, _, Tryz.func4, rfl, rfl, rfl, rfl, by kernel_rfl⟩

theorem op_Ent2 : Opens Tryz.prog 45 Ent okE qzy (fun e => e.sku.size + 1) :=
 (Opens.struct Tryz.underlying45 q93 (OpensF.cons (k := 2) op_Dot (fun _ => rfl) qd0 rfl (OpensF.cons (k := 1) zby (fun _ => rfl) qcz rfl (OpensF.cons (k := 1) qa4 (fun _ => rfl) q3x rfl (OpensF.nil _))))).map
  (fun x => ⟨x.1.1, x.1.2, x.2.1, x.2.2.1⟩) (fun x h => trivial) (fun _ => rfl) (fun x => by simp only; omega)
theorem qyy : Opens Tryz.prog 26 (List Ent) (fun l => ∀ x ∈ l, okE x) (fun l => [.sl 4 (q0l l)]) (wtL fun e => e.sku.size + 1) :=
 Opens.slice (mk := encE) Tryz.underlying26 op_Ent2 q93 (by decide) (fun _ => rfl) (fun _ => rfl) (fun x y hy => by simp [qzy] at hy; rcases hy with rfl | rfl | rfl | rfl <;> rfl)
def wtZ2 (x : CasP) : Nat := wt x.p + wt x.q + wtE x.es + wtE x.fs
theorem zc0 : Opens Tryz.prog 30 CasP okZ q3y wtZ2 :=
 (Opens.struct Tryz.underlying30 qd1 (OpensF.cons (k := 2) qc1 (fun _ => rfl) q4i rfl (OpensF.cons (k := 2) qc1 (fun _ => rfl) q4i rfl
  (OpensF.cons (k := 1) qyy (fun _ => rfl) q7c rfl (OpensF.cons (k := 1) qyy (fun _ => rfl) q7c rfl (OpensF.cons (k := 1) qfk (fun _ => rfl) q7b rfl (OpensF.cons (k := 1) qfk (fun _ => rfl) q7b rfl
  (OpensF.cons (k := 1) q6z (fun _ => rfl) q3j rfl (OpensF.cons (k := 1) q6z (fun _ => rfl) q3j rfl (OpensF.cons (k := 1) q6z (fun _ => rfl) q3j rfl (OpensF.nil _))))))))))).map
  (fun x => ⟨x.1, x.2.1, x.2.2.1, x.2.2.2.1, x.2.2.2.2.1, x.2.2.2.2.2.1, x.2.2.2.2.2.2.1, x.2.2.2.2.2.2.2.1, x.2.2.2.2.2.2.2.2.1⟩) (fun x h => ⟨h.1, h.2.1⟩) (fun _ => rfl)
  (fun x => by
   show wt x.1 + wt x.2.1 + wtE x.2.2.1 + wtE x.2.2.2.1 ≤
    wt x.1 + (wt x.2.1 + ((wtE x.2.2.1 + 1) + ((wtE x.2.2.2.1 + 1) + ((qac x.2.2.2.2.1 + 1) + ((qac x.2.2.2.2.2.1 + 1) + (wtL (fun _ => 1) x.2.2.2.2.2.2.1 + (wtL (fun _ => 1) x.2.2.2.2.2.2.2.1 + (wtL (fun _ => 1) x.2.2.2.2.2.2.2.2.1 + 0)))))))) + 1
   omega)
theorem ev_k4 (x : CasP) (hw : wtZ2 x ≤ 1050000) : Ev (En Tryz.prog rfl).P 4 [encZ x] (.ret (.bool true)) := by
 unfold wtZ2 at hw
 have hS := qhh
 have w1 := q4v x.p
 have w2 := q4v x.q
 have n1 := qle x.p (by omega)
 have n2 := qle x.q (by omega)
 have np := q2v.2 (qm2 x.p)
 have nq := q2v.2 (qm2 x.q)
 have nv := vec_only x.p
 have lp : (q0r x.p).cloud.length ≤ 10000000 := by unfold wt at w1 hw; omega
 have lq : (q0r x.q).cloud.length ≤ 10000000 := by unfold wt at w2 hw; omega
 have hvl := (q2a nv).vl
 simp only at hvl
 have p1 := qld ⟨(q0r x.p).vec, []⟩ (by unfold wt; simp; omega) (fun h => (q2a h).pw (by simp))
 rw [nv] at p1
 have p1' : Ev (En Tryz.prog rfl).P 12 [q17 ⟨(q0r x.p).vec, []⟩] (.ret (.tup [.sl 1 (q13 (q1g ⟨(q0r x.p).vec, []⟩)), .int .i64 0])) := p1
 have p1'' : Ev (En Tryz.prog rfl).P 12 [.agg [.sl 1 (q04 (q0r x.p).vec), .nil]] (.ret (.tup [.sl 1 (q13 (q1g ⟨(q0r x.p).vec, []⟩)), .int .i64 0])) := p1'.wks ⟨Wkn.agg2 (Wkn.refl _) (Wkn.nil 3), trivial⟩
 obtain ⟨z1, z2⟩ := vec_sz (q2a nv)
 have p2 := qld (q0r x.p) (by omega) (fun h => (q2a h).pw (by omega))
 rw [np] at p2
 have p2' : Ev (En Tryz.prog rfl).P 12 [q17 (q0r x.p)] (.ret (.tup [.sl 1 (q13 (q1g (q0r x.p))), .int .i64 0])) := p2
 have p3 := qld (q0r x.q) (by omega) (fun h => (q2a h).pw (by omega))
 rw [nq] at p3
 have p3' : Ev (En Tryz.prog rfl).P 12 [q17 (q0r x.q)] (.ret (.tup [.sl 1 (q13 (q1g (q0r x.q))), .int .i64 0])) := p3
 have s1 := ev_k13 (q1g (q0r x.p)) (q1g (q0r x.q))
 have s2 := zda (q0r x.p) (q0r x.q) (by unfold wt at w1; omega) (by omega)
 have hsame : decide (q1g (q0r x.p) = q1g (q0r x.q)) = qey (q0r x.p) (q0r x.q) := by
  by_cases h : q1g (q0r x.p) = q1g (q0r x.q)
  ·have := zbw np nq lp lq h
   rw [decide_eq_true h, this, q6x ⟨rfl, rfl⟩]
  ·rw [decide_eq_false h, q4m]
   rintro ⟨h1, h2⟩
   refine h ?_
   have : q0r x.p = q0r x.q := by
    cases hp : q0r x.p
    cases hq : q0r x.q
    rw [hp, hq] at h1 h2
    simp only at h1 h2
    rw [h1, h2]
   rw [this]
 rw [hsame] at s1
 have eE := q3w x.es
 have lE := z1z x.es
 have lF := z1z x.fs
 have sE := sumE_le x.es
 have bl := q1u (q1g ⟨(q0r x.p).vec, []⟩)
 have vl := q0h (q0r x.p).vec
 generalize qey (q0r x.p) (q0r x.q) = dd at s1 s2
 generalize q1g ⟨(q0r x.p).vec, []⟩ = B1 at *
 refine Ev.of_body it_k4 (by simp) (Run.start ?_)
 unfold t_k4
 have hcs : q0o (q3y x) = true := by simp [q3y, q0o, AVal.stb, q02, q03, q0f, q0d, q0a]
 unfold encZ q3y at *
 (focus (have hF := @hcs; (repeat' (first | refine go1 (k:=?_) | with_reducible refine Ny.of ?_ ?_ | (refine Hyp.of ?_; intro hc; (try simp only [hc]); (try simp only [Bh] at hc)))); all_goals clear hF))
 refine q01 [] (he := ev_k9) (k:=?_)
 (focus (have hF := @hcs; (repeat' (first | refine go1 (k:=?_) | with_reducible refine Ny.of ?_ ?_ | (refine Hyp.of ?_; intro hc; (try simp only [hc]); (try simp only [Bh] at hc)))); all_goals clear hF))
 refine q01 [q17 x.p] (he := n1) (k:=?_)
 generalize q0r x.p = np1 at *
 generalize q0r x.q = nq1 at *
 unfold q17 at *
 (focus (have hF := @hcs; (repeat' (first | refine go1 (k:=?_) | with_reducible refine Ny.of ?_ ?_ | (refine Hyp.of ?_; intro hc; (try simp only [hc]); (try simp only [Bh] at hc)))); all_goals clear hF))
 refine q01 [.agg [.sl 1 (q04 np1.vec), .nil]] (he := p1'') (k:=?_)
 have a1 : IntKind.i64.wrap (5 * (np1.vec.length : Int)) = 5 * (np1.vec.length : Int) := q0e (by omega)
 have a2 : IntKind.i64.wrap (2 + 5 * (np1.vec.length : Int)) = 2 + 5 * (np1.vec.length : Int) := q0e (by omega)
 have a3 : IntKind.i64.wrap (2 + (np1.vec.length : Int)) = 2 + (np1.vec.length : Int) := q0e (by omega)
 have a4 : ¬ (B1.length : Int) > 2 + 5 * (np1.vec.length : Int) := by omega
 have a5 : ¬ (B1.length : Int) < 2 + (np1.vec.length : Int) := by omega
 (focus (have hF := (aI (aI (aI @hcs @bl) (aI @vl @a1)) (aI (aI @a2 @a3) (aI @a4 @a5))); (repeat' (first | refine go1 (k:=?_) | with_reducible refine Ny.of ?_ ?_ | (refine Hyp.of ?_; intro hc; (try simp only [hc]); (try simp only [Bh] at hc)))); all_goals clear hF))
 refine q01 [q17 x.p] (he := n1) (k:=?_)
 (focus (have hF := @hcs; (repeat' (first | refine go1 (k:=?_) | with_reducible refine Ny.of ?_ ?_ | (refine Hyp.of ?_; intro hc; (try simp only [hc]); (try simp only [Bh] at hc)))); all_goals clear hF))
 refine q01 [q17 np1] (he := p2') (k:=?_)
 (focus (have hF := @hcs; (repeat' (first | refine go1 (k:=?_) | with_reducible refine Ny.of ?_ ?_ | (refine Hyp.of ?_; intro hc; (try simp only [hc]); (try simp only [Bh] at hc)))); all_goals clear hF))
 refine q01 [q17 x.q] (he := n2) (k:=?_)
 (focus (have hF := @hcs; (repeat' (first | refine go1 (k:=?_) | with_reducible refine Ny.of ?_ ?_ | (refine Hyp.of ?_; intro hc; (try simp only [hc]); (try simp only [Bh] at hc)))); all_goals clear hF))
 refine q01 [q17 nq1] (he := p3') (k:=?_)
 (focus (have hF := @hcs; (repeat' (first | refine go1 (k:=?_) | with_reducible refine Ny.of ?_ ?_ | (refine Hyp.of ?_; intro hc; (try simp only [hc]); (try simp only [Bh] at hc)))); all_goals clear hF))
 refine q01 [.sl 1 (q13 (q1g np1)), .sl 1 (q13 (q1g nq1))] (he := s1) (k:=?_)
 (focus (have hF := @hcs; (repeat' (first | refine go1 (k:=?_) | with_reducible refine Ny.of ?_ ?_ | (refine Hyp.of ?_; intro hc; (try simp only [hc]); (try simp only [Bh] at hc)))); all_goals clear hF))
 refine q01 [q17 x.p] (he := n1) (k:=?_)
 (focus (have hF := @hcs; (repeat' (first | refine go1 (k:=?_) | with_reducible refine Ny.of ?_ ?_ | (refine Hyp.of ?_; intro hc; (try simp only [hc]); (try simp only [Bh] at hc)))); all_goals clear hF))
 refine q01 [q17 x.q] (he := n2) (k:=?_)
 (focus (have hF := @hcs; (repeat' (first | refine go1 (k:=?_) | with_reducible refine Ny.of ?_ ?_ | (refine Hyp.of ?_; intro hc; (try simp only [hc]); (try simp only [Bh] at hc)))); all_goals clear hF))
 refine q01 [q17 np1, q17 nq1] (he := s2) (k:=?_)
 have d1 : decide (dd = dd) = true := by simp
 (focus (have hF := (aI @hcs @d1); (repeat' (first | refine go1 (k:=?_) | with_reducible refine Ny.of ?_ ?_ | (refine Hyp.of ?_; intro hc; (try simp only [hc]); (try simp only [Bh] at hc)))); all_goals clear hF))
 clear p1 p1' p1'' p2 p2' p3 p3' n1 n2 s1 s2 np nq nv lp lq hvl z1 z2 bl vl hsame w1 w2 a1 a2 a3 a4 a5 d1
 refine Run.while (σ := Nat) (fun i => ⟨tms [(1, .ptr 1 0), (9, .int .i64 (q9b (x.es.take i) : Int)), (10, .int .i64 (i : Int))], mms [(1, .cells [AVal.sl 1 (q04 x.p.vec), AVal.sl 3 (q0j x.p.cloud), AVal.sl 1 (q04 x.q.vec), AVal.sl 3 (q0j x.q.cloud), AVal.sl 4 (q0l x.es), AVal.sl 4 (q0l x.fs), AVal.sl 3 (q1j x.rs), AVal.sl 3 (q1j x.ts), AVal.sl 1 (q13 x.a), AVal.sl 1 (q13 x.b), AVal.sl 1 (q13 x.c)])]⟩) (fun i => i ≤ x.es.length) (fun i => x.es.length - i) 0 (have hW := (aI @q0d @q0f); q0z) (Nat.zero_le _) ?_
 intro i hi
 unfold z2f
 by_cases hlt : i < x.es.length
 ·have hlt2 : (i : Int) < (x.es.length : Int) := by omega
  have hg : x.es[i]? = some (x.es[i]) := List.getElem?_eq_getElem hlt
  have g1 := q39 hg
  have hsn := q2n hg
  have hsu := z2i x.es (i + 1)
  have k1 : ((q0l x.es).take (i + 1)).drop i = q0l [x.es[i]] := by
   have h1 : (q0l x.es).take (i + 1) = q0l (x.es.take (i + 1)) := by simp [q0l]
   have h2 : (x.es.take i).length = i := by rw [List.length_take]; omega
   rw [h1, hsn]
   simp only [q0l, List.map_append]
   rw [List.drop_left' (by rw [List.length_map]; exact h2)]
  generalize x.es[i] = e at *
  rw [hsn, qhe] at hsu
  have x1 : IntKind.i64.wrap ((i : Int) + 1) = ((i + 1 : Nat) : Int) := q0x (by omega)
  have x2 : IntKind.i64.wrap (11 + (e.sku.size : Int)) = 11 + (e.sku.size : Int) := q0e (by omega)
  have x3 : IntKind.i64.wrap (10 + (e.sku.size : Int)) = 10 + (e.sku.size : Int) := q0e (by omega)
  have x4 : IntKind.i64.wrap ((q9b (x.es.take i) : Int) + (10 + (e.sku.size : Int))) = ((q9b (x.es.take (i + 1)) : Nat) : Int) := by rw [hsn, qhe, q0e (by omega)]; omega
  have c0 := qzf [e] (by simp)
  have c1 := qzg [e] (by simp) (fun h => q8r (by simp) h)
  (focus (have hF := (aI (aI @hcs @eE) (aI @hlt2 @x1)); (repeat' (first | refine go1 (k:=?_) | with_reducible refine Ny.of ?_ ?_ | (refine Hyp.of ?_; intro hc; (try simp only [hc]); (try simp only [Bh] at hc)))); all_goals clear hF))
  refine q1z (ql4 (TE := TE0) (En Tryz.prog rfl).hT (s := ⟨_, _⟩) TE_26 rfl TE_45 rfl (by with_unfolding_all rfl) (by with_unfolding_all rfl) (by with_unfolding_all rfl) (by with_unfolding_all rfl) (l := i) (n := i + 1) (by omega) (by omega)) ?_
  rintro v M' ⟨rfl, rfl⟩
  dsimp only [AS.put]
  rw [k1]
  cases hf : q2x [e] with
  | false =>
   rw [hf] at c0 c1
   have c1' : Ev (En Tryz.prog rfl).P 15 [.sl 4 (q0l [e])] (.ret (.tup [.sl 1 (q13 []), .int .i64 1])) := c1
   (focus (have hF := @hcs; (repeat' (first | refine go1 (k:=?_) | with_reducible refine Ny.of ?_ ?_ | (refine Hyp.of ?_; intro hc; (try simp only [hc]); (try simp only [Bh] at hc)))); all_goals clear hF))
   refine q01 [.sl 4 (q0l [e])] (he := c1') (k:=?_)
   (focus (have hF := @hcs; (repeat' (first | refine go1 (k:=?_) | with_reducible refine Ny.of ?_ ?_ | (refine Hyp.of ?_; intro hc; (try simp only [hc]); (try simp only [Bh] at hc)))); all_goals clear hF))
   refine q01 [.sl 4 (q0l [e])] (he := c0) (k:=?_)
   (focus (have hF := (aI (aI @hcs (aI @eE @hlt2)) (aI (aI @g1 @x1) (aI @x3 @x4))); (repeat' (first | refine go1 (k:=?_) | with_reducible refine Ny.of ?_ ?_ | (refine Hyp.of ?_; intro hc; (try simp only [hc]); (try simp only [Bh] at hc)))); all_goals clear hF))
   (refine Fin.nextW (i + 1) ?_ (have hW := (aI @q0d @q0f); q0z); (try dsimp only))
   omega
  | true =>
   have hz := entry_sz hf
   have bl := q1u (q07 [e])
   rw [hf] at c0 c1
   have c1' : Ev (En Tryz.prog rfl).P 15 [.sl 4 (q0l [e])] (.ret (.tup [.sl 1 (q13 (q07 [e])), .int .i64 0])) := c1
   generalize q07 [e] = B2 at *
   have x5 : ¬ (B2.length : Int) > 11 + (e.sku.size : Int) := by omega
   (focus (have hF := @hcs; (repeat' (first | refine go1 (k:=?_) | with_reducible refine Ny.of ?_ ?_ | (refine Hyp.of ?_; intro hc; (try simp only [hc]); (try simp only [Bh] at hc)))); all_goals clear hF))
   refine q01 [.sl 4 (q0l [e])] (he := c1') (k:=?_)
   (focus (have hF := @hcs; (repeat' (first | refine go1 (k:=?_) | with_reducible refine Ny.of ?_ ?_ | (refine Hyp.of ?_; intro hc; (try simp only [hc]); (try simp only [Bh] at hc)))); all_goals clear hF))
   refine q01 [.sl 4 (q0l [e])] (he := c0) (k:=?_)
   (focus (have hF := (aI (aI (aI @hcs @eE) (aI @hlt2 (aI @bl @g1))) (aI (aI @x1 @x2) (aI @x3 (aI @x4 @x5)))); (repeat' (first | refine go1 (k:=?_) | with_reducible refine Ny.of ?_ ?_ | (refine Hyp.of ?_; intro hc; (try simp only [hc]); (try simp only [Bh] at hc)))); all_goals clear hF))
   (refine Fin.nextW (i + 1) ?_ (have hW := (aI @q0d @q0f); q0z); (try dsimp only))
   omega
 ·have hin : i = x.es.length := by omega
  subst hin
  have hlt2 : ¬ (x.es.length : Int) < (x.es.length : Int) := by omega
  rw [List.take_length]
  have c0 := qzf x.es (by omega)
  have c1 := qzg x.es (by omega) (fun h => q8r (by omega) h)
  have d0 := qzf x.fs (by omega)
  have d1 := qzg x.fs (by omega) (fun h => q8r (by omega) h)
  (focus (have hF := (aI @hcs (aI @eE @hlt2)); (repeat' (first | refine go1 (k:=?_) | with_reducible refine Ny.of ?_ ?_ | (refine Hyp.of ?_; intro hc; (try simp only [hc]); (try simp only [Bh] at hc)))); all_goals clear hF))
  cases hf : q2x x.es with
  | false =>
   rw [hf] at c0 c1
   have c1' : Ev (En Tryz.prog rfl).P 15 [.sl 4 (q0l x.es)] (.ret (.tup [.sl 1 (q13 []), .int .i64 1])) := c1
   have hB : ∃ (B3 : Bs) (r3 : Int), Ev (En Tryz.prog rfl).P 15 [.sl 4 (q0l x.fs)] (.ret (.tup [.sl 1 (q13 B3), .int .i64 r3])) := ⟨_, _, d1⟩
   obtain ⟨B3, r3, d1'⟩ := hB
   refine q01 [.sl 4 (q0l x.es)] (he := c1') (k:=?_)
   (focus (have hF := @hcs; (repeat' (first | refine go1 (k:=?_) | with_reducible refine Ny.of ?_ ?_ | (refine Hyp.of ?_; intro hc; (try simp only [hc]); (try simp only [Bh] at hc)))); all_goals clear hF))
   refine q01 [.sl 4 (q0l x.fs)] (he := d1') (k:=?_)
   (focus (have hF := @hcs; (repeat' (first | refine go1 (k:=?_) | with_reducible refine Ny.of ?_ ?_ | (refine Hyp.of ?_; intro hc; (try simp only [hc]); (try simp only [Bh] at hc)))); all_goals clear hF))
   refine q01 [.sl 4 (q0l x.es)] (he := c0) (k:=?_)
   (focus (have hF := @hcs; (repeat' (first | refine go1 (k:=?_) | with_reducible refine Ny.of ?_ ?_ | (refine Hyp.of ?_; intro hc; (try simp only [hc]); (try simp only [Bh] at hc)))); all_goals clear hF))
   exact Fin.all rfl rfl rfl
  | true =>
   have hz := z18 hf (by omega)
   have bl := q1u (q07 x.es)
   have inj := fun h h2 => qlf (p := x.es) (q := x.fs) hf h (by omega) (by omega) h2
   have sb := ev_k13 (q07 x.es) (q07 x.fs)
   rw [hf] at c0 c1
   have c1' : Ev (En Tryz.prog rfl).P 15 [.sl 4 (q0l x.es)] (.ret (.tup [.sl 1 (q13 (q07 x.es)), .int .i64 0])) := c1
   have y1 : IntKind.i64.wrap (10 + (q9b x.es : Int)) = 10 + (q9b x.es : Int) := q0e (by omega)
   have y2 : ¬ ((q07 x.es).length : Int) > 10 + (q9b x.es : Int) := by omega
   cases hg : q2x x.fs with
   | false =>
    rw [hg] at d0 d1
    have d1' : Ev (En Tryz.prog rfl).P 15 [.sl 4 (q0l x.fs)] (.ret (.tup [.sl 1 (q13 []), .int .i64 1])) := d1
    generalize q07 x.es = B3 at *
    refine q01 [.sl 4 (q0l x.es)] (he := c1') (k:=?_)
    (focus (have hF := @hcs; (repeat' (first | refine go1 (k:=?_) | with_reducible refine Ny.of ?_ ?_ | (refine Hyp.of ?_; intro hc; (try simp only [hc]); (try simp only [Bh] at hc)))); all_goals clear hF))
    refine q01 [.sl 4 (q0l x.fs)] (he := d1') (k:=?_)
    (focus (have hF := @hcs; (repeat' (first | refine go1 (k:=?_) | with_reducible refine Ny.of ?_ ?_ | (refine Hyp.of ?_; intro hc; (try simp only [hc]); (try simp only [Bh] at hc)))); all_goals clear hF))
    refine q01 [.sl 4 (q0l x.es)] (he := c0) (k:=?_)
    (focus (have hF := (aI (aI @hcs @bl) (aI @y1 @y2)); (repeat' (first | refine go1 (k:=?_) | with_reducible refine Ny.of ?_ ?_ | (refine Hyp.of ?_; intro hc; (try simp only [hc]); (try simp only [Bh] at hc)))); all_goals clear hF))
    refine q01 [.sl 4 (q0l x.fs)] (he := d0) (k:=?_)
    (focus (have hF := @hcs; (repeat' (first | refine go1 (k:=?_) | with_reducible refine Ny.of ?_ ?_ | (refine Hyp.of ?_; intro hc; (try simp only [hc]); (try simp only [Bh] at hc)))); all_goals clear hF))
    exact Fin.all rfl rfl rfl
   | true =>
    rw [hg] at d0 d1
    have d1' : Ev (En Tryz.prog rfl).P 15 [.sl 4 (q0l x.fs)] (.ret (.tup [.sl 1 (q13 (q07 x.fs)), .int .i64 0])) := d1
    have se := q7g x.es x.fs (by omega) (by omega) (decide (q07 x.es = q07 x.fs)) (by
     rw [decide_eq_true_eq]
     exact ⟨fun h => inj hg h, fun h => by rw [h]⟩)
    generalize decide (q07 x.es = q07 x.fs) = dq at *
    generalize q07 x.es = B3 at *
    generalize q07 x.fs = B4 at *
    have d2 : decide (dq = dq) = true := by simp
    refine q01 [.sl 4 (q0l x.es)] (he := c1') (k:=?_)
    (focus (have hF := @hcs; (repeat' (first | refine go1 (k:=?_) | with_reducible refine Ny.of ?_ ?_ | (refine Hyp.of ?_; intro hc; (try simp only [hc]); (try simp only [Bh] at hc)))); all_goals clear hF))
    refine q01 [.sl 4 (q0l x.fs)] (he := d1') (k:=?_)
    (focus (have hF := @hcs; (repeat' (first | refine go1 (k:=?_) | with_reducible refine Ny.of ?_ ?_ | (refine Hyp.of ?_; intro hc; (try simp only [hc]); (try simp only [Bh] at hc)))); all_goals clear hF))
    refine q01 [.sl 4 (q0l x.es)] (he := c0) (k:=?_)
    (focus (have hF := (aI (aI @hcs @bl) (aI @y1 @y2)); (repeat' (first | refine go1 (k:=?_) | with_reducible refine Ny.of ?_ ?_ | (refine Hyp.of ?_; intro hc; (try simp only [hc]); (try simp only [Bh] at hc)))); all_goals clear hF))
    refine q01 [.sl 4 (q0l x.fs)] (he := d0) (k:=?_)
    (focus (have hF := @hcs; (repeat' (first | refine go1 (k:=?_) | with_reducible refine Ny.of ?_ ?_ | (refine Hyp.of ?_; intro hc; (try simp only [hc]); (try simp only [Bh] at hc)))); all_goals clear hF))
    refine q01 [.sl 1 (q13 B3), .sl 1 (q13 B4)] (he := sb) (k:=?_)
    (focus (have hF := @hcs; (repeat' (first | refine go1 (k:=?_) | with_reducible refine Ny.of ?_ ?_ | (refine Hyp.of ?_; intro hc; (try simp only [hc]); (try simp only [Bh] at hc)))); all_goals clear hF))
    refine q01 [.sl 4 (q0l x.es), .sl 4 (q0l x.fs)] (he := se) (k:=?_)
    (focus (have hF := (aI @hcs @d2); (repeat' (first | refine go1 (k:=?_) | with_reducible refine Ny.of ?_ ?_ | (refine Hyp.of ?_; intro hc; (try simp only [hc]); (try simp only [Bh] at hc)))); all_goals clear hF))
    exact Fin.all rfl rfl rfl

end Go.Proofs.YtkionmommpgcmaaGreat.Avm
