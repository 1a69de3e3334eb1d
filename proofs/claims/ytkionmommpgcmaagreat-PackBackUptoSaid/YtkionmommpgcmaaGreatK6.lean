/- Part 6 of the proof: lemmas. -/
import Derived.Test.YtkionmommpgcmaaGreatK5
import Derived.Test.YtkionmommpgcmaaGreatProg
import Derived.KernelRfl
set_option maxRecDepth 100000
set_option maxHeartbeats 4000000
set_option linter.unusedVariables false
set_option linter.unusedSimpArgs false
set_option linter.unusedSectionVars false
set_option linter.defProp false
namespace Go.Proofs.YtkionmommpgcmaaGreat.Avm
open Go.Proofs
theorem hook_cmp {P : Program} {f : FuncId} {fn : Func} (hf : P.funcs[f]? = some fn) (h1 : (fn.name = "runtime.NumGoroutine") = False) (h2 : (fn.body = none) = True) (h3 : Extern.findNext fn = none) (h4 : Extern.find fn = some Extern.BytealgCompare.compare) {s : AS} {x y : Operand} {ts : Array TypeId} {a b : ByteArray} (hx : ev s.T x = .str a) (hy : ev s.T y = .str b) :
 Hook P s (.call ⟨.value (.func f), #[x, y], ts⟩) (fun v M' => M' = s.M ∧ v = .int .i64 (qm0 a b)) := by
 intro n B G act w hR o ho K Q hK
 have q1 := hR.ev x
 have q2 := hR.ev y
 rw [hx] at q1
 rw [hy] at q2
 generalize hxv : act.eval x = xv at q1
 generalize hyv : act.eval y = yv at q2
 cases q1
 cases q2
 have hrun : (execOp act.eval o).run P w = .ok (.value (.int .i64 (qm0 a b))) w := by
  unfold execOp
  rw [ho]
  have hc := Go.Lib.run_compareString (P := P) a b w
  rw [q9r] at hc
  have hf0 : act.eval (.func f) = .func (.func f) #[] #[] := rfl
  simp [resolve, Deferred.ofValue, invoke, callFunc, hf, hf0, h1, h2, h3, h4, hxv, hyv, hc, Result.andThen, qm0, bs]
 unfold Oper.wp
 rw [hrun]
 exact hK (.int .i64 (qm0 a b)) _ s.M w G ⟨rfl, rfl⟩ (.refl G w) hR (.int _ _)
theorem ev_k145 (a b : ByteArray) : Ev (En Tryz.prog rfl).P 145 [.str a, .str b] (.ret (.int .i64 (qm0 a b))) := by
 refine Ev.of_body it_k145 (by simp) (Run.start ?_)
 unfold t_k145
 (focus (have hF := True.intro; (repeat' (first | refine go1 (k:=?_) | with_reducible refine Ny.of ?_ ?_ | (refine Hyp.of ?_; intro hc; (try simp only [hc]); (try simp only [Bh] at hc)))); all_goals clear hF))
 refine q2d (hook_cmp (f := 156) (fn := Tryz.f156) Tryz.func156 (eq_false (by decide)) (eq_true rfl) rfl rfl rfl rfl) ?_
 rintro v M' ⟨rfl, rfl⟩
 dsimp only [AS.put]
 (focus (have hF := True.intro; (repeat' (first | refine go1 (k:=?_) | with_reducible refine Ny.of ?_ ?_ | (refine Hyp.of ?_; intro hc; (try simp only [hc]); (try simp only [Bh] at hc)))); all_goals clear hF))
 exact Fin.tmp' rfl rfl
theorem ev_k128 (a b : ByteArray) : Ev (En Tryz.prog rfl).P 128 [.str a, .str b] (.ret (.int .i64 (qm0 a b))) := by
 refine Ev.of_body it_k128 (by simp) (Run.start ?_)
 unfold t_k128
 (focus (have hF := True.intro; (repeat' (first | refine go1 (k:=?_) | with_reducible refine Ny.of ?_ ?_ | (refine Hyp.of ?_; intro hc; (try simp only [hc]); (try simp only [Bh] at hc)))); all_goals clear hF))
 refine q02 [.str a, .str b] (he := ev_k145 a b) (k:=?_)
 (focus (have hF := True.intro; (repeat' (first | refine go1 (k:=?_) | with_reducible refine Ny.of ?_ ?_ | (refine Hyp.of ?_; intro hc; (try simp only [hc]); (try simp only [Bh] at hc)))); all_goals clear hF))
 exact Fin.tmp' rfl rfl
theorem ev_k101 (a b : Rec) (ha : wt a.past ≤ 50000000) (hb : wt b.past ≤ 50000000) : Ev (En Tryz.prog rfl).P 101 [qc8 a, qc8 b] (.ret (.int .i64 (ql9 a b))) := by
 refine Ev.of_body it_k101 (by simp) (Run.start ?_)
 unfold t_k101 qc8 ql9
 have c1 := ev_k128 a.sku b.sku
 have c2 := ev_k129 a.past b.past ha hb
 generalize qm0 a.sku b.sku = v at c1 ⊢
 (focus (have hF := True.intro; (repeat' (first | refine go1 (k:=?_) | with_reducible refine Ny.of ?_ ?_ | (refine Hyp.of ?_; intro hc; (try simp only [hc]); (try simp only [Bh] at hc)))); all_goals clear hF))
 refine q02 [.str a.sku, .str b.sku] (he := c1) (k:=?_)
 by_cases h : v = 0
 ·rw [if_pos h]
  (focus (have hF := @h; (repeat' (first | refine go1 (k:=?_) | with_reducible refine Ny.of ?_ ?_ | (refine Hyp.of ?_; intro hc; (try simp only [hc]); (try simp only [Bh] at hc)))); all_goals clear hF))
  refine q02 [q19 a.past, q19 b.past] (he := c2) (k:=?_)
  (focus (have hF := True.intro; (repeat' (first | refine go1 (k:=?_) | with_reducible refine Ny.of ?_ ?_ | (refine Hyp.of ?_; intro hc; (try simp only [hc]); (try simp only [Bh] at hc)))); all_goals clear hF))
  exact Fin.tmp' rfl rfl
 ·rw [if_neg h]
  (focus (have hF := True.intro; (repeat' (first | refine go1 (k:=?_) | with_reducible refine Ny.of ?_ ?_ | (refine Hyp.of ?_; intro hc; (try simp only [hc]); (try simp only [Bh] at hc)))); all_goals clear hF))
  exact Fin.tmp' rfl rfl
theorem ev_k64 (a b : Rec) (ha : wt a.past ≤ 30000000) (hb : wt b.past ≤ 30000000) : Ev (En Tryz.prog rfl).P 64 [qc8 a, qc8 b] (.ret (.int .i64 (ql9 a b))) := by
 refine Ev.of_body it_k64 (by simp) (Run.start ?_)
 unfold t_k64 qc8 ql9
 have c2 := ev_k110 a.past b.past ha hb
 have h1 := zca a.sku b.sku
 have hr : qm0 a.sku b.sku = -1 ∨ qm0 a.sku b.sku = 0 ∨ qm0 a.sku b.sku = 1 := qdd _ _
 have h0 : (a.sku = b.sku) = (qm0 a.sku b.sku = 0) := propext zc9.symm
 generalize qm0 a.sku b.sku = v at *
 rcases hr with rfl | rfl | rfl
 ·rw [if_neg (by decide)]
  rw [show decide ((-1 : Int) < 0) = true by decide] at h1
  (focus (have hF := @h1; (repeat' (first | refine go1 (k:=?_) | with_reducible refine Ny.of ?_ ?_ | (refine Hyp.of ?_; intro hc; (try simp only [hc]); (try simp only [Bh] at hc)))); all_goals clear hF))
  exact Fin.tmp' rfl rfl
 ·rw [if_pos rfl]
  rw [show decide ((0 : Int) < 0) = false by decide] at h1
  rw [show ((0 : Int) = 0) = True by simp] at h0
  (focus (have hF := (aI (aI @h1 (aI @h0 @Bool.not_true)) (aI @Bool.or_true (aI @Bool.false_or @decide_true))); (repeat' (first | refine go1 (k:=?_) | with_reducible refine Ny.of ?_ ?_ | (refine Hyp.of ?_; intro hc; (try simp only [hc]); (try simp only [Bh] at hc)))); all_goals clear hF))
  refine q02 [q19 a.past, q19 b.past] (he := c2) (k:=?_)
  (focus (have hF := True.intro; (repeat' (first | refine go1 (k:=?_) | with_reducible refine Ny.of ?_ ?_ | (refine Hyp.of ?_; intro hc; (try simp only [hc]); (try simp only [Bh] at hc)))); all_goals clear hF))
  exact Fin.tmp' rfl rfl
 ·rw [if_neg (by decide)]
  rw [show decide ((1 : Int) < 0) = false by decide] at h1
  rw [show ((1 : Int) = 0) = False by simp] at h0
  (focus (have hF := (aI (aI @h1 @h0) (aI @Bool.not_false (aI @Bool.or_false @decide_false))); (repeat' (first | refine go1 (k:=?_) | with_reducible refine Ny.of ?_ ?_ | (refine Hyp.of ?_; intro hc; (try simp only [hc]); (try simp only [Bh] at hc)))); all_goals clear hF))
  exact Fin.tmp' rfl rfl
theorem qkg (p : Pst) : qmc p (q25 p) = q0t p := by
 refine bool_eq ?_
 rw [q5k]
 constructor
 ·intro h
  have : ∀ a b : Pst, a.vec = b.vec → a.cloud = b.cloud → a = b := fun a b u v => by cases a; cases b; simp at u v; rw [u, v]
  have h' := of_decide_eq_true h
  exact (this _ _ h'.1 h'.2).symm
 ·intro h
  have h' : q25 p = p := h
  rw [h']
  exact q6l ⟨rfl, rfl⟩
theorem zbo (p : Pst) (hw : wt p ≤ 30000000) : Ev (En Tryz.prog rfl).P 22 [q19 p] (.ret (.bool (q0t p))) := by
 have c1 := zby p (by omega)
 have w := q6n p
 have c2 := zbt p (q25 p) (by unfold wt at *; omega) (by unfold wt at *; omega)
 rw [qkg] at c2
 refine Ev.of_body it_k22 (by simp) (Run.start ?_)
 unfold t_k22 q19
 (focus (have hF := True.intro; (repeat' (first | refine go1 (k:=?_) | with_reducible refine Ny.of ?_ ?_ | (refine Hyp.of ?_; intro hc; (try simp only [hc]); (try simp only [Bh] at hc)))); all_goals clear hF))
 refine q02 [q19 p] (he := c1) (k:=?_)
 (focus (have hF := True.intro; (repeat' (first | refine go1 (k:=?_) | with_reducible refine Ny.of ?_ ?_ | (refine Hyp.of ?_; intro hc; (try simp only [hc]); (try simp only [Bh] at hc)))); all_goals clear hF))
 refine q02 [q19 p, q19 (q25 p)] (he := c2) (k:=?_)
 (focus (have hF := True.intro; (repeat' (first | refine go1 (k:=?_) | with_reducible refine Ny.of ?_ ?_ | (refine Hyp.of ?_; intro hc; (try simp only [hc]); (try simp only [Bh] at hc)))); all_goals clear hF))
 exact Fin.tmp' rfl rfl
theorem z1x (s : ByteArray) : (s = (⟨#[]⟩ : ByteArray)) = (s.size = 0) := propext qb1
theorem ev_k100 (r : Rec) (hw : wt r.past ≤ 40000000) : Ev (En Tryz.prog rfl).P 100 [qc8 r] (.ret (.int .i64 (q3q r))) := by
 refine Ev.of_body it_k100 (by simp) (Run.start ?_)
 unfold t_k100 qc8 q3q
 have c1 := zbv r.sku
 have c2 := zbj r.past hw
 have c3 := ev_k127 r.past (by omega)
 have e := z1x r.sku
 generalize q68 r.sku = v1 at c1 ⊢
 generalize q0t r.past = v2 at c2 ⊢
 generalize q7t r.past = v3 at c3 ⊢
 have tail : ∀ (X : Prop), X → X := fun _ x => x
 by_cases h0 : r.sku.size = 0
 ·have h0' : (r.sku.size = 0) = True := eq_true h0
  simp only [h0', not_true_eq_false, false_and, if_false]
  rw [h0'] at e
  (focus (have hF := (aI @e (aI @decide_true @Bool.not_true)); (repeat' (first | refine go1 (k:=?_) | with_reducible refine Ny.of ?_ ?_ | (refine Hyp.of ?_; intro hc; (try simp only [hc]); (try simp only [Bh] at hc)))); all_goals clear hF))
  refine q02 [q19 r.past] (he := c2) (k:=?_)
  cases v2
  ·(focus (have hF := True.intro; (repeat' (first | refine go1 (k:=?_) | with_reducible refine Ny.of ?_ ?_ | (refine Hyp.of ?_; intro hc; (try simp only [hc]); (try simp only [Bh] at hc)))); all_goals clear hF))
   exact Fin.tmp' rfl rfl
  ·(focus (have hF := True.intro; (repeat' (first | refine go1 (k:=?_) | with_reducible refine Ny.of ?_ ?_ | (refine Hyp.of ?_; intro hc; (try simp only [hc]); (try simp only [Bh] at hc)))); all_goals clear hF))
   refine q02 [q19 r.past] (he := c3) (k:=?_)
   by_cases h3 : v3 = 0
   ·(focus (have hF := @h3; (repeat' (first | refine go1 (k:=?_) | with_reducible refine Ny.of ?_ ?_ | (refine Hyp.of ?_; intro hc; (try simp only [hc]); (try simp only [Bh] at hc)))); all_goals clear hF))
    simp only [h3, or_true, if_true]
    exact Fin.tmp' rfl rfl
   ·(focus (have hF := @h3; (repeat' (first | refine go1 (k:=?_) | with_reducible refine Ny.of ?_ ?_ | (refine Hyp.of ?_; intro hc; (try simp only [hc]); (try simp only [Bh] at hc)))); all_goals clear hF))
    simp only [h3, reduceCtorEq, or_false, if_false]
    exact Fin.tmp' rfl rfl
 ·have h0' : (r.sku.size = 0) = False := eq_false h0
  rw [h0'] at e
  simp only [h0', not_false_eq_true, true_and]
  (focus (have hF := (aI @e (aI @decide_false @Bool.not_false)); (repeat' (first | refine go1 (k:=?_) | with_reducible refine Ny.of ?_ ?_ | (refine Hyp.of ?_; intro hc; (try simp only [hc]); (try simp only [Bh] at hc)))); all_goals clear hF))
  refine q02 [.str r.sku] (he := c1) (k:=?_)
  cases v1
  ·(focus (have hF := True.intro; (repeat' (first | refine go1 (k:=?_) | with_reducible refine Ny.of ?_ ?_ | (refine Hyp.of ?_; intro hc; (try simp only [hc]); (try simp only [Bh] at hc)))); all_goals clear hF))
   exact Fin.tmp' rfl rfl
  ·(focus (have hF := True.intro; (repeat' (first | refine go1 (k:=?_) | with_reducible refine Ny.of ?_ ?_ | (refine Hyp.of ?_; intro hc; (try simp only [hc]); (try simp only [Bh] at hc)))); all_goals clear hF))
   refine q02 [q19 r.past] (he := c2) (k:=?_)
   cases v2
   ·(focus (have hF := True.intro; (repeat' (first | refine go1 (k:=?_) | with_reducible refine Ny.of ?_ ?_ | (refine Hyp.of ?_; intro hc; (try simp only [hc]); (try simp only [Bh] at hc)))); all_goals clear hF))
    exact Fin.tmp' rfl rfl
   ·(focus (have hF := True.intro; (repeat' (first | refine go1 (k:=?_) | with_reducible refine Ny.of ?_ ?_ | (refine Hyp.of ?_; intro hc; (try simp only [hc]); (try simp only [Bh] at hc)))); all_goals clear hF))
    refine q02 [q19 r.past] (he := c3) (k:=?_)
    by_cases h3 : v3 = 0
    ·(focus (have hF := @h3; (repeat' (first | refine go1 (k:=?_) | with_reducible refine Ny.of ?_ ?_ | (refine Hyp.of ?_; intro hc; (try simp only [hc]); (try simp only [Bh] at hc)))); all_goals clear hF))
     simp only [h3, or_true, if_true, reduceCtorEq, if_false]
     exact Fin.tmp' rfl rfl
    ·(focus (have hF := @h3; (repeat' (first | refine go1 (k:=?_) | with_reducible refine Ny.of ?_ ?_ | (refine Hyp.of ?_; intro hc; (try simp only [hc]); (try simp only [Bh] at hc)))); all_goals clear hF))
     simp only [h3, reduceCtorEq, or_false, if_false]
     exact Fin.tmp' rfl rfl
theorem ev_k63 (r : Rec) (hw : wt r.past ≤ 30000000) : Ev (En Tryz.prog rfl).P 63 [qc8 r] (.ret (.int .i64 (q3q r))) := by
 refine Ev.of_body it_k63 (by simp) (Run.start ?_)
 unfold t_k63 qc8 q3q
 have c1 := ev_k52 r.sku
 have c2 := zbo r.past (by omega)
 have c3 := ev_k109 r.past (by omega)
 have e := z1x r.sku
 generalize q68 r.sku = v1 at c1 ⊢
 generalize q0t r.past = v2 at c2 ⊢
 generalize q7t r.past = v3 at c3 ⊢
 have tail : ∀ (X : Prop), X → X := fun _ x => x
 by_cases h0 : r.sku.size = 0
 ·have h0' : (r.sku.size = 0) = True := eq_true h0
  simp only [h0', not_true_eq_false, false_and, if_false]
  rw [h0'] at e
  (focus (have hF := (aI @e (aI @decide_true @Bool.not_true)); (repeat' (first | refine go1 (k:=?_) | with_reducible refine Ny.of ?_ ?_ | (refine Hyp.of ?_; intro hc; (try simp only [hc]); (try simp only [Bh] at hc)))); all_goals clear hF))
  refine q02 [q19 r.past] (he := c2) (k:=?_)
  cases v2
  ·(focus (have hF := True.intro; (repeat' (first | refine go1 (k:=?_) | with_reducible refine Ny.of ?_ ?_ | (refine Hyp.of ?_; intro hc; (try simp only [hc]); (try simp only [Bh] at hc)))); all_goals clear hF))
   exact Fin.tmp' rfl rfl
  ·(focus (have hF := True.intro; (repeat' (first | refine go1 (k:=?_) | with_reducible refine Ny.of ?_ ?_ | (refine Hyp.of ?_; intro hc; (try simp only [hc]); (try simp only [Bh] at hc)))); all_goals clear hF))
   refine q02 [q19 r.past] (he := c3) (k:=?_)
   by_cases h3 : v3 = 0
   ·(focus (have hF := @h3; (repeat' (first | refine go1 (k:=?_) | with_reducible refine Ny.of ?_ ?_ | (refine Hyp.of ?_; intro hc; (try simp only [hc]); (try simp only [Bh] at hc)))); all_goals clear hF))
    simp only [h3, or_true, if_true]
    exact Fin.tmp' rfl rfl
   ·(focus (have hF := @h3; (repeat' (first | refine go1 (k:=?_) | with_reducible refine Ny.of ?_ ?_ | (refine Hyp.of ?_; intro hc; (try simp only [hc]); (try simp only [Bh] at hc)))); all_goals clear hF))
    simp only [h3, reduceCtorEq, or_false, if_false]
    exact Fin.tmp' rfl rfl
 ·have h0' : (r.sku.size = 0) = False := eq_false h0
  rw [h0'] at e
  simp only [h0', not_false_eq_true, true_and]
  (focus (have hF := (aI @e (aI @decide_false @Bool.not_false)); (repeat' (first | refine go1 (k:=?_) | with_reducible refine Ny.of ?_ ?_ | (refine Hyp.of ?_; intro hc; (try simp only [hc]); (try simp only [Bh] at hc)))); all_goals clear hF))
  refine q02 [.str r.sku] (he := c1) (k:=?_)
  cases v1
  ·(focus (have hF := True.intro; (repeat' (first | refine go1 (k:=?_) | with_reducible refine Ny.of ?_ ?_ | (refine Hyp.of ?_; intro hc; (try simp only [hc]); (try simp only [Bh] at hc)))); all_goals clear hF))
   exact Fin.tmp' rfl rfl
  ·(focus (have hF := True.intro; (repeat' (first | refine go1 (k:=?_) | with_reducible refine Ny.of ?_ ?_ | (refine Hyp.of ?_; intro hc; (try simp only [hc]); (try simp only [Bh] at hc)))); all_goals clear hF))
   refine q02 [q19 r.past] (he := c2) (k:=?_)
   cases v2
   ·(focus (have hF := True.intro; (repeat' (first | refine go1 (k:=?_) | with_reducible refine Ny.of ?_ ?_ | (refine Hyp.of ?_; intro hc; (try simp only [hc]); (try simp only [Bh] at hc)))); all_goals clear hF))
    exact Fin.tmp' rfl rfl
   ·(focus (have hF := True.intro; (repeat' (first | refine go1 (k:=?_) | with_reducible refine Ny.of ?_ ?_ | (refine Hyp.of ?_; intro hc; (try simp only [hc]); (try simp only [Bh] at hc)))); all_goals clear hF))
    refine q02 [q19 r.past] (he := c3) (k:=?_)
    by_cases h3 : v3 = 0
    ·(focus (have hF := @h3; (repeat' (first | refine go1 (k:=?_) | with_reducible refine Ny.of ?_ ?_ | (refine Hyp.of ?_; intro hc; (try simp only [hc]); (try simp only [Bh] at hc)))); all_goals clear hF))
     simp only [h3, or_true, if_true, reduceCtorEq, if_false]
     exact Fin.tmp' rfl rfl
    ·(focus (have hF := @h3; (repeat' (first | refine go1 (k:=?_) | with_reducible refine Ny.of ?_ ?_ | (refine Hyp.of ?_; intro hc; (try simp only [hc]); (try simp only [Bh] at hc)))); all_goals clear hF))
     simp only [h3, reduceCtorEq, or_false, if_false]
     exact Fin.tmp' rfl rfl
theorem qdf {l : List Rec} {i : Nat} {r : Rec} (hr : l[i]? = some r) (hI : (∀ (j : Nat) q, j < i → l[j]? = some q → q3q q = 0) ∧ ∀ (j : Nat) a b, j + 1 < i → l[j]? = some a → l[j + 1]? = some b → ql9 a b < 0) (h0 : q3q r = 0)
 (h1 : ∀ q, 0 < i → l[i - 1]? = some q → ql9 q r < 0) : (∀ (j : Nat) q, j < i + 1 → l[j]? = some q → q3q q = 0) ∧ ∀ (j : Nat) a b, j + 1 < i + 1 → l[j]? = some a → l[j + 1]? = some b → ql9 a b < 0 := by
 refine ⟨fun j q hj hq => ?_, fun j a b hj ha hb => ?_⟩
 ·by_cases e : j = i
  ·subst e; rw [hr] at hq; cases hq; exact h0
  ·exact hI.1 j q (by omega) hq
 ·by_cases e : j + 1 = i
  ·subst e
   rw [hr] at hb
   cases hb
   exact h1 a (by omega) (by simpa using ha)
  ·exact hI.2 j a b (by omega) ha hb
theorem q8g (l : List Rec) (hl : l.length ≤ 1000000000) (hw : ∀ r ∈ l, wt r.past ≤ 40000000) : Ev (En Tryz.prog rfl).P 57 [.sl 3 (q1a l)] (.ret (.int .i64 (if q4f l = true then 0 else 1))) := by
 refine Ev.of_body it_k57 (by simp) (Run.start ?_)
 unfold t_k57
 have e1 := q6e l
 have hS := qgw
 (focus (have hF := @e1; (repeat' (first | refine go1 (k:=?_) | with_reducible refine Ny.of ?_ ?_ | (refine Hyp.of ?_; intro hc; (try simp only [hc]); (try simp only [Bh] at hc)))); all_goals clear hF))
 refine Run.while (σ := Nat) (fun i => ⟨tms [(0, .sl 3 (q1a l)), (5, .sl 3 (q1a l)), (6, .int .i64 (l.length : Int)), (7, .int .i64 (i : Int))], mms []⟩)
  (fun i => i ≤ l.length ∧ (∀ (j : Nat) q, j < i → l[j]? = some q → q3q q = 0) ∧ ∀ (j : Nat) a b, j + 1 < i → l[j]? = some a → l[j + 1]? = some b → ql9 a b < 0) (fun i => l.length - i) 0 (have hW := @q0e; q0v) ⟨Nat.zero_le _, fun j q hj => absurd hj (Nat.not_lt_zero _), fun j a b hj => by omega⟩ ?_
 rintro i ⟨hi, hI⟩
 unfold qp4
 by_cases hlt : i < l.length
 ·obtain ⟨r, hr⟩ : ∃ r, l[i]? = some r := ⟨l[i], by simp [hlt]⟩
  have g1 := q54 hr
  have hwr := hw r (List.mem_of_getElem? hr)
  have c1 := ev_k100 r (by omega)
  have hst := fun h0 h1 => qdf hr hI h0 h1
  have hbad : q3q r ≠ 0 → ¬ qlr l := fun h hf => h (hf.1 i r hr)
  generalize q3q r = v at c1 hst hbad
  (focus (have hF := (aI @e1 @g1); (repeat' (first | refine go1 (k:=?_) | with_reducible refine Ny.of ?_ ?_ | (refine Hyp.of ?_; intro hc; (try simp only [hc]); (try simp only [Bh] at hc)))); all_goals clear hF))
  refine q02 [qc8 r] (he := c1) (k:=?_)
  by_cases hv : v = 0
  ·by_cases h0 : i = 0
   ·have hst := hst hv (fun q hq => by omega)
    have h0' : (i : Int) = 0 := by omega
    (focus (have hF := (aI (aI @e1 @g1) (aI @hv @h0')); (repeat' (first | refine go1 (k:=?_) | with_reducible refine Ny.of ?_ ?_ | (refine Hyp.of ?_; intro hc; (try simp only [hc]); (try simp only [Bh] at hc)))); all_goals clear hF))
    have hi1 : ((0 : Int) + 1) = ((i + 1 : Nat) : Int) := by omega
    (refine Fin.nextW (i + 1) ?_ (have hW := (aI @q0e @hi1); q0v); (try dsimp only))
    exact ⟨⟨hlt, hst⟩, by omega⟩
   ·obtain ⟨q, hq⟩ : ∃ q, l[i - 1]? = some q := ⟨l[i - 1]'(by omega), by simp [show i - 1 < l.length by omega]⟩
    have g2 := q54 hq
    have hpw : IntKind.i64.wrap ((i : Int) - 1) = ((i - 1 : Nat) : Int) := by rw [q0n (by omega)]; omega
    have hwq := hw q (List.mem_of_getElem? hq)
    have c2 := ev_k101 q r (by omega) (by omega)
    have hst := hst hv
    have hbad2 : ¬ ql9 q r < 0 → ¬ qlr l := fun h hf => h (hf.2 (i - 1) q r hq (by rw [show i - 1 + 1 = i by omega]; exact hr))
    have hst : ql9 q r < 0 → _ := fun h => hst (fun q' _ hq' => by rw [hq] at hq'; cases hq'; exact h)
    generalize ql9 q r = u at c2 hst hbad2
    (focus (have hF := (aI (aI @e1 @g1) (aI @g2 (aI @hv @hpw))); (repeat' (first | refine go1 (k:=?_) | with_reducible refine Ny.of ?_ ?_ | (refine Hyp.of ?_; intro hc; (try simp only [hc]); (try simp only [Bh] at hc)))); all_goals clear hF))
    refine q02 [qc8 q, qc8 r] (he := c2) (k:=?_)
    by_cases hu : u < 0
    ·have hst := hst hu
     (focus (have hF := (aI @e1 @g1); (repeat' (first | refine go1 (k:=?_) | with_reducible refine Ny.of ?_ ?_ | (refine Hyp.of ?_; intro hc; (try simp only [hc]); (try simp only [Bh] at hc)))); all_goals clear hF))
     (refine Fin.nextW (i + 1) ?_ (have hW := @q0e; q0v); (try dsimp only))
     exact ⟨⟨hlt, hst⟩, by omega⟩
    ·rw [q5l (hbad2 hu)]
     (focus (have hF := (aI @e1 @g1); (repeat' (first | refine go1 (k:=?_) | with_reducible refine Ny.of ?_ ?_ | (refine Hyp.of ?_; intro hc; (try simp only [hc]); (try simp only [Bh] at hc)))); all_goals clear hF))
     exact Fin.tmp' rfl rfl
  ·rw [q5l (hbad hv)]
   (focus (have hF := (aI @e1 (aI @g1 @hv)); (repeat' (first | refine go1 (k:=?_) | with_reducible refine Ny.of ?_ ?_ | (refine Hyp.of ?_; intro hc; (try simp only [hc]); (try simp only [Bh] at hc)))); all_goals clear hF))
   exact Fin.tmp' rfl rfl
 ·rw [q93 ⟨fun j q hq => hI.1 j q (by
   rcases Nat.lt_or_ge j l.length with h | h
   ·omega
   ·rw [List.getElem?_eq_none h] at hq; cases hq) hq, fun j a b ha hb => hI.2 j a b (by
   rcases Nat.lt_or_ge (j + 1) l.length with h | h
   ·omega
   ·rw [List.getElem?_eq_none h] at hb; cases hb) ha hb⟩]
  (focus (have hF := @e1; (repeat' (first | refine go1 (k:=?_) | with_reducible refine Ny.of ?_ ?_ | (refine Hyp.of ?_; intro hc; (try simp only [hc]); (try simp only [Bh] at hc)))); all_goals clear hF))
  exact Fin.tmp' rfl rfl

theorem q74 (l : List Rec) (hl : l.length ≤ 1000000000) (hw : ∀ r ∈ l, wt r.past ≤ 30000000) : Ev (En Tryz.prog rfl).P 25 [.sl 3 (q1a l)] (.ret (.int .i64 (if q4f l = true then 0 else 1))) := by
 refine Ev.of_body it_k25 (by simp) (Run.start ?_)
 unfold t_k25
 have e1 := q6e l
 have hS := qgw
 (focus (have hF := @e1; (repeat' (first | refine go1 (k:=?_) | with_reducible refine Ny.of ?_ ?_ | (refine Hyp.of ?_; intro hc; (try simp only [hc]); (try simp only [Bh] at hc)))); all_goals clear hF))
 refine Run.while (σ := Nat) (fun i => ⟨tms [(0, .sl 3 (q1a l)), (3, .int .i64 (i : Int))], mms []⟩)
  (fun i => i ≤ l.length ∧ (∀ (j : Nat) q, j < i → l[j]? = some q → q3q q = 0) ∧ ∀ (j : Nat) a b, j + 1 < i → l[j]? = some a → l[j + 1]? = some b → ql9 a b < 0) (fun i => l.length - i) 0 (have hW := @q0e; q0v) ⟨Nat.zero_le _, fun j q hj => absurd hj (Nat.not_lt_zero _), fun j a b hj => by omega⟩ ?_
 rintro i ⟨hi, hI⟩
 unfold qpc
 by_cases hlt : i < l.length
 ·obtain ⟨r, hr⟩ : ∃ r, l[i]? = some r := ⟨l[i], by simp [hlt]⟩
  have g1 := q54 hr
  have hwr := hw r (List.mem_of_getElem? hr)
  have c1 := ev_k63 r (by omega)
  have hst := fun h0 h1 => qdf hr hI h0 h1
  have hbad : q3q r ≠ 0 → ¬ qlr l := fun h hf => h (hf.1 i r hr)
  generalize q3q r = v at c1 hst hbad
  (focus (have hF := (aI @e1 @g1); (repeat' (first | refine go1 (k:=?_) | with_reducible refine Ny.of ?_ ?_ | (refine Hyp.of ?_; intro hc; (try simp only [hc]); (try simp only [Bh] at hc)))); all_goals clear hF))
  refine q02 [qc8 r] (he := c1) (k:=?_)
  by_cases hv : v = 0
  ·by_cases h0 : i = 0
   ·have hst := hst hv (fun q hq => by omega)
    have h0' : (i : Int) = 0 := by omega
    (focus (have hF := (aI (aI @e1 @g1) (aI @hv @h0')); (repeat' (first | refine go1 (k:=?_) | with_reducible refine Ny.of ?_ ?_ | (refine Hyp.of ?_; intro hc; (try simp only [hc]); (try simp only [Bh] at hc)))); all_goals clear hF))
    have hi1 : ((0 : Int) + 1) = ((i + 1 : Nat) : Int) := by omega
    (refine Fin.nextW (i + 1) ?_ (have hW := (aI @q0e @hi1); q0v); (try dsimp only))
    exact ⟨⟨hlt, hst⟩, by omega⟩
   ·obtain ⟨q, hq⟩ : ∃ q, l[i - 1]? = some q := ⟨l[i - 1]'(by omega), by simp [show i - 1 < l.length by omega]⟩
    have g2 := q54 hq
    have hpw : IntKind.i64.wrap ((i : Int) - 1) = ((i - 1 : Nat) : Int) := by rw [q0n (by omega)]; omega
    have hwq := hw q (List.mem_of_getElem? hq)
    have c2 := ev_k64 q r (by omega) (by omega)
    have hst := hst hv
    have hbad2 : ¬ ql9 q r < 0 → ¬ qlr l := fun h hf => h (hf.2 (i - 1) q r hq (by rw [show i - 1 + 1 = i by omega]; exact hr))
    have hst : ql9 q r < 0 → _ := fun h => hst (fun q' _ hq' => by rw [hq] at hq'; cases hq'; exact h)
    generalize ql9 q r = u at c2 hst hbad2
    (focus (have hF := (aI (aI @e1 @g1) (aI @g2 (aI @hv @hpw))); (repeat' (first | refine go1 (k:=?_) | with_reducible refine Ny.of ?_ ?_ | (refine Hyp.of ?_; intro hc; (try simp only [hc]); (try simp only [Bh] at hc)))); all_goals clear hF))
    refine q02 [qc8 q, qc8 r] (he := c2) (k:=?_)
    by_cases hu : u < 0
    ·have hst := hst hu
     (focus (have hF := (aI @e1 @g1); (repeat' (first | refine go1 (k:=?_) | with_reducible refine Ny.of ?_ ?_ | (refine Hyp.of ?_; intro hc; (try simp only [hc]); (try simp only [Bh] at hc)))); all_goals clear hF))
     (refine Fin.nextW (i + 1) ?_ (have hW := @q0e; q0v); (try dsimp only))
     exact ⟨⟨hlt, hst⟩, by omega⟩
    ·rw [q5l (hbad2 hu)]
     (focus (have hF := (aI @e1 @g1); (repeat' (first | refine go1 (k:=?_) | with_reducible refine Ny.of ?_ ?_ | (refine Hyp.of ?_; intro hc; (try simp only [hc]); (try simp only [Bh] at hc)))); all_goals clear hF))
     exact Fin.tmp' rfl rfl
  ·rw [q5l (hbad hv)]
   (focus (have hF := (aI @e1 (aI @g1 @hv)); (repeat' (first | refine go1 (k:=?_) | with_reducible refine Ny.of ?_ ?_ | (refine Hyp.of ?_; intro hc; (try simp only [hc]); (try simp only [Bh] at hc)))); all_goals clear hF))
   exact Fin.tmp' rfl rfl
 ·rw [q93 ⟨fun j q hq => hI.1 j q (by
   rcases Nat.lt_or_ge j l.length with h | h
   ·omega
   ·rw [List.getElem?_eq_none h] at hq; cases hq) hq, fun j a b ha hb => hI.2 j a b (by
   rcases Nat.lt_or_ge (j + 1) l.length with h | h
   ·omega
   ·rw [List.getElem?_eq_none h] at hb; cases hb) ha hb⟩]
  (focus (have hF := @e1; (repeat' (first | refine go1 (k:=?_) | with_reducible refine Ny.of ?_ ?_ | (refine Hyp.of ?_; intro hc; (try simp only [hc]); (try simp only [Bh] at hc)))); all_goals clear hF))
  exact Fin.tmp' rfl rfl
theorem ev_k95 (e : Ent) : Ev (En Tryz.prog rfl).P 95 [encE e] (.ret (.int .i64 (q3s e))) := by
 refine Ev.of_body it_k95 (by simp) (Run.start ?_)
 unfold t_k95 encE q3s
 have c1 := zbv e.sku
 generalize q68 e.sku = v at c1 ⊢
 by_cases h1 : e.rep < 0 ∨ 16 ≤ e.rep
 ·rw [if_pos h1]
  rcases h1 with h1 | h1
  all_goals
   (focus (have hF := True.intro; (repeat' (first | refine go1 (k:=?_) | with_reducible refine Ny.of ?_ ?_ | (refine Hyp.of ?_; intro hc; (try simp only [hc]); (try simp only [Bh] at hc)))); all_goals clear hF))
  all_goals first | exact Fin.tmp' rfl rfl | (exfalso; omega)
 ·rw [if_neg h1]
  by_cases h2 : e.num < 1 ∨ 1000000000 < e.num
  ·rw [if_pos h2]
   rcases h2 with h2 | h2
   all_goals
    (focus (have hF := True.intro; (repeat' (first | refine go1 (k:=?_) | with_reducible refine Ny.of ?_ ?_ | (refine Hyp.of ?_; intro hc; (try simp only [hc]); (try simp only [Bh] at hc)))); all_goals clear hF))
   all_goals first | exact Fin.tmp' rfl rfl | (exfalso; omega)
  ·rw [if_neg h2]
   (focus (have hF := True.intro; (repeat' (first | refine go1 (k:=?_) | with_reducible refine Ny.of ?_ ?_ | (refine Hyp.of ?_; intro hc; (try simp only [hc]); (try simp only [Bh] at hc)))); all_goals clear hF))
   all_goals
    refine q02 [.str e.sku] (he := c1) (k:=?_)
    cases v
    case' false =>
     rw [if_pos rfl]
     (focus (have hF := True.intro; (repeat' (first | refine go1 (k:=?_) | with_reducible refine Ny.of ?_ ?_ | (refine Hyp.of ?_; intro hc; (try simp only [hc]); (try simp only [Bh] at hc)))); all_goals clear hF))
     exact Fin.tmp' rfl rfl
    case' true =>
     rw [if_neg (by decide)]
     by_cases h3 : e.qty < 1 ∨ 1000000 < e.qty
     ·rw [if_pos h3]
      rcases h3 with h3 | h3
      all_goals
       (focus (have hF := True.intro; (repeat' (first | refine go1 (k:=?_) | with_reducible refine Ny.of ?_ ?_ | (refine Hyp.of ?_; intro hc; (try simp only [hc]); (try simp only [Bh] at hc)))); all_goals clear hF))
      all_goals first | exact Fin.tmp' rfl rfl | (exfalso; omega)
     ·rw [if_neg h3]
      (focus (have hF := True.intro; (repeat' (first | refine go1 (k:=?_) | with_reducible refine Ny.of ?_ ?_ | (refine Hyp.of ?_; intro hc; (try simp only [hc]); (try simp only [Bh] at hc)))); all_goals clear hF))
      all_goals first | exact Fin.tmp' rfl rfl | (exfalso; omega)
theorem ev_k96 (a b : Rn) : Ev (En Tryz.prog rfl).P 96 [q6r a, q6r b] (.ret (.bool (q5z a b))) := by
 refine Ev.of_body it_k96 (by simp) (Run.start ?_)
 unfold t_k96 q6r q5z
 by_cases h1 : a.1 < b.1
 ·rw [show (decide (a.1 < b.1) || (decide (a.1 = b.1) && decide (a.2 < b.2))) = true by simp [h1]]
  (focus (have hF := True.intro; (repeat' (first | refine go1 (k:=?_) | with_reducible refine Ny.of ?_ ?_ | (refine Hyp.of ?_; intro hc; (try simp only [hc]); (try simp only [Bh] at hc)))); all_goals clear hF))
  exact Fin.tmp' rfl rfl
 ·by_cases h2 : a.1 = b.1
  ·rw [show (decide (a.1 < b.1) || (decide (a.1 = b.1) && decide (a.2 < b.2))) = decide (a.2 < b.2) by simp [h1, h2]]
   (focus (have hF := True.intro; (repeat' (first | refine go1 (k:=?_) | with_reducible refine Ny.of ?_ ?_ | (refine Hyp.of ?_; intro hc; (try simp only [hc]); (try simp only [Bh] at hc)))); all_goals clear hF))
   exact Fin.tmp' rfl rfl
  ·rw [show (decide (a.1 < b.1) || (decide (a.1 = b.1) && decide (a.2 < b.2))) = false by simp [h1, h2]]
   (focus (have hF := True.intro; (repeat' (first | refine go1 (k:=?_) | with_reducible refine Ny.of ?_ ?_ | (refine Hyp.of ?_; intro hc; (try simp only [hc]); (try simp only [Bh] at hc)))); all_goals clear hF))
   exact Fin.tmp' rfl rfl
theorem ev_k53 (a b : Rn) : Ev (En Tryz.prog rfl).P 53 [q6r a, q6r b] (.ret (.bool (q5z a b))) := by
 refine Ev.of_body it_k53 (by simp) (Run.start ?_)
 unfold t_k53 q6r q5z
 by_cases h1 : a.1 < b.1
 ·rw [show (decide (a.1 < b.1) || (decide (a.1 = b.1) && decide (a.2 < b.2))) = true by simp [h1]]
  (focus (have hF := True.intro; (repeat' (first | refine go1 (k:=?_) | with_reducible refine Ny.of ?_ ?_ | (refine Hyp.of ?_; intro hc; (try simp only [hc]); (try simp only [Bh] at hc)))); all_goals clear hF))
  exact Fin.tmp' rfl rfl
 ·by_cases h2 : a.1 = b.1
  ·rw [show (decide (a.1 < b.1) || (decide (a.1 = b.1) && decide (a.2 < b.2))) = decide (a.2 < b.2) by simp [h1, h2]]
   (focus (have hF := True.intro; (repeat' (first | refine go1 (k:=?_) | with_reducible refine Ny.of ?_ ?_ | (refine Hyp.of ?_; intro hc; (try simp only [hc]); (try simp only [Bh] at hc)))); all_goals clear hF))
   exact Fin.tmp' rfl rfl
  ·rw [show (decide (a.1 < b.1) || (decide (a.1 = b.1) && decide (a.2 < b.2))) = false by simp [h1, h2]]
   (focus (have hF := True.intro; (repeat' (first | refine go1 (k:=?_) | with_reducible refine Ny.of ?_ ?_ | (refine Hyp.of ?_; intro hc; (try simp only [hc]); (try simp only [Bh] at hc)))); all_goals clear hF))
   exact Fin.tmp' rfl rfl
theorem ev_k51 (d : Rn) : Ev (En Tryz.prog rfl).P 51 [q6r d] (.ret (.bool (q9p d.1 d.2))) := by
 refine Ev.of_body it_k51 (by simp) (Run.start ?_)
 unfold t_k51 q6r q9p
 by_cases h1 : 0 ≤ d.1 <;> by_cases h2 : d.1 < 16 <;> by_cases h3 : 1 ≤ d.2 <;> by_cases h4 : d.2 ≤ 1000000000
 all_goals
  simp only [h1, h2, h3, h4, decide_true, decide_false, Bool.and_true, Bool.and_false, Bool.true_and, Bool.false_and]
  (focus (have hF := True.intro; (repeat' (first | refine go1 (k:=?_) | with_reducible refine Ny.of ?_ ?_ | (refine Hyp.of ?_; intro hc; (try simp only [hc]); (try simp only [Bh] at hc)))); all_goals clear hF))
  all_goals first | exact Fin.tmp' rfl rfl | (exfalso; omega)
theorem qdg {l : List Ent} {i : Nat} {r : Ent} (hr : l[i]? = some r) (hI : (∀ (j : Nat) q, j < i → l[j]? = some q → q3s q = 0) ∧ ∀ (j : Nat) a b, j + 1 < i → l[j]? = some a → l[j + 1]? = some b → q5z a.dot b.dot = true) (h0 : q3s r = 0)
 (h1 : ∀ q, 0 < i → l[i - 1]? = some q → q5z q.dot r.dot = true) : (∀ (j : Nat) q, j < i + 1 → l[j]? = some q → q3s q = 0) ∧ ∀ (j : Nat) a b, j + 1 < i + 1 → l[j]? = some a → l[j + 1]? = some b → q5z a.dot b.dot = true := by
 refine ⟨fun j q hj hq => ?_, fun j a b hj ha hb => ?_⟩
 ·by_cases e : j = i
  ·subst e; rw [hr] at hq; cases hq; exact h0
  ·exact hI.1 j q (by omega) hq
 ·by_cases e : j + 1 = i
  ·subst e
   rw [hr] at hb
   cases hb
   exact h1 a (by omega) (by simpa using ha)
  ·exact hI.2 j a b (by omega) ha hb
theorem qkl {l : List Ent} {i : Nat} (hi : l.length ≤ i) (hI : (∀ (j : Nat) q, j < i → l[j]? = some q → q3s q = 0) ∧ ∀ (j : Nat) a b, j + 1 < i → l[j]? = some a → l[j + 1]? = some b → q5z a.dot b.dot = true) : qfw l :=
 ⟨fun j q hq => hI.1 j q (by
  rcases Nat.lt_or_ge j l.length with h | h
  ·omega
  ·rw [List.getElem?_eq_none h] at hq; cases hq) hq, fun j a b ha hb => hI.2 j a b (by
  rcases Nat.lt_or_ge (j + 1) l.length with h | h
  ·omega
  ·rw [List.getElem?_eq_none h] at hb; cases hb) ha hb⟩
theorem ev_k49 (l : List Ent) (hl : l.length ≤ 1000000000) : Ev (En Tryz.prog rfl).P 49 [.sl 4 (q1b l)] (.ret (.int .i64 (if q3z l = true then 0 else 1))) := by
 refine Ev.of_body it_k49 (by simp) (Run.start ?_)
 unfold t_k49
 have e1 := q6g l
 have hS := qgw
 (focus (have hF := @e1; (repeat' (first | refine go1 (k:=?_) | with_reducible refine Ny.of ?_ ?_ | (refine Hyp.of ?_; intro hc; (try simp only [hc]); (try simp only [Bh] at hc)))); all_goals clear hF))
 refine Run.while (σ := Nat) (fun i => ⟨tms [(0, .sl 4 (q1b l)), (5, .sl 4 (q1b l)), (6, .int .i64 (l.length : Int)), (7, .int .i64 (i : Int))], mms []⟩)
  (fun i => i ≤ l.length ∧ (∀ (j : Nat) q, j < i → l[j]? = some q → q3s q = 0) ∧ ∀ (j : Nat) a b, j + 1 < i → l[j]? = some a → l[j + 1]? = some b → q5z a.dot b.dot = true) (fun i => l.length - i) 0 (have hW := @q0b; q0v) ⟨Nat.zero_le _, fun j q hj => absurd hj (Nat.not_lt_zero _), fun j a b hj => by omega⟩ ?_
 rintro i ⟨hi, hI⟩
 unfold qp6
 by_cases hlt : i < l.length
 ·obtain ⟨r, hr⟩ : ∃ r, l[i]? = some r := ⟨l[i], by simp [hlt]⟩
  have g1 := q56 hr
  have c1 := ev_k95 r
  have hst := fun h0 h1 => qdg hr hI h0 h1
  have hbad : q3s r ≠ 0 → ¬ qfw l := fun h hf => h (hf.1 i r hr)
  generalize q3s r = v at c1 hst hbad
  (focus (have hF := (aI @e1 @g1); (repeat' (first | refine go1 (k:=?_) | with_reducible refine Ny.of ?_ ?_ | (refine Hyp.of ?_; intro hc; (try simp only [hc]); (try simp only [Bh] at hc)))); all_goals clear hF))
  refine q02 [encE r] (he := c1) (k:=?_)
  by_cases hv : v = 0
  ·by_cases h0 : i = 0
   ·have hst := hst hv (fun q hq => by omega)
    have h0' : (i : Int) = 0 := by omega
    (focus (have hF := (aI (aI @e1 @g1) (aI @hv @h0')); (repeat' (first | refine go1 (k:=?_) | with_reducible refine Ny.of ?_ ?_ | (refine Hyp.of ?_; intro hc; (try simp only [hc]); (try simp only [Bh] at hc)))); all_goals clear hF))
    have hi1 : ((0 : Int) + 1) = ((i + 1 : Nat) : Int) := by omega
    (refine Fin.nextW (i + 1) ?_ (have hW := (aI @q0b @hi1); q0v); (try dsimp only))
    exact ⟨⟨hlt, hst⟩, by omega⟩
   ·obtain ⟨q, hq⟩ : ∃ q, l[i - 1]? = some q := ⟨l[i - 1]'(by omega), by simp [show i - 1 < l.length by omega]⟩
    have g2 := q56 hq
    have hpw : IntKind.i64.wrap ((i : Int) - 1) = ((i - 1 : Nat) : Int) := by rw [q0n (by omega)]; omega
    have c2 := ev_k96 q.dot r.dot
    have hst := hst hv
    have hbad2 : q5z q.dot r.dot = false → ¬ qfw l := fun h hf => by
     have := hf.2 (i - 1) q r hq (by rw [show i - 1 + 1 = i by omega]; exact hr)
     rw [h] at this
     cases this
    have hst : q5z q.dot r.dot = true → _ := fun h => hst (fun q' _ hq' => by rw [hq] at hq'; cases hq'; exact h)
    generalize q5z q.dot r.dot = u at c2 hst hbad2
    (focus (have hF := (aI (aI @e1 @g1) (aI @g2 (aI @hv @hpw))); (repeat' (first | refine go1 (k:=?_) | with_reducible refine Ny.of ?_ ?_ | (refine Hyp.of ?_; intro hc; (try simp only [hc]); (try simp only [Bh] at hc)))); all_goals clear hF))
    refine q02 [q6r q.dot, q6r r.dot] (he := c2) (k:=?_)
    cases u
    ·rw [q2q (hbad2 rfl)]
     (focus (have hF := (aI @e1 @g1); (repeat' (first | refine go1 (k:=?_) | with_reducible refine Ny.of ?_ ?_ | (refine Hyp.of ?_; intro hc; (try simp only [hc]); (try simp only [Bh] at hc)))); all_goals clear hF))
     exact Fin.tmp' rfl rfl
    ·have hst := hst rfl
     (focus (have hF := (aI @e1 @g1); (repeat' (first | refine go1 (k:=?_) | with_reducible refine Ny.of ?_ ?_ | (refine Hyp.of ?_; intro hc; (try simp only [hc]); (try simp only [Bh] at hc)))); all_goals clear hF))
     (refine Fin.nextW (i + 1) ?_ (have hW := @q0b; q0v); (try dsimp only))
     exact ⟨⟨hlt, hst⟩, by omega⟩
  ·rw [q2q (hbad hv)]
   (focus (have hF := (aI @e1 (aI @g1 @hv)); (repeat' (first | refine go1 (k:=?_) | with_reducible refine Ny.of ?_ ?_ | (refine Hyp.of ?_; intro hc; (try simp only [hc]); (try simp only [Bh] at hc)))); all_goals clear hF))
   exact Fin.tmp' rfl rfl
 ·rw [q94 (qkl (by omega) hI)]
  (focus (have hF := @e1; (repeat' (first | refine go1 (k:=?_) | with_reducible refine Ny.of ?_ ?_ | (refine Hyp.of ?_; intro hc; (try simp only [hc]); (try simp only [Bh] at hc)))); all_goals clear hF))
  exact Fin.tmp' rfl rfl
theorem z0w (e : Ent) : q3s e = 0 ↔ q9p e.rep e.num = true ∧ q68 e.sku = true ∧ ¬ e.qty < 1 ∧ ¬ 1000000 < e.qty := by
 rw [zaz]
 unfold q3s
 split
 ·constructor
  ·intro h; simp at h
  ·intro h; omega
 ·split
  ·constructor
   ·intro h; simp at h
   ·intro h; omega
  ·split
   ·rename_i h
    constructor
    ·intro h; simp at h
    ·intro h'; rw [h] at h'; simp at h'
   ·rename_i h
    split
    ·constructor
     ·intro h; simp at h
     ·intro h; omega
    ·constructor
     ·intro _; exact ⟨by omega, by simpa using h, by omega, by omega⟩
     ·intro _; rfl
theorem ev_k16 (l : List Ent) (hl : l.length ≤ 1000000000) : Ev (En Tryz.prog rfl).P 16 [.sl 4 (q1b l)] (.ret (.bool (q3z l))) := by
 refine Ev.of_body it_k16 (by simp) (Run.start ?_)
 unfold t_k16
 have e1 := q6g l
 have hS := qgw
 (focus (have hF := @e1; (repeat' (first | refine go1 (k:=?_) | with_reducible refine Ny.of ?_ ?_ | (refine Hyp.of ?_; intro hc; (try simp only [hc]); (try simp only [Bh] at hc)))); all_goals clear hF))
 refine Run.while (σ := Nat) (fun i => ⟨tms [(0, .sl 4 (q1b l)), (3, .int .i64 (i : Int))], mms []⟩)
  (fun i => i ≤ l.length ∧ (∀ (j : Nat) q, j < i → l[j]? = some q → q3s q = 0) ∧ ∀ (j : Nat) a b, j + 1 < i → l[j]? = some a → l[j + 1]? = some b → q5z a.dot b.dot = true) (fun i => l.length - i) 0 (have hW := @q0b; q0v) ⟨Nat.zero_le _, fun j q hj => absurd hj (Nat.not_lt_zero _), fun j a b hj => by omega⟩ ?_
 rintro i ⟨hi, hI⟩
 unfold qpe
 by_cases hlt : i < l.length
 ·obtain ⟨r, hr⟩ : ∃ r, l[i]? = some r := ⟨l[i], by simp [hlt]⟩
  have g1 := q56 hr
  have c1 := ev_k51 r.dot
  have c0 := ev_k52 r.sku
  have hst := fun h0 h1 => qdg hr hI h0 h1
  have hbad : q3s r ≠ 0 → ¬ qfw l := fun h hf => h (hf.1 i r hr)
  have hee := z0w r
  change Ev _ _ _ (.ret (.bool (q9p r.rep r.num))) at c1
  generalize q9p r.rep r.num = v1 at c1 hee
  generalize q68 r.sku = v2 at c0 hee
  (focus (have hF := (aI @e1 @g1); (repeat' (first | refine go1 (k:=?_) | with_reducible refine Ny.of ?_ ?_ | (refine Hyp.of ?_; intro hc; (try simp only [hc]); (try simp only [Bh] at hc)))); all_goals clear hF))
  refine q02 [q6r r.dot] (he := c1) (k:=?_)
  cases v1
  ·rw [q2q (hbad (fun h => by have := (hee.1 h).1; simp at this))]
   (focus (have hF := (aI @e1 @g1); (repeat' (first | refine go1 (k:=?_) | with_reducible refine Ny.of ?_ ?_ | (refine Hyp.of ?_; intro hc; (try simp only [hc]); (try simp only [Bh] at hc)))); all_goals clear hF))
   exact Fin.tmp' rfl rfl
  ·(focus (have hF := (aI @e1 @g1); (repeat' (first | refine go1 (k:=?_) | with_reducible refine Ny.of ?_ ?_ | (refine Hyp.of ?_; intro hc; (try simp only [hc]); (try simp only [Bh] at hc)))); all_goals clear hF))
   refine q02 [.str r.sku] (he := c0) (k:=?_)
   cases v2
   ·rw [q2q (hbad (fun h => by have := (hee.1 h).2.1; simp at this))]
    (focus (have hF := (aI @e1 @g1); (repeat' (first | refine go1 (k:=?_) | with_reducible refine Ny.of ?_ ?_ | (refine Hyp.of ?_; intro hc; (try simp only [hc]); (try simp only [Bh] at hc)))); all_goals clear hF))
    exact Fin.tmp' rfl rfl
   ·by_cases h3 : r.qty < 1
    ·rw [q2q (hbad (fun h => (hee.1 h).2.2.1 h3))]
     (focus (have hF := (aI @e1 @g1); (repeat' (first | refine go1 (k:=?_) | with_reducible refine Ny.of ?_ ?_ | (refine Hyp.of ?_; intro hc; (try simp only [hc]); (try simp only [Bh] at hc)))); all_goals clear hF))
     exact Fin.tmp' rfl rfl
    ·by_cases h4 : 1000000 < r.qty
     ·rw [q2q (hbad (fun h => (hee.1 h).2.2.2 h4))]
      (focus (have hF := (aI @e1 @g1); (repeat' (first | refine go1 (k:=?_) | with_reducible refine Ny.of ?_ ?_ | (refine Hyp.of ?_; intro hc; (try simp only [hc]); (try simp only [Bh] at hc)))); all_goals clear hF))
      exact Fin.tmp' rfl rfl
     ·have hv := hee.2 ⟨rfl, rfl, h3, h4⟩
      by_cases h0 : i = 0
      ·have hst := hst hv (fun q hq => by omega)
       subst h0
       (focus (have hF := (aI @e1 @g1); (repeat' (first | refine go1 (k:=?_) | with_reducible refine Ny.of ?_ ?_ | (refine Hyp.of ?_; intro hc; (try simp only [hc]); (try simp only [Bh] at hc)))); all_goals clear hF))
       (refine Fin.nextW (0 + 1) ?_ (have hW := @q0b; q0v); (try dsimp only))
       exact ⟨⟨hlt, hst⟩, by omega⟩
      ·obtain ⟨q, hq⟩ : ∃ q, l[i - 1]? = some q := ⟨l[i - 1]'(by omega), by simp [show i - 1 < l.length by omega]⟩
       have g2 := q56 hq
       have hpw : IntKind.i64.wrap ((i : Int) - 1) = ((i - 1 : Nat) : Int) := by rw [q0n (by omega)]; omega
       have c2 := ev_k53 q.dot r.dot
       have hst := hst hv
       have hbad2 : q5z q.dot r.dot = false → ¬ qfw l := fun h hf => by
        have := hf.2 (i - 1) q r hq (by rw [show i - 1 + 1 = i by omega]; exact hr)
        rw [h] at this
        cases this
       have hst : q5z q.dot r.dot = true → _ := fun h => hst (fun q' _ hq' => by rw [hq] at hq'; cases hq'; exact h)
       generalize q5z q.dot r.dot = u at c2 hst hbad2
       (focus (have hF := (aI (aI @e1 @g1) (aI @g2 @hpw)); (repeat' (first | refine go1 (k:=?_) | with_reducible refine Ny.of ?_ ?_ | (refine Hyp.of ?_; intro hc; (try simp only [hc]); (try simp only [Bh] at hc)))); all_goals clear hF))
       refine q02 [q6r q.dot, q6r r.dot] (he := c2) (k:=?_)
       cases u
       ·rw [q2q (hbad2 rfl)]
        (focus (have hF := (aI @e1 @g1); (repeat' (first | refine go1 (k:=?_) | with_reducible refine Ny.of ?_ ?_ | (refine Hyp.of ?_; intro hc; (try simp only [hc]); (try simp only [Bh] at hc)))); all_goals clear hF))
        exact Fin.tmp' rfl rfl
       ·have hst := hst rfl
        (focus (have hF := (aI @e1 @g1); (repeat' (first | refine go1 (k:=?_) | with_reducible refine Ny.of ?_ ?_ | (refine Hyp.of ?_; intro hc; (try simp only [hc]); (try simp only [Bh] at hc)))); all_goals clear hF))
        (refine Fin.nextW (i + 1) ?_ (have hW := @q0b; q0v); (try dsimp only))
        exact ⟨⟨hlt, hst⟩, by omega⟩
 ·rw [q94 (qkl (by omega) hI)]
  (focus (have hF := @e1; (repeat' (first | refine go1 (k:=?_) | with_reducible refine Ny.of ?_ ?_ | (refine Hyp.of ?_; intro hc; (try simp only [hc]); (try simp only [Bh] at hc)))); all_goals clear hF))
  exact Fin.tmp' rfl rfl

def z8s : List SOp := [zO 2 (.alloc 25),zO 3 (.assign (.const (.int .i64 0)))]
instance : Live z8s := ⟨[0]⟩
def z8r : List SOp := [zM 7 0,zO 8 (.call ⟨.value (.func 59),#[.tmp 7,.func 60],#[28,109]⟩),zM 6 8,zX 9 6 0,zX 10 6 1,zO 4 (.alloc 25),⟨none,.store 25 (.tmp 4) (.tmp 9),none⟩,zG 5 10]
instance : Live z8r := ⟨[0,2]⟩
def z8q : List SOp := [zM 11 5,zO 12 (.unOp .not 4 (.tmp 11)),zM 13 12,⟨some 14,.load 25 (.tmp 4),some ((some 13),false)⟩,⟨some 15,.call ⟨.value (.func 45),#[.tmp 14],#[25]⟩,some ((some 13),false)⟩,⟨some 16,.unOp .not 4 (.tmp 15),some ((some 13),false)⟩,zO 17 (.pick (.tmp 13) (.const (.bool true)) (.tmp 16))]
instance : Live z8q := ⟨[2,4,5]⟩
def z8p : List SOp := [zO 18 (.build 25 #[]),⟨none,.store 25 (.tmp 2) (.tmp 18),none⟩,zO 3 (.assign (.const (.int .i64 8)))]
instance : Live z8p := ⟨[2]⟩
def z8o : List SOp := [zL 19 25 4,⟨none,.store 25 (.tmp 2) (.tmp 19),none⟩,zO 3 (.assign (.const (.int .i64 0)))]
instance : Live z8o := ⟨[2,4]⟩
def t_k23 : SC :=
 (.seq (.ops false z8s) (.seq (.ops false z8r) (.seq (.seq (.ops false z8q) (.cond (.tmp 17) (.seq (.ops false z8p) .ret) .skip)) (.seq (.ops false z8o) .ret))))
theorem it_k23 : FnIs Tryz.prog 23 20 [.cell 2 25, .tmp 3] t_k23 := ⟨Tryz.f23, _, Tryz.func23, rfl, rfl, rfl, rfl, by kernel_rfl⟩

def z8n : List SOp := [zO 2 (.assign (.const (.slice none 0 0))),zO 3 (.assign (.const (.int .i64 0)))]
instance : Live z8n := ⟨[0]⟩
def z8m : List SOp := [zM 7 0,zO 8 (.call ⟨.value (.func 61),#[.tmp 7,.func 62],#[28,112]⟩),zM 6 8,zX 9 6 0,zX 10 6 1,zG 4 9,zG 5 10]
instance : Live z8m := ⟨[0]⟩
def z8l : List SOp := [zM 11 5,zO 12 (.unOp .not 4 (.tmp 11)),zM 13 12,⟨some 14,.move (.tmp 4),some ((some 13),false)⟩,⟨some 15,.call ⟨.value (.func 49),#[.tmp 14],#[26]⟩,some ((some 13),false)⟩,⟨some 16,.binOp .neq 35 (.tmp 15) (.const (.int .i64 0)) 35,some ((some 13),false)⟩,zO 17 (.pick (.tmp 13) (.const (.bool true)) (.tmp 16))]
instance : Live z8l := ⟨[4,5]⟩
def z8k : List SOp := [zO 2 (.assign (.const (.slice none 0 0))),zO 3 (.assign (.const (.int .i64 8)))]
instance : Live z8k := ⟨[]⟩
def z8j : List SOp := [zM 18 4,zG 2 18,zO 3 (.assign (.const (.int .i64 0)))]
instance : Live z8j := ⟨[4]⟩
def t_k24 : SC :=
 (.seq (.ops false z8n) (.seq (.ops false z8m) (.seq (.seq (.ops false z8l) (.cond (.tmp 17) (.seq (.ops false z8k) .ret) .skip)) (.seq (.ops false z8j) .ret))))
theorem it_k24 : FnIs Tryz.prog 24 19 [.tmp 2, .tmp 3] t_k24 := ⟨Tryz.f24, _, Tryz.func24, rfl, rfl, rfl, rfl, by kernel_rfl⟩

def z89 : List SOp := [zO 2 (.assign (.const (.slice none 0 0))),zO 3 (.assign (.const (.int .i64 0)))]
instance : Live z89 := ⟨[0]⟩
def z88 : List SOp := [zM 7 0,zO 8 (.call ⟨.value (.func 65),#[.tmp 7,.func 66],#[28,117]⟩),zM 6 8,zX 9 6 0,zX 10 6 1,zG 4 9,zG 5 10]
instance : Live z88 := ⟨[0]⟩
def z87 : List SOp := [zM 11 5,zO 12 (.unOp .not 4 (.tmp 11)),zM 13 12,⟨some 14,.move (.tmp 4),some ((some 13),false)⟩,⟨some 15,.call ⟨.value (.func 57),#[.tmp 14],#[27]⟩,some ((some 13),false)⟩,⟨some 16,.binOp .neq 35 (.tmp 15) (.const (.int .i64 0)) 35,some ((some 13),false)⟩,zO 17 (.pick (.tmp 13) (.const (.bool true)) (.tmp 16))]
instance : Live z87 := ⟨[4,5]⟩
def z86 : List SOp := [zO 2 (.assign (.const (.slice none 0 0))),zO 3 (.assign (.const (.int .i64 8)))]
instance : Live z86 := ⟨[]⟩
def z85 : List SOp := [zM 18 4,zG 2 18,zO 3 (.assign (.const (.int .i64 0)))]
instance : Live z85 := ⟨[4]⟩
def t_k26 : SC :=
 (.seq (.ops false z89) (.seq (.ops false z88) (.seq (.seq (.ops false z87) (.cond (.tmp 17) (.seq (.ops false z86) .ret) .skip)) (.seq (.ops false z85) .ret))))
theorem it_k26 : FnIs Tryz.prog 26 19 [.tmp 2, .tmp 3] t_k26 := ⟨Tryz.f26, _, Tryz.func26, rfl, rfl, rfl, rfl, by kernel_rfl⟩

section
def rdV {α : Type} (z : α) : Rs α → α
 | .ok (x, _) => x
 | .error _ => z
def qck {α : Type} (b : Bs) (r : Rs α) : Bool := decide (q3l b (rdA r) (rdE r) = 0)
theorem qe9 {α : Type} {r : Rs α} (h : ∀ e a, r = .error (e, a) → e ≠ 0) : z2g r = .ret (.tup []) ∧ rdE r = 0 ∨ z2g r = .pan gup ∧ rdE r ≠ 0 := by
 cases r with
 | ok q => exact .inl ⟨rfl, rfl⟩
 | error q => exact .inr ⟨rfl, h _ _ rfl⟩
section
variable {E : Env} {n : Nat} {Q : Ex → AS → Prop} {r : List SOp} {T : q13} {M : Mem} {t : Tmp} {x : Operand} {args : Array Operand} {ts : Array TypeId} {f F : FuncId} {g o o' bs : List AVal} {v : Int}
theorem qfv (k1 k2 : Nat) (hf : ev T x = .fn f []) (hl : evs T args.toList ++ [] = [.sl 1 bs, .fn F [.ptr k1 0, .ptr k2 0]]) (h1 : M k1 = some (.cells g)) (h2 : M k2 = some (.cells o)) (h12 : k1 ≠ k2) (hbs : q0l bs = true) (hg : g.all q0j = true) (ho : o.all q0j = true) (ho' : o'.all q0j = true)
 (he : EvM E.P f [.sl 1 bs, .fn F [.ptr 900001 0, .ptr 900002 0]] [(900001, g), (900002, o)] (.ret (.int .i64 v)) [(900001, g), (900002, o')])
 (kk : q05 E false none Q r (AS.put ⟨T, upd M k2 (some (.cells o'))⟩ (some t) (.int .i64 v))) : q05 E false none Q (⟨some t, .call ⟨.value x, args, ts⟩, none⟩ :: r) ⟨T, M⟩ := by
 have hlin : ∀ (o : List AVal) (k : Nat), lin [(900001, g), (900002, o)] k = (k == 900001 || k == 900002) := fun o k => by
  unfold lin q3y
  by_cases h1 : k = 900001
  ·subst h1; rfl
  ·by_cases h2 : k = 900002
   ·subst h2; rfl
   ·have e1 : ((900001 : Nat) == k) = false := by simpa using fun h => h1 h.symm
    have e2 : ((900002 : Nat) == k) = false := by simpa using fun h => h2 h.symm
    simp [List.find?, e1, e2, h1, h2]
 have hst : ∀ o : List AVal, o.all q0j = true → ∀ p ∈ [((900001 : Nat), g), (900002, o)], ∀ x ∈ p.2, q0j x = true := fun o ho p hp x hx => by
  simp only [List.mem_cons, List.not_mem_nil, or_false] at hp
  rcases hp with rfl | rfl
  ·exact List.all_eq_true.1 hg x hx
  ·exact List.all_eq_true.1 ho x hx
 have h21 : k2 ≠ k1 := fun e => h12 e.symm
 refine q8n (qac (s := ⟨T, M⟩) (l := [.sl 1 bs, .fn F [.ptr k1 0, .ptr k2 0]]) (m := [(900001, g), (900002, o)]) (m' := [(900001, g), (900002, o')]) (L := fun j => j == k1 || j == k2) (ρ := fun k => if k = 900001 then k1 else k2) (σ := fun j => if j = k1 then 900001 else 900002) hf hl
  (fun j hj => ?_) (fun k hk => ?_) (fun k cs hk => ?_) (hst o ho) (hst o' ho') ?_ ?_ (out := .ret (.int .i64 v)) rfl he) ?_ ?_
 ·simp only [Bool.or_eq_true, beq_iff_eq] at hj
  rcases hj with rfl | rfl
  ·simp [hlin]
  ·simp [hlin, h21]
 ·rw [hlin] at hk
  simp only [Bool.or_eq_true, beq_iff_eq] at hk
  rcases hk with rfl | rfl
  ·simp
  ·simp [h21]
 ·obtain ⟨cs', hc, hm⟩ := q20 hk
  cases hc
  simp only [List.mem_cons, List.not_mem_nil, or_false, Prod.mk.injEq] at hm
  rcases hm with ⟨rfl, rfl⟩ | ⟨rfl, rfl⟩
  ·simpa using h1
  ·simpa using h2
 ·simpa [q9o, AVal.kin, AVal.stb] using hbs
 ·simp [q8s, AVal.ren, h21]
 ·rintro y M' ⟨z, hz, rfl, rfl⟩
  cases hz
  have hM : q1s M (fun j => j == k1 || j == k2) (fun j => if j = k1 then 900001 else 900002) [(900001, g), (900002, o')] = upd M k2 (some (.cells o')) := by
   funext j
   unfold q1s
   by_cases a1 : j = k1
   ·subst a1
    rw [q0d _ _ h12]
    simp [h1, q3y]
   ·by_cases a2 : j = k2
    ·subst a2
     rw [q00]
     simp [a1, q3y]
    ·rw [q0d _ _ a2]
     simp [a1, a2]
  dsimp only
  rw [hM]
  exact kk
 ·rintro y M' ⟨z, hz, _⟩
  cases hz
end
def noZ {α : Type} (r : Rs α) : Prop := ∀ e a, r = .error (e, a) → e ≠ 0
theorem q1r {α β : Type} {r : Rs α} {f : α → Nat → Rs β} (h : noZ r) (hf : ∀ x a, noZ (f x a)) : noZ (r.bind f) := by
 cases r with
 | ok q => exact hf q.1 q.2
 | error q => intro e a he; exact h e a (by cases he; rfl)
theorem noZ_ite {α : Type} {c : Prop} [Decidable c] {x y : Rs α} (hx : noZ x) (hy : noZ y) : noZ (if c then x else y) := by
 split
 ·exact hx
 ·exact hy
theorem qbl {α : Type} (q : α × Nat) : noZ (.ok q : Rs α) := fun e a h => by cases h
theorem qkb {α : Type} {e a : Nat} (h : e ≠ 0) : noZ (.error (e, a) : Rs α) := fun e' a' h' => by cases h'; exact h
theorem q4r (m : Nat) (b : Bs) (p : Nat) : noZ (q9l m b p) := fun e a h => (rNum_err h).1
theorem qbm (m : Nat) (b : Bs) (p : Nat) : noZ (q3r m b p) := by
 unfold q3r
 cases h : q9l 9223372036854775807 b p with
 | error q => exact fun e a he => q4r _ b p e a (by rw [h, ← he])
 | ok q =>
  simp only
  split
  ·exact qkb (by decide)
  ·exact qbl _
theorem noZ_take (m : Nat) (b : Bs) (p : Nat) : noZ (q9w m b p) := by
 unfold q9w
 cases h : q9l m b p with
 | error q => exact fun e a he => q4r m b p e a (by rw [h]; cases he; rfl)
 | ok q =>
  simp only
  split
  ·exact qkb (by decide)
  ·exact qbl _
theorem qyt (m : Nat) (b : Bs) (p : Nat) : noZ (qcq m b p) := fun e a h => noZ_take m b p e a (Rs.map_error h)
theorem zao (b : Bs) : ∀ (k : Nat) (acc : List Int) (p : Nat), noZ (qlx b k acc p)
 | 0, acc, p => qbl _
 | k + 1, acc, p => by rw [qlx]; exact q1r (q4r _ _ _) fun x a => zao b k _ _
theorem qkc (vec : List Int) (b : Bs) : ∀ (k rep : Nat) (acc : List Sn) (p : Nat), noZ (q3g vec b k rep acc p)
 | 0, rep, acc, p => qbl _
 | k + 1, rep, acc, p => by
  rw [q3g]
  refine q1r (q4r _ _ _) fun x a => ?_
  split
  ·exact qkb (by decide)
  ·refine q1r (q4r _ _ _) fun x a => q1r (q4r _ _ _) fun x a => ?_
   split
   ·exact qkb (by decide)
   ·exact qkc vec b k _ _ _
theorem qev (b : Bs) (p : Nat) : noZ (q1k b p) :=
 q1r (q4r _ _ _) fun x a => q1r (zao _ _ _ _) fun x a => q1r (qbm _ _ _) fun x a => q1r (qkc _ _ _ _ _ _) fun x a => qbl _
theorem qyv (b : Bs) : ∀ (k rep next : Nat) (acc : List Ent) (p : Nat), noZ (q8x b k rep next acc p)
 | 0, rep, next, acc, p => qbl _
 | k + 1, rep, next, acc, p => by
  rw [q8x]
  exact q1r (q4r _ _ _) fun x a => q1r (q4r _ _ _) fun x a => noZ_ite (qkb (by decide)) (q1r (qyt _ _ _) fun x a => q1r (q4r _ _ _) fun x a => qyv b k _ _ _ _)
theorem qbb (b : Bs) (p : Nat) : noZ (q09 b p) := q1r (qbm _ _ _) fun x a => qyv _ _ _ _ _ _
theorem qyu (b : Bs) : ∀ (k : Nat) (acc : List Rec) (p : Nat), noZ (q8w b k acc p)
 | 0, acc, p => qbl _
 | k + 1, acc, p => by
  rw [q8w]
  exact q1r (qyt _ _ _) fun x a => q1r (qev _ _) fun x a => qyu b k _ _
theorem qb9 (b : Bs) (p : Nat) : noZ (q07 b p) := q1r (qbm _ _ _) fun x a => qyu _ _ _ _
theorem ev_k59 (b : Bs) (hb : b.length ≤ 900000000000) : Ev (En Tryz.prog rfl).P 59 [.sl 1 (q16 b), .fn 60 []] (.ret (.tup [q19 (rdV ⟨[], []⟩ (q1k b 0)), .bool (qck b (q1k b 0))])) := by
 have he := qo3 b hb 103 (rdA (q1k b 0)) (rdE (q1k b 0)) [.fn 60 []] [.nil, .nil] (rdO (q1k b 0) [.nil, .nil] z0e) rfl rfl (by
  cases q1k b 0 with
  | ok q => exact qex _
  | error q => rfl) (qo2 b hb) (qe9 fun e a h => qev b 0 e a h)
 refine Ev.of_body it_k59 (by simp) (Run.start ?_)
 unfold t_k59
 generalize hx : SC.ops false qmw = X
 (focus (have hF := @q00; (repeat' (first | refine go1 (k:=?_) | with_reducible refine Ny.of ?_ ?_ | (refine Hyp.of ?_; intro hc; (try simp only [hc]); (try simp only [Bh] at hc)))); all_goals clear hF))
 refine qfv 3 6 (by with_unfolding_all rfl) (by with_unfolding_all rfl) (by with_unfolding_all rfl) (by with_unfolding_all rfl) (by decide) (q0a b) rfl rfl (by
  cases q1k b 0 with
  | ok q => exact qex _
  | error q => rfl) he ?_
 dsimp only [AS.put]
 (focus (have hF := @q00; (repeat' (first | refine go1 (k:=?_) | with_reducible refine Ny.of ?_ ?_ | (refine Hyp.of ?_; intro hc; (try simp only [hc]); (try simp only [Bh] at hc)))); all_goals clear hF))
 have hE : (q3l b (rdA (q1k b 0)) (rdE (q1k b 0)) = 0) = (qck b (q1k b 0) = true) := by simp [qck]
 generalize q3l b (rdA (q1k b 0)) (rdE (q1k b 0)) = y at hE
 generalize qck b (q1k b 0) = yo at hE ⊢
 refine Run.wk (Wk.cells_nil (k := 6) (ds := z0e (rdV ⟨[], []⟩ (q1k b 0))) (by with_unfolding_all rfl) ?_) ?_
 ·cases q1k b 0 with
  | ok q => exact q2y _
  | error q => exact sub2
 subst hx
 generalize rdV ⟨[], []⟩ (q1k b 0) = x
 have hC : z0e x = [.sl 1 (q04 x.vec), .sl 3 (q0g x.cloud)] := rfl
 have hD : decide (yo = true) = yo := by simp
 (focus (have hF := (aI (aI @q00 @hC) (aI @hE @hD)); (repeat' (first | refine go1 (k:=?_) | with_reducible refine Ny.of ?_ ?_ | (refine Hyp.of ?_; intro hc; (try simp only [hc]); (try simp only [Bh] at hc)))); all_goals clear hF))
 exact Fin.all (xs := [q19 x, .bool yo]) rfl (by simp [q0l, AVal.stb, q0s]) rfl
theorem ev_k61 (b : Bs) (hb : b.length ≤ 900000000000) : Ev (En Tryz.prog rfl).P 61 [.sl 1 (q16 b), .fn 62 []] (.ret (.tup [.sl 4 (q1b (rdV [] (q09 b 0))), .bool (qck b (q09 b 0))])) := by
 have he := qo3 b hb 107 (rdA (q09 b 0)) (rdE (q09 b 0)) [.fn 62 []] [.nil] (rdO (q09 b 0) [.nil] qo0) rfl rfl (by
  cases q09 b 0 with
  | ok q => exact by simp [rdO, qo0, q0j, AVal.stb, q0b]
  | error q => rfl) (ql5 b hb) (qe9 fun e a h => qbb b 0 e a h)
 refine Ev.of_body it_k61 (by simp) (Run.start ?_)
 unfold t_k61
 generalize hx : SC.ops false qmu = X
 (focus (have hF := @q00; (repeat' (first | refine go1 (k:=?_) | with_reducible refine Ny.of ?_ ?_ | (refine Hyp.of ?_; intro hc; (try simp only [hc]); (try simp only [Bh] at hc)))); all_goals clear hF))
 refine qfv 3 6 (by with_unfolding_all rfl) (by with_unfolding_all rfl) (by with_unfolding_all rfl) (by with_unfolding_all rfl) (by decide) (q0a b) rfl rfl (by
  cases q09 b 0 with
  | ok q => exact by simp [rdO, qo0, q0j, AVal.stb, q0b]
  | error q => rfl) he ?_
 dsimp only [AS.put]
 (focus (have hF := @q00; (repeat' (first | refine go1 (k:=?_) | with_reducible refine Ny.of ?_ ?_ | (refine Hyp.of ?_; intro hc; (try simp only [hc]); (try simp only [Bh] at hc)))); all_goals clear hF))
 have hE : (q3l b (rdA (q09 b 0)) (rdE (q09 b 0)) = 0) = (qck b (q09 b 0) = true) := by simp [qck]
 generalize q3l b (rdA (q09 b 0)) (rdE (q09 b 0)) = y at hE
 generalize qck b (q09 b 0) = yo at hE ⊢
 refine Run.wk (Wk.cells_nil (k := 6) (ds := qo0 (rdV [] (q09 b 0))) (by with_unfolding_all rfl) ?_) ?_
 ·cases q09 b 0 with
  | ok q => exact q2y _
  | error q => exact ⟨.inr ⟨rfl, 4, rfl⟩, trivial⟩
 subst hx
 generalize rdV [] (q09 b 0) = x
 have hC : qo0 x = [.sl 4 (q1b x)] := rfl
 have hD : decide (yo = true) = yo := by simp
 (focus (have hF := (aI (aI @q00 @hC) (aI @hE @hD)); (repeat' (first | refine go1 (k:=?_) | with_reducible refine Ny.of ?_ ?_ | (refine Hyp.of ?_; intro hc; (try simp only [hc]); (try simp only [Bh] at hc)))); all_goals clear hF))
 exact Fin.all (xs := [.sl 4 (q1b x), .bool yo]) rfl (by simp [q0l, AVal.stb, q0b]) rfl
theorem ev_k65 (b : Bs) (hb : b.length ≤ 900000000000) : Ev (En Tryz.prog rfl).P 65 [.sl 1 (q16 b), .fn 66 []] (.ret (.tup [.sl 3 (q1a (rdV [] (q07 b 0))), .bool (qck b (q07 b 0))])) := by
 have he := qo3 b hb 111 (rdA (q07 b 0)) (rdE (q07 b 0)) [.fn 66 []] [.nil] (rdO (q07 b 0) [.nil] qmf) rfl rfl (by
  cases q07 b 0 with
  | ok q => exact by simp [rdO, qmf, q0j, AVal.stb, q0e]
  | error q => rfl) (qfo b hb) (qe9 fun e a h => qb9 b 0 e a h)
 refine Ev.of_body it_k65 (by simp) (Run.start ?_)
 unfold t_k65
 generalize hx : SC.ops false qmt = X
 (focus (have hF := @q00; (repeat' (first | refine go1 (k:=?_) | with_reducible refine Ny.of ?_ ?_ | (refine Hyp.of ?_; intro hc; (try simp only [hc]); (try simp only [Bh] at hc)))); all_goals clear hF))
 refine qfv 3 6 (by with_unfolding_all rfl) (by with_unfolding_all rfl) (by with_unfolding_all rfl) (by with_unfolding_all rfl) (by decide) (q0a b) rfl rfl (by
  cases q07 b 0 with
  | ok q => exact by simp [rdO, qmf, q0j, AVal.stb, q0e]
  | error q => rfl) he ?_
 dsimp only [AS.put]
 (focus (have hF := @q00; (repeat' (first | refine go1 (k:=?_) | with_reducible refine Ny.of ?_ ?_ | (refine Hyp.of ?_; intro hc; (try simp only [hc]); (try simp only [Bh] at hc)))); all_goals clear hF))
 have hE : (q3l b (rdA (q07 b 0)) (rdE (q07 b 0)) = 0) = (qck b (q07 b 0) = true) := by simp [qck]
 generalize q3l b (rdA (q07 b 0)) (rdE (q07 b 0)) = y at hE
 generalize qck b (q07 b 0) = yo at hE ⊢
 refine Run.wk (Wk.cells_nil (k := 6) (ds := qmf (rdV [] (q07 b 0))) (by with_unfolding_all rfl) ?_) ?_
 ·cases q07 b 0 with
  | ok q => exact q2y _
  | error q => exact ⟨.inr ⟨rfl, 3, rfl⟩, trivial⟩
 subst hx
 generalize rdV [] (q07 b 0) = x
 have hC : qmf x = [.sl 3 (q1a x)] := rfl
 have hD : decide (yo = true) = yo := by simp
 (focus (have hF := (aI (aI @q00 @hC) (aI @hE @hD)); (repeat' (first | refine go1 (k:=?_) | with_reducible refine Ny.of ?_ ?_ | (refine Hyp.of ?_; intro hc; (try simp only [hc]); (try simp only [Bh] at hc)))); all_goals clear hF))
 exact Fin.all (xs := [.sl 3 (q1a x), .bool yo]) rfl (by simp [q0l, AVal.stb, q0e]) rfl
def qns {α : Type} (z : α) (ok : α → Bool) (b : Bs) (r : Rs α) : α := if (qck b r && ok (rdV z r)) = true then rdV z r else z
def qz1 {α : Type} (z : α) (ok : α → Bool) (b : Bs) (r : Rs α) : Int := if (qck b r && ok (rdV z r)) = true then 0 else 8
theorem ev_k23 (b : Bs) (hb : b.length ≤ 900000000000) (hw : wt (rdV ⟨[], []⟩ (q1k b 0)) ≤ 40000000) : Ev (En Tryz.prog rfl).P 23 [.sl 1 (q16 b)] (.ret (.tup [q19 (qns ⟨[], []⟩ q0t b (q1k b 0)), .int .i64 (qz1 ⟨[], []⟩ q0t b (q1k b 0))])) := by
 refine Ev.of_body it_k23 (by simp) (AW.wkEnd (Run.start ?_))
 unfold t_k23
 (focus (have hF := @q00; (repeat' (first | refine go1 (k:=?_) | with_reducible refine Ny.of ?_ ?_ | (refine Hyp.of ?_; intro hc; (try simp only [hc]); (try simp only [Bh] at hc)))); all_goals clear hF))
 refine q02 [.sl 1 (q16 b), .fn 60 []] (he := ev_k59 b hb) (k:=?_)
 unfold qns qz1
 generalize rdV ⟨[], []⟩ (q1k b 0) = x at *
 generalize qck b (q1k b 0) = yo
 unfold q19
 cases yo with
 | false =>
  (focus (have hF := @q00; (repeat' (first | refine go1 (k:=?_) | with_reducible refine Ny.of ?_ ?_ | (refine Hyp.of ?_; intro hc; (try simp only [hc]); (try simp only [Bh] at hc)))); all_goals clear hF))
  exact Fin.done ⟨_, Wk.cells_nil (k := 2) rfl sub2, [q19 ⟨[], []⟩, .int .i64 8], by with_unfolding_all rfl, by simp [q0l, q0s, AVal.stb], _, q2y _, rfl⟩
 | true =>
  (focus (have hF := @q00; (repeat' (first | refine go1 (k:=?_) | with_reducible refine Ny.of ?_ ?_ | (refine Hyp.of ?_; intro hc; (try simp only [hc]); (try simp only [Bh] at hc)))); all_goals clear hF))
  refine q02 [q19 x] (he := zbj x hw) (k:=?_)
  cases hn : q0t x with
  | false =>
   (focus (have hF := @q00; (repeat' (first | refine go1 (k:=?_) | with_reducible refine Ny.of ?_ ?_ | (refine Hyp.of ?_; intro hc; (try simp only [hc]); (try simp only [Bh] at hc)))); all_goals clear hF))
   exact Fin.done ⟨_, Wk.cells_nil (k := 2) rfl sub2, [q19 ⟨[], []⟩, .int .i64 8], by with_unfolding_all rfl, by simp [q0l, q0s, AVal.stb], _, q2y _, rfl⟩
  | true =>
   (focus (have hF := @q00; (repeat' (first | refine go1 (k:=?_) | with_reducible refine Ny.of ?_ ?_ | (refine Hyp.of ?_; intro hc; (try simp only [hc]); (try simp only [Bh] at hc)))); all_goals clear hF))
   exact Fin.done ⟨_, Wk.refl _ _, [q19 x, .int .i64 0], by with_unfolding_all rfl, by simp [q0l, q0s, AVal.stb], _, q2y _, rfl⟩
theorem zbn (b : Bs) (hb : b.length ≤ 900000000000) (hw : (rdV [] (q09 b 0)).length ≤ 1000000000) : Ev (En Tryz.prog rfl).P 24 [.sl 1 (q16 b)] (.ret (.tup [.sl 4 (q1b (qns [] q3z b (q09 b 0))), .int .i64 (qz1 [] q3z b (q09 b 0))])) := by
 refine Ev.of_body it_k24 (by simp) (Run.start ?_)
 unfold t_k24
 have hS := qgw
 (focus (have hF := @q00; (repeat' (first | refine go1 (k:=?_) | with_reducible refine Ny.of ?_ ?_ | (refine Hyp.of ?_; intro hc; (try simp only [hc]); (try simp only [Bh] at hc)))); all_goals clear hF))
 refine q02 [.sl 1 (q16 b), .fn 62 []] (he := ev_k61 b hb) (k:=?_)
 unfold qns qz1
 generalize rdV [] (q09 b 0) = x at *
 generalize qck b (q09 b 0) = yo
 cases yo with
 | false =>
  (focus (have hF := @q00; (repeat' (first | refine go1 (k:=?_) | with_reducible refine Ny.of ?_ ?_ | (refine Hyp.of ?_; intro hc; (try simp only [hc]); (try simp only [Bh] at hc)))); all_goals clear hF))
  exact Fin.two rfl rfl rfl rfl (.inr ⟨rfl, 4, rfl⟩) (.inl rfl)
 | true =>
  (focus (have hF := @q00; (repeat' (first | refine go1 (k:=?_) | with_reducible refine Ny.of ?_ ?_ | (refine Hyp.of ?_; intro hc; (try simp only [hc]); (try simp only [Bh] at hc)))); all_goals clear hF))
  refine q02 [.sl 4 (q1b x)] (he := ev_k49 x hw) (k:=?_)
  cases hn : q3z x with
  | false =>
   (focus (have hF := @q00; (repeat' (first | refine go1 (k:=?_) | with_reducible refine Ny.of ?_ ?_ | (refine Hyp.of ?_; intro hc; (try simp only [hc]); (try simp only [Bh] at hc)))); all_goals clear hF))
   exact Fin.two rfl rfl rfl rfl (.inr ⟨rfl, 4, rfl⟩) (.inl rfl)
  | true =>
   (focus (have hF := @q00; (repeat' (first | refine go1 (k:=?_) | with_reducible refine Ny.of ?_ ?_ | (refine Hyp.of ?_; intro hc; (try simp only [hc]); (try simp only [Bh] at hc)))); all_goals clear hF))
   exact Fin.two (y := .sl 4 (q1b x)) rfl (q0b x) rfl rfl (.inl rfl) (.inl rfl)
theorem zbm (b : Bs) (hb : b.length ≤ 900000000000) (hl : (rdV [] (q07 b 0)).length ≤ 1000000000) (hw : ∀ r ∈ rdV [] (q07 b 0), wt r.past ≤ 40000000) : Ev (En Tryz.prog rfl).P 26 [.sl 1 (q16 b)] (.ret (.tup [.sl 3 (q1a (qns [] q4f b (q07 b 0))), .int .i64 (qz1 [] q4f b (q07 b 0))])) := by
 refine Ev.of_body it_k26 (by simp) (Run.start ?_)
 unfold t_k26
 have hS := qgw
 (focus (have hF := @q00; (repeat' (first | refine go1 (k:=?_) | with_reducible refine Ny.of ?_ ?_ | (refine Hyp.of ?_; intro hc; (try simp only [hc]); (try simp only [Bh] at hc)))); all_goals clear hF))
 refine q02 [.sl 1 (q16 b), .fn 66 []] (he := ev_k65 b hb) (k:=?_)
 unfold qns qz1
 generalize rdV [] (q07 b 0) = x at *
 generalize qck b (q07 b 0) = yo
 cases yo with
 | false =>
  (focus (have hF := @q00; (repeat' (first | refine go1 (k:=?_) | with_reducible refine Ny.of ?_ ?_ | (refine Hyp.of ?_; intro hc; (try simp only [hc]); (try simp only [Bh] at hc)))); all_goals clear hF))
  exact Fin.two rfl rfl rfl rfl (.inr ⟨rfl, 3, rfl⟩) (.inl rfl)
 | true =>
  (focus (have hF := @q00; (repeat' (first | refine go1 (k:=?_) | with_reducible refine Ny.of ?_ ?_ | (refine Hyp.of ?_; intro hc; (try simp only [hc]); (try simp only [Bh] at hc)))); all_goals clear hF))
  refine q02 [.sl 3 (q1a x)] (he := q8g x hl hw) (k:=?_)
  cases hn : q4f x with
  | false =>
   (focus (have hF := @q00; (repeat' (first | refine go1 (k:=?_) | with_reducible refine Ny.of ?_ ?_ | (refine Hyp.of ?_; intro hc; (try simp only [hc]); (try simp only [Bh] at hc)))); all_goals clear hF))
   exact Fin.two rfl rfl rfl rfl (.inr ⟨rfl, 3, rfl⟩) (.inl rfl)
  | true =>
   (focus (have hF := @q00; (repeat' (first | refine go1 (k:=?_) | with_reducible refine Ny.of ?_ ?_ | (refine Hyp.of ?_; intro hc; (try simp only [hc]); (try simp only [Bh] at hc)))); all_goals clear hF))
   exact Fin.two (y := .sl 3 (q1a x)) rfl (q0e x) rfl rfl (.inl rfl) (.inl rfl)
end
theorem qf7 (t : Tab) (r : Nat) : 0 ≤ q5j t r ∧ q5j t r ≤ 1000000000 ∧ (q49 t r).Pairwise qmb ∧ ∀ x ∈ q49 t r, okR x ∧ q5j t r + 2 ≤ x.1 := by
 unfold q5j q49
 have hc := q2j (t.getD r [])
 cases hl : q11 (t.getD r []) with
 | nil => simp [q1n]
 | cons x l =>
  rw [hl] at hc
  have hp := hc.1
  have ho := hc.2
  have hx : okR x := ho x (by simp)
  rw [List.pairwise_cons] at hp
  unfold okR at hx
  by_cases h1 : x.1 = 1
  ·rw [qab h1]
   refine ⟨by simp only; omega, by simp only; omega, hp.2, fun y hy => ⟨ho y (by simp [hy]), ?_⟩⟩
   have := hp.1 y hy
   unfold qmb at this
   simp only
   omega
  ·rw [qaa h1]
   refine ⟨by simp, by simp, by simp only; rw [List.pairwise_cons]; exact hp, fun y hy => ⟨ho y hy, ?_⟩⟩
   simp only at hy ⊢
   rcases List.mem_cons.1 hy with rfl | hy
   ·omega
   ·have := hp.1 y hy
    unfold qmb at this
    omega
theorem lowI_T (t : Tab) {r : Nat} (hr : r < 16) : lowI (q63 t).vec r = q5j t r + 2 := by
 unfold lowI q63
 simp only
 rw [List.getElem?_take]
 by_cases h : r < q2w t 16
 ·rw [if_pos h, z0i t hr]
 ·rw [if_neg h]
  have h1 := qd3 t 16 r hr (by omega)
  have h2 := (qf7 t r).1
  simp only
  omega
theorem z00 {vec : List Int} : ∀ {l sf m : List Sn}, zct vec sf l → zct vec (sf ++ l) m → zct vec sf (l ++ m)
 | [], sf, m, _, h => by simpa using h
 | x :: l, sf, m, h1, h2 => ⟨h1.1, z00 h1.2 (by simpa using h2)⟩
theorem qno {vec : List Int} {r : Nat} (sf : List Sn) (lo hi : Int) : q1q vec r (sf ++ [((r : Int), lo, hi)]) = hi + 2 := by
 unfold q1q
 rw [List.getLast?_append]
 simp
theorem qzy {vec : List Int} {r : Nat} (hr : r ≤ 15) : ∀ (xs : List Rn) (sf : List Sn), xs.Pairwise qmb → (∀ x ∈ xs, okR x) → 0 ≤ q51 sf → q51 sf ≤ (r : Int) → (∀ x ∈ xs, q1q vec r sf ≤ x.1) → zct vec sf (xs.map (q3p r))
 | [], sf, _, _, _, _, _ => trivial
 | x :: xs, sf, hp, ho, h1, h2, h3 => by
  rw [List.pairwise_cons] at hp
  have hx := ho x (by simp)
  unfold okR at hx
  refine ⟨⟨h1, h2, by simp only [q3p]; omega, ?_, by simp only [q3p]; omega, by simp only [q3p]; omega⟩, qzy hr xs _ hp.2 (fun y hy => ho y (by simp [hy])) ?_ ?_ fun y hy => ?_⟩
  ·simp only [q3p, Int.toNat_natCast]
   exact h3 x (by simp)
  ·rw [q50]
   simp only [q3p]
   omega
  ·rw [q50]
   simp only [q3p]
   omega
  ·have := hp.1 y hy
   unfold qmb at this
   unfold q3p
   rw [qno]
   omega
theorem qlb (t : Tab) : ∀ n, n ≤ 16 → zct (q63 t).vec [] (q18 t n) ∧ ∀ s ∈ q18 t n, 0 ≤ s.1 ∧ s.1 < (n : Int)
 | 0, _ => ⟨trivial, fun s hs => by simp [q18] at hs⟩
 | n + 1, hn => by
  obtain ⟨h1, h2⟩ := qlb t n (by omega)
  obtain ⟨l1, l2, l3, l4⟩ := qf7 t n
  rw [q4d]
  have hrep : 0 ≤ q51 (q18 t n) ∧ q51 (q18 t n) ≤ (n : Int) := by
   unfold q51
   cases hg : (q18 t n).getLast? with
   | none => simp only; omega
   | some s => have := h2 s (List.mem_of_getLast? hg); simp only; omega
  have hle : q1q (q63 t).vec n (q18 t n) = q5j t n + 2 := by
   rw [← lowI_T t (by omega : n < 16)]
   unfold q1q
   cases hg : (q18 t n).getLast? with
   | none => rfl
   | some s =>
    have := h2 s (List.mem_of_getLast? hg)
    simp only
    rw [if_neg (by omega)]
  refine ⟨z00 h1 ?_, fun s hs => ?_⟩
  ·rw [List.nil_append]
   refine qzy (by omega) _ _ l3 (fun x hx => (l4 x hx).1) hrep.1 hrep.2 fun x hx => ?_
   rw [hle]
   exact (l4 x hx).2
  ·rcases List.mem_append.1 hs with hs | hs
   ·have := h2 s hs; omega
   ·simp only [q5o, List.mem_map] at hs
    obtain ⟨x, _, rfl⟩ := hs
    simp only [q3p]
    omega
theorem pastT_PF (t : Tab) : PF (q63 t) := by
 refine ⟨?_, fun x hx => ?_, (qlb t 16 (Nat.le_refl _)).1⟩
 ·show ((q22 t 16).take (q2w t 16)).length ≤ 16
  rw [List.length_take, q2b]
  omega
 ·have hx : x ∈ q22 t 16 := List.mem_of_mem_take hx
  simp only [q22, List.mem_map] at hx
  obtain ⟨r, _, rfl⟩ := hx
  exact ⟨(qf7 t r).1, (qf7 t r).2.1⟩
theorem q44 {p : Pst} (h : q0t p = true) : PF p := by
 have := q5k.1 h
 unfold CanP at this
 rw [← this]
 exact pastT_PF _
theorem qzz {vec : List Int} : ∀ {l sf : List Sn} {i : Nat} {s : Sn}, zct vec sf l → l[i]? = some s → spanF vec (sf ++ l.take i) s
 | [], sf, i, s, _, h => by simp at h
 | x :: l, sf, 0, s, hc, h => by simp at h; subst h; simpa using hc.1
 | x :: l, sf, i + 1, s, hc, h => by
  have := qzz hc.2 (by simpa using h)
  simpa using this
theorem zcs {vec : List Int} (hv : zaj vec) : ∀ {l sf : List Sn}, zal sf → zct vec sf l → zal (sf ++ l)
 | [], sf, h, _ => by simpa using h
 | x :: l, sf, h, hc => by
  have := zcs hv (qbi hv h hc.1) hc.2
  simpa using this
theorem PF.pw {p : Pst} (h : PF p) (hl : p.cloud.length ≤ 1000000000) : PW p := by
 have hcr : zal p.cloud := by simpa using zcs h.v (fun s hs => by cases hs) h.c
 have := h.vl
 refine ⟨by omega, h.v, hl, hcr, fun i s hs => ?_⟩
 have h1 := qzz h.c hs
 rw [List.nil_append] at h1
 obtain ⟨q1, q2, q3, q4, q5, q6⟩ := h1
 exact ⟨q1, q2, by omega, q4, q5, q6⟩
theorem EntsF_of {l : List Ent} : ∀ {sf : List Ent}, (∀ (i : Nat) e, l[i]? = some e → entF (sf ++ l.take i) e) → qoj sf l := by
 induction l with
 | nil => intro sf _; trivial
 | cons x l ih =>
  intro sf h
  refine ⟨by simpa using h 0 x rfl, ih fun i e he => ?_⟩
  have := h (i + 1) e (by simpa using he)
  simpa using this
theorem qc7 {e : Ent} (h : q3s e = 0) : 0 ≤ e.rep ∧ e.rep ≤ 15 ∧ 1 ≤ e.num ∧ e.num ≤ 1000000000 ∧ q68 e.sku = true ∧ 1 ≤ e.qty ∧ e.qty ≤ 1000000 := by
 unfold q3s at h
 by_cases h1 : e.rep < 0 ∨ 16 ≤ e.rep
 ·rw [if_pos h1] at h; omega
 ·rw [if_neg h1] at h
  by_cases h2 : e.num < 1 ∨ 1000000000 < e.num
  ·rw [if_pos h2] at h; omega
  ·rw [if_neg h2] at h
   by_cases h3 : q68 e.sku = false
   ·rw [if_pos h3] at h; omega
   ·rw [if_neg h3] at h
    by_cases h4 : e.qty < 1 ∨ 1000000 < e.qty
    ·rw [if_pos h4] at h; omega
    ·refine ⟨by omega, by omega, by omega, by omega, by simpa using h3, by omega, by omega⟩
theorem q92 {s : ByteArray} (h : q68 s = true) : 1 ≤ s.size ∧ s.size ≤ 24 := by
 unfold q68 qfz at h
 by_cases h1 : s.size = 0
 ·rw [if_pos h1] at h; simp at h
 ·rw [if_neg h1] at h
  by_cases h2 : 24 < s.size
  ·rw [if_pos h2] at h; simp at h
  ·omega
theorem qdh {l : List Ent} (h : q3z l = true) (i : Nat) (e : Ent) (he : l[i]? = some e) : entF (l.take i) e := by
 obtain ⟨h1, h2⟩ := qkk.1 h
 obtain ⟨a1, a2, a3, a4, a5, a6, a7⟩ := qc7 (h1 i e he)
 have a8 := q92 a5
 cases i with
 | zero =>
  refine ⟨by simp [qb6], by simp [qb6]; omega, a2, by simp [q5y], by simp [q5y], ?_, a4, a8.2, a6, by omega⟩
  unfold q4g
  simp only [List.take_zero, qb6, q5y, List.getLast?_nil, ite_self]
  omega
 | succ j =>
  have hlt : j + 1 < l.length := (List.getElem?_eq_some_iff.1 he).1
  have hg : l[j]? = some (l[j]) := List.getElem?_eq_getElem (by omega)
  obtain ⟨b1, b2, b3, b4, b5, b6, b7⟩ := qc7 (h1 j _ hg)
  have hd := h2 j _ _ hg he
  rw [q48 hg]
  generalize l[j] = x at *
  have hdl : x.rep < e.rep ∨ (x.rep = e.rep ∧ x.num < e.num) := by
   unfold q5z Ent.dot at hd
   simpa using hd
  refine ⟨by rw [q4z]; omega, by rw [q4z]; omega, a2, by rw [q41]; omega, by rw [q41]; omega, ?_, a4, a8.2, a6, by omega⟩
  unfold q4g
  rw [q4z, q41]
  split <;> omega
theorem qc0 {l : List Ent} (h : q3z l = true) : qoj [] l := EntsF_of fun i e he => by
 rw [List.nil_append]
 exact qdh h i e he
theorem qad {l : List Ent} (hl : l.length ≤ 100000000) (h : q3z l = true) : EW l := ⟨hl, fun i e he => by
 obtain ⟨q1, q2, q3, q4, q5, q6, q7, q8, q9, q10⟩ := qdh h i e he
 exact ⟨q1, q2, by omega, q4, by omega, q6, q7, by omega, q9, by omega⟩⟩
theorem qz5 {l : List Ent} (h : q3z l = true) : ∀ e ∈ l, 1 ≤ e.sku.size ∧ e.qty ≤ 1000000 := fun e he => by
 obtain ⟨i, hi⟩ := List.mem_iff_getElem?.1 he
 obtain ⟨a1, a2, a3, a4, a5, a6, a7⟩ := qc7 ((qkk.1 h).1 i e hi)
 exact ⟨(q92 a5).1, a7⟩
theorem size_empty : q7t ⟨[], []⟩ = 0 := by
 have h : q23 [⟨[], []⟩] = List.replicate 16 [] := by decide
 have n0 : q11 [] = [] := q1m Can.nil
 unfold q7t q1t
 rw [h]
 have : ∀ r, (List.replicate 16 ([] : List Rn)).getD r [] = [] := fun r => by
  rw [List.getD_eq_getElem?_getD, List.getElem?_replicate]
  split <;> rfl
 simp only [this, n0]
 rfl
theorem q8b {l : List Rec} (h : q4f l = true) : ∀ r ∈ l, (r.sku.size ≤ 24 ∧ PF r.past) ∧ (r.past.vec ≠ [] ∨ r.past.cloud ≠ []) := fun r hr => by
 obtain ⟨i, hi⟩ := List.mem_iff_getElem?.1 hr
 have he := (zb8.1 h).1 i r hi
 unfold q3q at he
 by_cases h1 : ¬ r.sku.size = 0 ∧ q68 r.sku = false
 ·rw [if_pos h1] at he; omega
 ·rw [if_neg h1] at he
  by_cases h2 : q0t r.past = false ∨ q7t r.past = 0
  ·rw [if_pos h2] at he; omega
  ·have hn : q0t r.past = true := by
    cases hq : q0t r.past with
    | true => rfl
    | false => exact absurd (.inl hq) h2
   refine ⟨⟨?_, q44 hn⟩, ?_⟩
   ·by_cases h0 : r.sku.size = 0
    ·omega
    ·refine (q92 ?_).2
     cases hg : q68 r.sku with
     | true => rfl
     | false => exact absurd ⟨h0, hg⟩ h1
   ·by_cases hv : r.past.vec = []
    ·refine .inr fun hc => h2 (.inr ?_)
     obtain ⟨s, ⟨v, c⟩⟩ := r
     simp only at hv hc
     subst hv
     subst hc
     exact size_empty
    ·exact .inl hv
theorem qmg {b : Bs} : q3l b b.length 0 = 0 := by simp [q3l]
theorem qpl {α : Type} {b : Bs} {r : Rs α} (hz : noZ r) (hle : ∀ x a, r = .ok (x, a) → a ≤ b.length) : qck b r = true ↔ ∃ x, r = .ok (x, b.length) := by
 unfold qck
 rw [decide_eq_true_eq]
 constructor
 ·intro h
  cases hr : r with
  | error q =>
   obtain ⟨e, a⟩ := q
   rw [hr] at h
   have he := hz e a hr
   simp only [rdE, rdA, q3l, if_neg he] at h
   omega
  | ok q =>
   obtain ⟨x, a⟩ := q
   rw [hr] at h
   have := hle x a hr
   change q3l b a 0 = 0 at h
   by_cases hlt : a < b.length
   ·have h52 : q3l b a 0 = 52 := by simp [q3l, hlt]
    omega
   ·exact ⟨x, by rw [show a = b.length by omega]⟩
 ·rintro ⟨x, rfl⟩
  exact qmg

def fixP : Pst := ⟨[4], [(0, 6, 12), (1, 2, 2)]⟩
def qnv : List Ent := [⟨2, 1, ⟨#[65]⟩, 5⟩]
def qlz : List Rec := [⟨⟨#[]⟩, ⟨[1], []⟩⟩]
def z0p : Bs := [1, 4, 2, 0, 0, 6, 1, 0, 0]
def qfg : Bs := [1, 2, 0, 1, 65, 4]
def qff : Bs := [1, 0, 1, 1, 0]
theorem qka {p : Pst} {m : Tab} (h : q23 [p] = m) (hm : m.map q11 = m) : q25 p = pastN m := by
 unfold q25
 rw [qne, h, hm]
theorem zba : q0t fixP = true := by
 refine q5k.2 ?_
 unfold CanP
 have h : q23 [fixP] = [[(1, 4), (6, 12)], [(2, 2)], [], [], [], [], [], [], [], [], [], [], [], [], [], []] := by decide
 have n0 : q11 [] = [] := q1m Can.nil
 have n1 : q11 [(1, 4), (6, 12)] = [(1, 4), (6, 12)] := q1m ⟨by simp [qmb], by simp [okR]⟩
 have n2 : q11 [(2, 2)] = [(2, 2)] := q1m ⟨by simp, by simp [okR]⟩
 rw [qka h (by simp only [List.map_cons, List.map_nil, n0, n1, n2])]
 rfl
theorem qk6 : q0t ⟨[1], []⟩ = true := by
 refine q5k.2 ?_
 unfold CanP
 have h : q23 [⟨[1], []⟩] = [[(1, 1)], [], [], [], [], [], [], [], [], [], [], [], [], [], [], []] := by decide
 have n0 : q11 [] = [] := q1m Can.nil
 have n1 : q11 [(1, 1)] = [(1, 1)] := q1m ⟨by simp, by simp [okR]⟩
 rw [qka h (by simp only [List.map_cons, List.map_nil, n0, n1])]
 rfl
theorem qk5 : q7t ⟨[1], []⟩ ≠ 0 := by
 have h : q23 [⟨[1], []⟩] = [[(1, 1)], [], [], [], [], [], [], [], [], [], [], [], [], [], [], []] := by decide
 have n0 : q11 [] = [] := q1m Can.nil
 have n1 : q11 [(1, 1)] = [(1, 1)] := q1m ⟨by simp, by simp [okR]⟩
 unfold q7t q1t
 rw [h]
 have hr : List.range 16 = [0, 1, 2, 3, 4, 5, 6, 7, 8, 9, 10, 11, 12, 13, 14, 15] := rfl
 rw [hr]
 simp [n0, n1, qe6, q17]
theorem z0o : q2p fixP = z0p := by
 have e1 : q1q [4] 0 [] = 6 := rfl
 have e2 : q1q [4] 1 [(0, 6, 12)] = 2 := rfl
 simp [q2p, qcn, q27, qco, fixP, z0p, q51, e1, e2, q5g]
theorem z0q : q0y qnv = qfg := by
 have e0 : ByteArray.size ⟨#[65]⟩ = 1 := rfl
 simp [q0y, q4b, entB, qnv, qfg, qb6, q5y, q4g, q5g, e0]
theorem z0n : q0r qlz = qff := by
 have e0 : ByteArray.size ⟨#[]⟩ = 0 := rfl
 simp [q0r, q2i, z2f, q2p, qcn, q27, qlz, qff, q5g, e0]
theorem qc2 : q3z qnv = true := by
 refine q94 ⟨fun i e he => ?_, fun i a b ha hb => ?_⟩
 ·match i with
  | 0 =>
   simp [qnv] at he
   subst he
   decide
  | i + 1 => simp [qnv] at he
 ·match i with
  | 0 => simp [qnv] at hb
  | i + 1 => simp [qnv] at hb
theorem qc1 : q4f qlz = true := by
 refine q93 ⟨fun i r he => ?_, fun i a b ha hb => ?_⟩
 ·match i with
  | 0 =>
   simp [qlz] at he
   subst he
   have e0 : ByteArray.size ⟨#[]⟩ = 0 := rfl
   simp [q3q, qk6, qk5, e0]
  | i + 1 => simp [qlz] at he
 ·match i with
  | 0 => simp [qlz] at hb
  | i + 1 => simp [qlz] at hb

def z38 : List SOp := [zO 2 (.assign (.const (.slice none 0 0)))]
instance : Live z38 := ⟨[0]⟩
def z37 : List SOp := [zM 3 0,zO 4 (.binOp .eql 28 (.tmp 3) (.const (.slice none 0 0)) 28)]
instance : Live z37 := ⟨[0]⟩
def z36 : List SOp := [zO 2 (.assign (.const (.slice none 0 0)))]
instance : Live z36 := ⟨[]⟩
def z35 : List SOp := [zO 5 (.buildSlice 28 0 #[]),zM 6 0,zO 7 (.call ⟨.builtin .append,#[.tmp 5,.tmp 6],#[28,28]⟩),zG 2 7]
instance : Live z35 := ⟨[0]⟩
def t_k94 : SC :=
 (.seq (.ops false z38) (.seq (.seq (.ops false z37) (.cond (.tmp 4) (.seq (.ops false z36) .ret) .skip)) (.seq (.ops false z35) .ret)))
theorem it_k94 : FnIs Tryz.prog 94 8 [.tmp 2] t_k94 := ⟨Tryz.f94, _, Tryz.func94, rfl, rfl, rfl, rfl, by kernel_rfl⟩

def z78 : List SOp := [zO 2 (.assign (.const (.slice none 0 0))),zO 3 (.assign (.const (.int .i64 0)))]
instance : Live z78 := ⟨[0]⟩
def z75 : List SOp := [zM 4 0,zO 5 (.binOp .eql 92 (.tmp 4) (.const (.pointer none)) 92),zM 6 5,⟨some 7,.move (.tmp 0),some ((some 6),false)⟩,⟨some 8,.nilCheck (.tmp 7),some ((some 6),false)⟩,⟨some 9,.fieldAddr 91 (.tmp 8) 1,some ((some 6),false)⟩,⟨some 10,.load 4 (.tmp 9),some ((some 6),false)⟩,zO 11 (.pick (.tmp 6) (.const (.bool true)) (.tmp 10))]
instance : Live z75 := ⟨[0]⟩
def z74 : List SOp := [zO 2 (.assign (.const (.slice none 0 0))),zO 3 (.assign (.const (.int .i64 2)))]
instance : Live z74 := ⟨[]⟩
def z73 : List SOp := [zM 12 0,zO 13 (.nilCheck (.tmp 12)),zF 14 91 13 0,zL 15 28 14,zO 16 (.call ⟨.value (.func 94),#[.tmp 15],#[28]⟩),zG 2 16,zO 3 (.assign (.const (.int .i64 0)))]
instance : Live z73 := ⟨[0]⟩
def t_k48 : SC :=
 (.seq (.ops false z78) (.seq (.seq (.ops false z75) (.cond (.tmp 11) (.seq (.ops false z74) .ret) .skip)) (.seq (.ops false z73) .ret)))
theorem it_k48 : FnIs Tryz.prog 48 17 [.tmp 2, .tmp 3] t_k48 := ⟨Tryz.f48, _, Tryz.func48, rfl, rfl, rfl, rfl, by kernel_rfl⟩

def z7h : List SOp := [zO 0 (.assign (.const (.pointer none)))]
instance : Live z7h := ⟨[]⟩
def z7g : List SOp := [zO 1 (.build 91 #[]),zO 2 (.box 91 (.tmp 1)),zG 0 2]
instance : Live z7g := ⟨[]⟩
def t_k46 : SC :=
 (.seq (.ops false z7h) (.seq (.ops false z7g) .ret))
theorem it_k46 : FnIs Tryz.prog 46 3 [.tmp 0] t_k46 := ⟨Tryz.f46, _, Tryz.func46, rfl, rfl, rfl, rfl, by kernel_rfl⟩

def za2 : List SOp := [zO 1 (.box 25 (.tmp 0)),zO 2 (.assign (.const (.slice none 0 0))),zO 3 (.assign (.const (.int .i64 0)))]
instance : Live za2 := ⟨[0]⟩
def za1 : List SOp := [zL 5 25 1,zO 6 (.call ⟨.value (.func 45),#[.tmp 5],#[25]⟩),zO 7 (.unOp .not 4 (.tmp 6))]
instance : Live za1 := ⟨[1]⟩
def za0 : List SOp := [zO 2 (.assign (.const (.slice none 0 0))),zO 3 (.assign (.const (.int .i64 1)))]
instance : Live za0 := ⟨[]⟩
def z9z : List SOp := [zO 8 (.call ⟨.value (.func 46),#[],#[]⟩),zO 9 (.nilCheck (.tmp 8)),zL 10 91 9,zO 11 (.build 95 #[(0,.tmp 10)]),zO 4 (.alloc 95),⟨none,.store 95 (.tmp 4) (.tmp 11),none⟩]
instance : Live z9z := ⟨[1]⟩
def qnd : List SOp := [zL 12 25 1,zO 13 (.call ⟨.value (.func 47),#[.tmp 4,.tmp 12],#[95,25]⟩)]
instance : Live qnd := ⟨[1,4]⟩
def z9y : List SOp := [zF 14 95 4 0,zO 15 (.call ⟨.value (.func 48),#[.tmp 14],#[91]⟩),zX 16 15 0,zX 17 15 1,zG 2 16,zG 3 17]
instance : Live z9y := ⟨[4]⟩
def t_k12 : SC :=
 (.seq (.ops false za2) (.seq (.seq (.ops false za1) (.cond (.tmp 7) (.seq (.ops false za0) .ret) .skip)) (.seq (.ops false z9z) (.seq (.ops false qnd) (.seq (.ops false z9y) .ret)))))
theorem it_k12 : FnIs Tryz.prog 12 18 [.tmp 2, .tmp 3] t_k12 := ⟨Tryz.f12, _, Tryz.func12, rfl, rfl, rfl, rfl, by kernel_rfl⟩

def z9m : List SOp := [zO 2 (.assign (.const (.slice none 0 0))),zO 3 (.assign (.const (.int .i64 0)))]
instance : Live z9m := ⟨[0]⟩
def z9l : List SOp := [zM 5 0,zO 6 (.call ⟨.value (.func 49),#[.tmp 5],#[26]⟩),zO 7 (.binOp .neq 35 (.tmp 6) (.const (.int .i64 0)) 35)]
instance : Live z9l := ⟨[0]⟩
def z9k : List SOp := [zO 2 (.assign (.const (.slice none 0 0))),zO 3 (.assign (.const (.int .i64 1)))]
instance : Live z9k := ⟨[]⟩
def z9j : List SOp := [zO 8 (.call ⟨.value (.func 46),#[],#[]⟩),zO 9 (.nilCheck (.tmp 8)),zL 10 91 9,zO 11 (.build 95 #[(0,.tmp 10)]),zO 4 (.alloc 95),⟨none,.store 95 (.tmp 4) (.tmp 11),none⟩]
instance : Live z9j := ⟨[0]⟩
def qnc : List SOp := [zM 12 0,zO 13 (.call ⟨.value (.func 50),#[.tmp 4,.tmp 12],#[95,26]⟩)]
instance : Live qnc := ⟨[0,4]⟩
def z9i : List SOp := [zF 14 95 4 0,zO 15 (.call ⟨.value (.func 48),#[.tmp 14],#[91]⟩),zX 16 15 0,zX 17 15 1,zG 2 16,zG 3 17]
instance : Live z9i := ⟨[4]⟩
def t_k15 : SC :=
 (.seq (.ops false z9m) (.seq (.seq (.ops false z9l) (.cond (.tmp 7) (.seq (.ops false z9k) .ret) .skip)) (.seq (.ops false z9j) (.seq (.ops false qnc) (.seq (.ops false z9i) .ret)))))
theorem it_k15 : FnIs Tryz.prog 15 18 [.tmp 2, .tmp 3] t_k15 := ⟨Tryz.f15, _, Tryz.func15, rfl, rfl, rfl, rfl, by kernel_rfl⟩

def z8z : List SOp := [zO 2 (.assign (.const (.slice none 0 0))),zO 3 (.assign (.const (.int .i64 0)))]
instance : Live z8z := ⟨[0]⟩
def z8y : List SOp := [zM 5 0,zO 6 (.call ⟨.value (.func 57),#[.tmp 5],#[27]⟩),zO 7 (.binOp .neq 35 (.tmp 6) (.const (.int .i64 0)) 35)]
instance : Live z8y := ⟨[0]⟩
def z8x : List SOp := [zO 2 (.assign (.const (.slice none 0 0))),zO 3 (.assign (.const (.int .i64 1)))]
instance : Live z8x := ⟨[]⟩
def z8w : List SOp := [zO 8 (.call ⟨.value (.func 46),#[],#[]⟩),zO 9 (.nilCheck (.tmp 8)),zL 10 91 9,zO 11 (.build 95 #[(0,.tmp 10)]),zO 4 (.alloc 95),⟨none,.store 95 (.tmp 4) (.tmp 11),none⟩]
instance : Live z8w := ⟨[0]⟩
def qnb : List SOp := [zM 12 0,zO 13 (.call ⟨.value (.func 58),#[.tmp 4,.tmp 12],#[95,27]⟩)]
instance : Live qnb := ⟨[0,4]⟩
def z8v : List SOp := [zF 14 95 4 0,zO 15 (.call ⟨.value (.func 48),#[.tmp 14],#[91]⟩),zX 16 15 0,zX 17 15 1,zG 2 16,zG 3 17]
instance : Live z8v := ⟨[4]⟩
def t_k20 : SC :=
 (.seq (.ops false z8z) (.seq (.seq (.ops false z8y) (.cond (.tmp 7) (.seq (.ops false z8x) .ret) .skip)) (.seq (.ops false z8w) (.seq (.ops false qnb) (.seq (.ops false z8v) .ret)))))
theorem it_k20 : FnIs Tryz.prog 20 18 [.tmp 2, .tmp 3] t_k20 := ⟨Tryz.f20, _, Tryz.func20, rfl, rfl, rfl, rfl, by kernel_rfl⟩

theorem ev_k94 (b : Bs) (h0 : b ≠ []) (hl : b.length ≤ 900000000000) : Ev (En Tryz.prog rfl).P 94 [.sl 1 (q16 b)] (.ret (.sl 1 (q16 b))) := by
 refine Ev.of_body it_k94 (by simp) (Run.start ?_)
 unfold t_k94
 cases b with
 | nil => exact absurd rfl h0
 | cons x l =>
  have e1 : q16 (x :: l) = .int .u8 (x.toNat : Int) :: q16 l := rfl
  have e2 : (q16 l).length = l.length := q2c l
  have e3 : (l.length + 1 ≤ 70368744177664) = True := by simp only [eq_iff_iff, iff_true]; simp at hl; omega
  have e4 : (l.length + 1 ≤ 4611686018427387904) = True := by simp only [eq_iff_iff, iff_true]; simp at hl; omega
  rw [e1]
  (focus (have hF := (aI @e2 (aI @e3 @e4)); (repeat' (first | refine go0 (k:=?_) | fail)); all_goals clear hF))
  exact Fin.tmp' rfl (q0a (x :: l))
theorem qo4 (b : Bs) (h0 : b ≠ []) (hl : b.length ≤ 900000000000) : EvM (En Tryz.prog rfl).P 48 [.ptr 900000 0] [(900000, wrC b)] (.ret (.tup [.sl 1 (q16 b), .int .i64 0])) [(900000, [.hole, .bool false])] := by
 refine EvM.of_body it_k48 (by simp) (fun k => by rw [q4t, q4t]) (fun q hq => by rw [List.mem_singleton.1 hq]; exact (by decide : 900000 < q5h)) (fun q hq x hx => by
  rw [List.mem_singleton.1 hq] at hx
  simp only [List.mem_cons, List.not_mem_nil, or_false] at hx
  rcases hx with rfl | rfl <;> rfl) fun β => ?_
 have e0 : lnt [(900000, wrC b)] β = [(900000, .cells (wrC b)), (1900000, .note (.ptr 900000 0) (q3h (β 900000)))] := by
  simp only [lnt, q5h, List.flatMap_cons, List.flatMap_nil, List.cons_append, List.nil_append, List.append_nil, Nat.reduceAdd]
 rw [e0]
 refine Run.start ?_
 unfold t_k48
 have e1 := q2c b
 (focus (have hF := (aI @q21 @e1); (repeat' (first | refine go1 (k:=?_) | with_reducible refine Ny.of ?_ ?_ | (refine Hyp.of ?_; intro hc; (try simp only [hc]); (try simp only [Bh] at hc)))); all_goals clear hF))
 refine z1z (fun j => j == 15) [.sl 1 (q16 b)] (he := ev_k94 b h0 hl) (k:=?_)
 (focus (have hF := (aI @q21 @e1); (repeat' (first | refine go1 (k:=?_) | with_reducible refine Ny.of ?_ ?_ | (refine Hyp.of ?_; intro hc; (try simp only [hc]); (try simp only [Bh] at hc)))); all_goals clear hF))
 refine ⟨[.sl 1 (q16 b), .int .i64 0], rfl, by simp [q0l, AVal.stb, q0a], ⟨[.sl 1 (q16 b), .int .i64 0], ⟨.inl rfl, .inl rfl, trivial⟩, rfl⟩, fun p hp => ?_, fun p hp => ?_⟩
 ·rw [List.mem_singleton.1 hp]; rfl
 ·rw [List.mem_singleton.1 hp]; exact ⟨1900000, rfl⟩
theorem q6h : EvNew (En Tryz.prog rfl).P 46 [] [.nil, .bool false] := by
 refine EvNew.of_body it_k46 (by simp) (Run.start ?_)
 unfold t_k46
 (focus (have hF := @q00; (repeat' (first | refine go1 (k:=?_) | with_reducible refine Ny.of ?_ ?_ | (refine Hyp.of ?_; intro hc; (try simp only [hc]); (try simp only [Bh] at hc)))); all_goals clear hF))
 exact ⟨2, rfl, rfl, rfl⟩
def putR (ok : Bool) (b : Bs) : AVal := .tup [.sl 1 (q16 (if ok = true then b else [])), .int .i64 (if ok = true then 0 else 1)]
theorem q80 {p : Pst} (h : PW p) : (q2p p).length ≤ 20 + 10 * p.vec.length + 30 * p.cloud.length := by
 have h1 := qoo (l := p.vec) (fun x hx => by have := h.v x hx; omega)
 have h2 := q9a h p.cloud.length (Nat.le_refl _)
 rw [List.take_length] at h2
 have hv := h.vl
 have hc := h.cl
 have a1 := q0h (n := p.vec.length) (by omega)
 have a2 := q0h (n := p.cloud.length) (by omega)
 simp only [q2p, List.length_append]
 omega
theorem zbx (p : Pst) (hw : wt p ≤ 40000000) (h : q0t p = true → PW p) : Ev (En Tryz.prog rfl).P 12 [q19 p] (.ret (putR (q0t p) (q2p p))) := by
 refine Ev.of_body it_k12 (by simp) (Run.start ?_)
 unfold t_k12 q19
 generalize hx : SC.ops false qnd = X
 (focus (have hF := @q00; (repeat' (first | refine go1 (k:=?_) | with_reducible refine Ny.of ?_ ?_ | (refine Hyp.of ?_; intro hc; (try simp only [hc]); (try simp only [Bh] at hc)))); all_goals clear hF))
 refine q02 [q19 p] (he := zbj p hw) (k:=?_)
 cases hn : q0t p with
 | false =>
  (focus (have hF := @q00; (repeat' (first | refine go1 (k:=?_) | with_reducible refine Ny.of ?_ ?_ | (refine Hyp.of ?_; intro hc; (try simp only [hc]); (try simp only [Bh] at hc)))); all_goals clear hF))
  exact Fin.two rfl rfl rfl rfl (.inr ⟨rfl, 1, rfl⟩) (.inl rfl)
 | true =>
  have hp := h hn
  (focus (have hF := @q00; (repeat' (first | refine go1 (k:=?_) | with_reducible refine Ny.of ?_ ?_ | (refine Hyp.of ?_; intro hc; (try simp only [hc]); (try simp only [Bh] at hc)))); all_goals clear hF))
  refine stNew [] (he := q6h) (k:=?_)
  (focus (have hF := @q00; (repeat' (first | refine go1 (k:=?_) | with_reducible refine Ny.of ?_ ?_ | (refine Hyp.of ?_; intro hc; (try simp only [hc]); (try simp only [Bh] at hc)))); all_goals clear hF))
  refine Run.wk (Wk.own_cells (k := 4) (cs' := wrC []) rfl rfl fun i x y hx hy => ?_) ?_
  ·match i with
   | 0 => simp at hx; simp [wrC] at hy; subst hx; subst hy; exact .inr ⟨rfl, 1, rfl⟩
   | 1 => simp at hx; simp [wrC] at hy; subst hx; subst hy; exact .inl rfl
   | i + 2 => simp at hx
  subst hx
  (focus (have hF := @q21; (repeat' (first | refine go1 (k:=?_) | with_reducible refine Ny.of ?_ ?_ | (refine Hyp.of ?_; intro hc; (try simp only [hc]); (try simp only [Bh] at hc)))); all_goals clear hF))
  refine stWr 4 [q19 p] (he := zbe [] p (by simp) hp) (kk := ?_)
  rw [List.nil_append]
  have h0 : q2p p ≠ [] := fun e => by
   have := congrArg List.length e
   have h1 := q1e p.vec.length
   simp only [q2p, List.length_append, List.length_nil] at this
   omega
  (focus (have hF := @q21; (repeat' (first | refine go1 (k:=?_) | with_reducible refine Ny.of ?_ ?_ | (refine Hyp.of ?_; intro hc; (try simp only [hc]); (try simp only [Bh] at hc)))); all_goals clear hF))
  refine q4o 900000 4 (f := 48) (by with_unfolding_all rfl) (by with_unfolding_all rfl) (by with_unfolding_all rfl) (by with_unfolding_all rfl) (by with_unfolding_all rfl) (qal _) rfl (by simp [AVal.stb, q0l, q0a]) (qo4 (q2p p) h0 (by have := q80 hp; have := hp.vl; have := hp.cl; omega)) ?_
  dsimp only [AS.put]
  (focus (have hF := @q21; (repeat' (first | refine go1 (k:=?_) | with_reducible refine Ny.of ?_ ?_ | (refine Hyp.of ?_; intro hc; (try simp only [hc]); (try simp only [Bh] at hc)))); all_goals clear hF))
  exact Fin.two rfl (q0a _) rfl rfl (.inl rfl) (.inl rfl)
theorem q6b {l : List Ent} (h : EW l) : (q0y l).length ≤ 10 + 1040 * l.length := by
 have h2 := qc6 h l.length (Nat.le_refl _)
 rw [List.take_length] at h2
 have hl := h.ll
 have a1 := q0h (n := l.length) (by omega)
 simp only [q0y, List.length_append]
 omega
theorem ev_k15 (l : List Ent) (hw : l.length ≤ 1000000000) (h : q3z l = true → EW l) : Ev (En Tryz.prog rfl).P 15 [.sl 4 (q1b l)] (.ret (putR (q3z l) (q0y l))) := by
 refine Ev.of_body it_k15 (by simp) (Run.start ?_)
 unfold t_k15
 have hS := qgw
 generalize hx : SC.ops false qnc = X
 (focus (have hF := @q00; (repeat' (first | refine go1 (k:=?_) | with_reducible refine Ny.of ?_ ?_ | (refine Hyp.of ?_; intro hc; (try simp only [hc]); (try simp only [Bh] at hc)))); all_goals clear hF))
 refine q02 [.sl 4 (q1b l)] (he := ev_k49 l hw) (k:=?_)
 cases hn : q3z l with
 | false =>
  (focus (have hF := @q00; (repeat' (first | refine go1 (k:=?_) | with_reducible refine Ny.of ?_ ?_ | (refine Hyp.of ?_; intro hc; (try simp only [hc]); (try simp only [Bh] at hc)))); all_goals clear hF))
  exact Fin.two rfl rfl rfl rfl (.inr ⟨rfl, 1, rfl⟩) (.inl rfl)
 | true =>
  have hp := h hn
  (focus (have hF := @q00; (repeat' (first | refine go1 (k:=?_) | with_reducible refine Ny.of ?_ ?_ | (refine Hyp.of ?_; intro hc; (try simp only [hc]); (try simp only [Bh] at hc)))); all_goals clear hF))
  refine stNew [] (he := q6h) (k:=?_)
  (focus (have hF := @q00; (repeat' (first | refine go1 (k:=?_) | with_reducible refine Ny.of ?_ ?_ | (refine Hyp.of ?_; intro hc; (try simp only [hc]); (try simp only [Bh] at hc)))); all_goals clear hF))
  refine Run.wk (Wk.own_cells (k := 4) (cs' := wrC []) rfl rfl fun i x y hx hy => ?_) ?_
  ·match i with
   | 0 => simp at hx; simp [wrC] at hy; subst hx; subst hy; exact .inr ⟨rfl, 1, rfl⟩
   | 1 => simp at hx; simp [wrC] at hy; subst hx; subst hy; exact .inl rfl
   | i + 2 => simp at hx
  subst hx
  (focus (have hF := @q21; (repeat' (first | refine go1 (k:=?_) | with_reducible refine Ny.of ?_ ?_ | (refine Hyp.of ?_; intro hc; (try simp only [hc]); (try simp only [Bh] at hc)))); all_goals clear hF))
  refine stWr 4 [.sl 4 (q1b l)] (hs := by simp [q0l, AVal.stb, q0b]) (he := z0s [] l (by simp) hp) (kk := ?_)
  rw [List.nil_append]
  have h0 : q0y l ≠ [] := fun e => by
   have := congrArg List.length e
   have h1 := q1e l.length
   simp only [q0y, List.length_append, List.length_nil] at this
   omega
  (focus (have hF := @q21; (repeat' (first | refine go1 (k:=?_) | with_reducible refine Ny.of ?_ ?_ | (refine Hyp.of ?_; intro hc; (try simp only [hc]); (try simp only [Bh] at hc)))); all_goals clear hF))
  refine q4o 900000 4 (f := 48) (by with_unfolding_all rfl) (by with_unfolding_all rfl) (by with_unfolding_all rfl) (by with_unfolding_all rfl) (by with_unfolding_all rfl) (qal _) rfl (by simp [AVal.stb, q0l, q0a]) (qo4 (q0y l) h0 (by have := q6b hp; have := hp.ll; omega)) ?_
  dsimp only [AS.put]
  (focus (have hF := @q21; (repeat' (first | refine go1 (k:=?_) | with_reducible refine Ny.of ?_ ?_ | (refine Hyp.of ?_; intro hc; (try simp only [hc]); (try simp only [Bh] at hc)))); all_goals clear hF))
  exact Fin.two rfl (q0a _) rfl rfl (.inl rfl) (.inl rfl)
theorem ev_k20 (l : List Rec) (hl : l.length ≤ 1000000000) (hw : ∀ r ∈ l, wt r.past ≤ 40000000) (h : q4f l = true → RW l ∧ (q0r l).length ≤ 600000000000) : Ev (En Tryz.prog rfl).P 20 [.sl 3 (q1a l)] (.ret (putR (q4f l) (q0r l))) := by
 refine Ev.of_body it_k20 (by simp) (Run.start ?_)
 unfold t_k20
 have hS := qgw
 generalize hx : SC.ops false qnb = X
 (focus (have hF := @q00; (repeat' (first | refine go1 (k:=?_) | with_reducible refine Ny.of ?_ ?_ | (refine Hyp.of ?_; intro hc; (try simp only [hc]); (try simp only [Bh] at hc)))); all_goals clear hF))
 refine q02 [.sl 3 (q1a l)] (he := q8g l hl hw) (k:=?_)
 cases hn : q4f l with
 | false =>
  (focus (have hF := @q00; (repeat' (first | refine go1 (k:=?_) | with_reducible refine Ny.of ?_ ?_ | (refine Hyp.of ?_; intro hc; (try simp only [hc]); (try simp only [Bh] at hc)))); all_goals clear hF))
  exact Fin.two rfl rfl rfl rfl (.inr ⟨rfl, 1, rfl⟩) (.inl rfl)
 | true =>
  have hp := h hn
  (focus (have hF := @q00; (repeat' (first | refine go1 (k:=?_) | with_reducible refine Ny.of ?_ ?_ | (refine Hyp.of ?_; intro hc; (try simp only [hc]); (try simp only [Bh] at hc)))); all_goals clear hF))
  refine stNew [] (he := q6h) (k:=?_)
  (focus (have hF := @q00; (repeat' (first | refine go1 (k:=?_) | with_reducible refine Ny.of ?_ ?_ | (refine Hyp.of ?_; intro hc; (try simp only [hc]); (try simp only [Bh] at hc)))); all_goals clear hF))
  refine Run.wk (Wk.own_cells (k := 4) (cs' := wrC []) rfl rfl fun i x y hx hy => ?_) ?_
  ·match i with
   | 0 => simp at hx; simp [wrC] at hy; subst hx; subst hy; exact .inr ⟨rfl, 1, rfl⟩
   | 1 => simp at hx; simp [wrC] at hy; subst hx; subst hy; exact .inl rfl
   | i + 2 => simp at hx
  subst hx
  (focus (have hF := @q21; (repeat' (first | refine go1 (k:=?_) | with_reducible refine Ny.of ?_ ?_ | (refine Hyp.of ?_; intro hc; (try simp only [hc]); (try simp only [Bh] at hc)))); all_goals clear hF))
  refine stWr 4 [.sl 3 (q1a l)] (hs := by simp [q0l, AVal.stb, q0e]) (he := z0r [] l (by have := hp.2; simp only [q0r, List.length_append] at this; simp; omega) hp.1) (kk := ?_)
  rw [List.nil_append]
  have h0 : q0r l ≠ [] := fun e => by
   have := congrArg List.length e
   have h1 := q1e l.length
   simp only [q0r, List.length_append, List.length_nil] at this
   omega
  (focus (have hF := @q21; (repeat' (first | refine go1 (k:=?_) | with_reducible refine Ny.of ?_ ?_ | (refine Hyp.of ?_; intro hc; (try simp only [hc]); (try simp only [Bh] at hc)))); all_goals clear hF))
  refine q4o 900000 4 (f := 48) (by with_unfolding_all rfl) (by with_unfolding_all rfl) (by with_unfolding_all rfl) (by with_unfolding_all rfl) (by with_unfolding_all rfl) (qal _) rfl (by simp [AVal.stb, q0l, q0a]) (qo4 (q0r l) h0 (by have := hp.2; omega)) ?_
  dsimp only [AS.put]
  (focus (have hF := @q21; (repeat' (first | refine go1 (k:=?_) | with_reducible refine Ny.of ?_ ?_ | (refine Hyp.of ?_; intro hc; (try simp only [hc]); (try simp only [Bh] at hc)))); all_goals clear hF))
  exact Fin.two rfl (q0a _) rfl rfl (.inl rfl) (.inl rfl)

theorem qyr (p : Pst) : 3 * p.cloud.length ≤ (q2p p).length := by
 have := q8j p.vec p.cloud []
 simp only [q2p, List.length_append]
 omega
theorem St.le' {b x : Bs} {p q : Nat} (h : St b p x q) : x.length ≤ b.length := by
 have := h.1
 have := h.2.1
 omega
theorem qeu {b : Bs} {p : Pst} {s q : Nat} (h : q1k b s = .ok (p, q)) : wt p ≤ 16 + b.length ∧ q ≤ b.length := by
 obtain ⟨h1, h2⟩ := qba h
 have h3 := qyr p
 have h4 := h1.le'
 have h5 := h2.vl
 exact ⟨by unfold wt; omega, h1.le⟩
theorem rPast_wt (b : Bs) : wt (rdV ⟨[], []⟩ (q1k b 0)) ≤ 16 + b.length := by
 cases hr : q1k b 0 with
 | error q => exact Nat.le_trans (Nat.zero_le _) (Nat.le_refl _)
 | ok q => exact (qeu (q := q.2) (p := q.1) (by rw [hr])).1
theorem qkq : ∀ (l sf : List Ent), 4 * l.length ≤ (q4b sf l).length
 | [], sf => by simp
 | e :: l, sf => by
  have := qkq l (sf ++ [e])
  have h1 := q1e (e.rep - qb6 sf).toNat
  have h2 := q1e (e.num - q4g sf e).toNat
  have h3 := q1e e.sku.size
  have h4 := q1e (e.qty - 1).toNat
  simp only [q4b, entB, List.length_append, List.length_cons]
  omega
theorem q7e {b : Bs} {l : List Ent} {s q : Nat} (h : q09 b s = .ok (l, q)) : l.length ≤ b.length ∧ q ≤ b.length := by
 obtain ⟨h1, h2⟩ := q9n h
 have h3 := qkq l []
 have h4 := h1.le'
 simp only [q0y, List.length_append] at h4
 exact ⟨by omega, h1.le⟩
theorem qk2 (b : Bs) : (rdV [] (q09 b 0)).length ≤ b.length := by
 cases hr : q09 b 0 with
 | error q => exact Nat.zero_le _
 | ok q => exact (q7e (q := q.2) (l := q.1) (by rw [hr])).1
theorem z2e {l : List Rec} {r : Rec} (h : r ∈ l) : (z2f r).length ≤ (q2i l).length := by
 induction l with
 | nil => cases h
 | cons x l ih =>
  simp only [q2i, List.flatMap_cons, List.length_append]
  rcases List.mem_cons.1 h with rfl | h
  ·omega
  ·have := ih h
   simp only [q2i] at this
   omega
theorem qh1 : ∀ l : List Rec, l.length ≤ (q2i l).length
 | [] => Nat.zero_le _
 | r :: l => by
  have h1 := qh1 l
  have h2 := q1e r.sku.size
  have h3 : 1 ≤ (z2f r).length := by simp only [z2f, List.length_append]; omega
  simp only [q2i, List.flatMap_cons, List.length_append, List.length_cons] at h1 ⊢
  omega
theorem q5e {b : Bs} {l : List Rec} {s q : Nat} (h : q07 b s = .ok (l, q)) : l.length ≤ b.length ∧ (∀ r ∈ l, wt r.past ≤ 16 + b.length) ∧ q ≤ b.length := by
 obtain ⟨h1, h2⟩ := q9k h
 have h3 := qh1 l
 have h4 := h1.le'
 simp only [q0r, List.length_append] at h4
 refine ⟨by omega, fun r hr => ?_, h1.le⟩
 have h5 := z2e hr
 have h6 := qyr r.past
 have h7 := (h2 r hr).2.vl
 simp only [z2f, List.length_append] at h5
 unfold wt
 omega
theorem qjy (b : Bs) : (rdV [] (q07 b 0)).length ≤ b.length ∧ ∀ r ∈ rdV [] (q07 b 0), wt r.past ≤ 16 + b.length := by
 cases hr : q07 b 0 with
 | error q => exact ⟨Nat.zero_le _, fun r hr => by cases hr⟩
 | ok q =>
  have := q5e (q := q.2) (l := q.1) (by rw [hr])
  exact ⟨this.1, this.2.1⟩
theorem qby {α : Type} {z : α} {ok : α → Bool} {b : Bs} {r : Rs α} (hz : noZ r) (hle : ∀ x a, r = .ok (x, a) → a ≤ b.length) :
 (qz1 z ok b r = 0 ∧ ok (qns z ok b r) = true ∧ r = .ok (qns z ok b r, b.length)) ∨ (qz1 z ok b r = 8 ∧ qns z ok b r = z ∧ ∀ x, r = .ok (x, b.length) → ok x = false) := by
 unfold qz1 qns
 cases hb : (qck b r && ok (rdV z r)) with
 | true =>
  simp only [Bool.and_eq_true] at hb
  obtain ⟨h1, h2⟩ := hb
  obtain ⟨x, hx⟩ := (qpl hz hle).1 h1
  have hv : rdV z r = x := by rw [hx]; rfl
  rw [hv] at h2 ⊢
  exact .inl ⟨rfl, h2, hx⟩
 | false =>
  refine .inr ⟨rfl, rfl, fun x hx => ?_⟩
  have h1 := (qpl hz hle).2 ⟨x, hx⟩
  have hv : rdV z r = x := by rw [hx]; rfl
  rw [h1, hv] at hb
  simpa using hb
theorem zaa {p : Pst} (h : q0t p = true) (hl : p.cloud.length ≤ 10000000) : q1k (q2p p) 0 = .ok (p, (q2p p).length) := by
 have hp := q44 h
 have hpl := q80 (hp.pw (by omega))
 have := hp.vl
 exact qjz (St.all _) hp (by omega)
theorem qkr {l : List Ent} (h : q3z l = true) (hl : l.length ≤ 100000000) : q09 (q0y l) 0 = .ok (l, (q0y l).length) := by
 have hpl := q6b (qad hl h)
 exact q9m (St.all _) (qc0 h) (qz5 h) (by omega)
theorem qfd {l : List Rec} (h : q4f l = true) (hw : qls l ≤ 40000000) : RW l ∧ (q0r l).length ≤ 600000000000 := by
 have hll := qol l
 have hr : ∀ r ∈ l, r.sku.size ≤ 24 ∧ PW r.past := fun r hr => by
  have h1 := (q8b h r hr).1
  have h2 := wtK_le hr
  refine ⟨h1.1, h1.2.pw ?_⟩
  unfold wtK wt at h2
  omega
 have key : ∀ m : List Rec, (∀ r ∈ m, r.sku.size ≤ 24 ∧ PW r.past) → (q2i m).length ≤ 100 * qls m := by
  intro m
  induction m with
  | nil => intro _; simp [q2i]
  | cons r m ih =>
   intro hm
   have h1 := ih fun x hx => hm x (by simp [hx])
   obtain ⟨h2, h3⟩ := hm r (by simp)
   have h4 := q80 h3
   have h5 := q0h (n := r.sku.size) (by omega)
   have h6 : r.sku.data.toList.length = r.sku.size := rfl
   have h7 : qls (r :: m) = wtK r + qls m := by simp [qls]
   have h8 : wtK r = r.past.vec.length + r.past.cloud.length + 1 := rfl
   simp only [q2i, List.flatMap_cons, List.length_append, z2f] at h1 ⊢
   omega
 have h9 := key l hr
 have h10 := q0h (n := l.length) (by omega)
 refine ⟨⟨by omega, fun r hrr => ⟨by have := (hr r hrr).1; omega, (hr r hrr).2⟩⟩, ?_⟩
 simp only [q0r, List.length_append]
 omega
theorem qh2 {l : List Rec} (h : q4f l = true) (hw : qls l ≤ 40000000) : q07 (q0r l) 0 = .ok (l, (q0r l).length) := by
 have hk := q8b h
 exact q9j (St.all _) (fun r hr => (hk r hr).1) (fun r hr => (hk r hr).2) (by have := (qfd h hw).2; omega)


structure FoS where
 i : Nat
 all : Pst
 out : List Rec


def SrtK (l : List Rec) : Prop := ∀ (i : Nat) a b, l[i]? = some a → l[i + 1]? = some b → ql9 a b < 0
theorem SrtK.tail {t l : List Rec} (h : SrtK (t ++ l)) : SrtK l := fun i a b ha hb =>
 h (t.length + i) a b (by rw [List.getElem?_append_right (by omega)]; simpa using ha) (by rw [List.getElem?_append_right (by omega)]; rw [show t.length + i + 1 - t.length = i + 1 by omega]; exact hb)

def z98 : List SOp := [zO 4 (.assign (.const (.bool false)))]
instance : Live z98 := ⟨[0,1]⟩
def z97 : List SOp := [zM 6 0,zO 7 (.call ⟨.builtin .len,#[.tmp 6],#[26]⟩),zM 8 1,zO 9 (.call ⟨.builtin .len,#[.tmp 8],#[26]⟩),zO 10 (.binOp .neq 3 (.tmp 7) (.tmp 9) 3)]
instance : Live z97 := ⟨[0,1]⟩
def z96 : List SOp := [zO 4 (.assign (.const (.bool false)))]
instance : Live z96 := ⟨[]⟩
def z95 : List SOp := [zO 5 (.assign (.const (.int .i64 0)))]
instance : Live z95 := ⟨[0,1]⟩
def z94 : List SOp := [zM 11 5,zM 12 0,zO 13 (.call ⟨.builtin .len,#[.tmp 12],#[26]⟩),zO 14 (.binOp .lss 3 (.tmp 11) (.tmp 13) 3)]
instance : Live z94 := ⟨[0,1,5]⟩
def z93 : List SOp := [zM 17 0,zM 18 5,zI 19 26 17 18,zL 20 45 19,zM 21 1,zM 22 5,zI 23 26 21 22,zL 24 45 23,zO 25 (.binOp .neq 45 (.tmp 20) (.tmp 24) 45)]
instance : Live z93 := ⟨[0,1,5]⟩
def z92 : List SOp := [zO 4 (.assign (.const (.bool false)))]
instance : Live z92 := ⟨[]⟩
def z91 : List SOp := [zM 15 5,zO 16 (.binOp .add 3 (.tmp 15) (.const (.int .i64 1)) 3),zG 5 16]
instance : Live z91 := ⟨[0,1,5]⟩
def z90 : List SOp := [zO 4 (.assign (.const (.bool true)))]
instance : Live z90 := ⟨[]⟩
def qpd : SC :=
 (.seq (.seq (.ops false z94) (.cond (.tmp 14) .skip (.exit 0))) (.seq (.block 1 (.seq (.ops true z93) (.cond (.tmp 25) (.seq (.ops false z92) .ret) .skip))) (.ops false z91)))
def t_k17 : SC :=
 (.seq (.ops false z98) (.seq (.seq (.ops false z97) (.cond (.tmp 10) (.seq (.ops false z96) .ret) .skip)) (.seq (.seq (.ops false z95) (.block 0 (.loop qpd))) (.seq (.ops false z90) .ret))))
theorem it_k17 : FnIs Tryz.prog 17 26 [.tmp 4] t_k17 := ⟨Tryz.f17, _, Tryz.func17, rfl, rfl, rfl, rfl, by kernel_rfl⟩

def z84 : List SOp := [zO 4 (.assign (.const (.bool false)))]
instance : Live z84 := ⟨[0,1]⟩
def z83 : List SOp := [zM 6 0,zO 7 (.call ⟨.builtin .len,#[.tmp 6],#[27]⟩),zM 8 1,zO 9 (.call ⟨.builtin .len,#[.tmp 8],#[27]⟩),zO 10 (.binOp .neq 3 (.tmp 7) (.tmp 9) 3)]
instance : Live z83 := ⟨[0,1]⟩
def z82 : List SOp := [zO 4 (.assign (.const (.bool false)))]
instance : Live z82 := ⟨[]⟩
def z81 : List SOp := [zO 5 (.assign (.const (.int .i64 0)))]
instance : Live z81 := ⟨[0,1]⟩
def z80 : List SOp := [zM 11 5,zM 12 0,zO 13 (.call ⟨.builtin .len,#[.tmp 12],#[27]⟩),zO 14 (.binOp .lss 3 (.tmp 11) (.tmp 13) 3)]
instance : Live z80 := ⟨[0,1,5]⟩
def z7z : List SOp := [zM 17 0,zM 18 5,zI 19 27 17 18,zF 20 84 19 0,zL 21 9 20,zM 22 1,zM 23 5,zI 24 27 22 23,zF 25 84 24 0,zL 26 9 25,zO 27 (.binOp .neq 9 (.tmp 21) (.tmp 26) 9),zM 28 27,⟨some 29,.move (.tmp 0),some ((some 28),false)⟩,⟨some 30,.move (.tmp 5),some ((some 28),false)⟩,⟨some 31,.indexAddr 27 (.tmp 29) (.tmp 30),some ((some 28),false)⟩,⟨some 32,.fieldAddr 84 (.tmp 31) 1,some ((some 28),false)⟩,⟨some 33,.load 25 (.tmp 32),some ((some 28),false)⟩,⟨some 34,.move (.tmp 1),some ((some 28),false)⟩,⟨some 35,.move (.tmp 5),some ((some 28),false)⟩,⟨some 36,.indexAddr 27 (.tmp 34) (.tmp 35),some ((some 28),false)⟩,⟨some 37,.fieldAddr 84 (.tmp 36) 1,some ((some 28),false)⟩,⟨some 38,.load 25 (.tmp 37),some ((some 28),false)⟩,⟨some 39,.call ⟨.value (.func 14),#[.tmp 33,.tmp 38],#[25,25]⟩,some ((some 28),false)⟩,⟨some 40,.unOp .not 4 (.tmp 39),some ((some 28),false)⟩,zO 41 (.pick (.tmp 28) (.const (.bool true)) (.tmp 40))]
instance : Live z7z := ⟨[0,1,5]⟩
def z7y : List SOp := [zO 4 (.assign (.const (.bool false)))]
instance : Live z7y := ⟨[]⟩
def z7x : List SOp := [zM 15 5,zO 16 (.binOp .add 3 (.tmp 15) (.const (.int .i64 1)) 3),zG 5 16]
instance : Live z7x := ⟨[0,1,5]⟩
def z7w : List SOp := [zO 4 (.assign (.const (.bool true)))]
instance : Live z7w := ⟨[]⟩
def qpb : SC :=
 (.seq (.seq (.ops false z80) (.cond (.tmp 14) .skip (.exit 0))) (.seq (.block 1 (.seq (.ops true z7z) (.cond (.tmp 41) (.seq (.ops false z7y) .ret) .skip))) (.ops false z7x)))
def t_k27 : SC :=
 (.seq (.ops false z84) (.seq (.seq (.ops false z83) (.cond (.tmp 10) (.seq (.ops false z82) .ret) .skip)) (.seq (.seq (.ops false z81) (.block 0 (.loop qpb))) (.seq (.ops false z7w) .ret))))
theorem it_k27 : FnIs Tryz.prog 27 42 [.tmp 4] t_k27 := ⟨Tryz.f27, _, Tryz.func27, rfl, rfl, rfl, rfl, by kernel_rfl⟩





theorem z06 (p : Pst) : qmc p p = true := q6l ⟨rfl, rfl⟩
theorem ev_k27 (l : List Rec) (hl : l.length ≤ 1000000000) (hw : ∀ r ∈ l, wt r.past ≤ 900000000) : Ev (En Tryz.prog rfl).P 27 [.sl 3 (q1a l), .sl 3 (q1a l)] (.ret (.bool true)) := by
 refine Ev.of_body it_k27 (by simp) (Run.start ?_)
 unfold t_k27
 have e1 := q6e l
 have hS := qgw
 (focus (have hF := @e1; (repeat' (first | refine go1 (k:=?_) | with_reducible refine Ny.of ?_ ?_ | (refine Hyp.of ?_; intro hc; (try simp only [hc]); (try simp only [Bh] at hc)))); all_goals clear hF))
 refine Run.while (σ := Nat) (fun i => ⟨tms [(0, .sl 3 (q1a l)), (1, .sl 3 (q1a l)), (5, .int .i64 (i : Int))], mms []⟩)
  (fun i => i ≤ l.length) (fun i => l.length - i) 0 (have hW := @q0e; q0v) (Nat.zero_le _) ?_
 intro i hi
 unfold qpb
 by_cases hlt : i < l.length
 ·obtain ⟨r, hr⟩ : ∃ r, l[i]? = some r := ⟨l[i], by simp [hlt]⟩
  have g1 := q54 hr
  have hwr := hw r (List.mem_of_getElem? hr)
  unfold wt at hwr
  have c1 := zbt r.past r.past (by omega) (by omega)
  rw [z06] at c1
  (focus (have hF := (aI @e1 @g1); (repeat' (first | refine go1 (k:=?_) | with_reducible refine Ny.of ?_ ?_ | (refine Hyp.of ?_; intro hc; (try simp only [hc]); (try simp only [Bh] at hc)))); all_goals clear hF))
  refine q02 [q19 r.past, q19 r.past] (he := c1) (k:=?_)
  (focus (have hF := (aI @e1 @g1); (repeat' (first | refine go1 (k:=?_) | with_reducible refine Ny.of ?_ ?_ | (refine Hyp.of ?_; intro hc; (try simp only [hc]); (try simp only [Bh] at hc)))); all_goals clear hF))
  (refine Fin.nextW (i + 1) ?_ (have hW := @q0e; q0v); (try dsimp only))
  omega
 ·(focus (have hF := @e1; (repeat' (first | refine go1 (k:=?_) | with_reducible refine Ny.of ?_ ?_ | (refine Hyp.of ?_; intro hc; (try simp only [hc]); (try simp only [Bh] at hc)))); all_goals clear hF))
  exact Fin.tmp' rfl rfl
theorem ev_k17 (l : List Ent) (hl : l.length ≤ 1000000000) : Ev (En Tryz.prog rfl).P 17 [.sl 4 (q1b l), .sl 4 (q1b l)] (.ret (.bool true)) := by
 refine Ev.of_body it_k17 (by simp) (Run.start ?_)
 unfold t_k17
 have e1 := q6g l
 have hS := qgw
 (focus (have hF := @e1; (repeat' (first | refine go1 (k:=?_) | with_reducible refine Ny.of ?_ ?_ | (refine Hyp.of ?_; intro hc; (try simp only [hc]); (try simp only [Bh] at hc)))); all_goals clear hF))
 refine Run.while (σ := Nat) (fun i => ⟨tms [(0, .sl 4 (q1b l)), (1, .sl 4 (q1b l)), (5, .int .i64 (i : Int))], mms []⟩)
  (fun i => i ≤ l.length) (fun i => l.length - i) 0 (have hW := @q0b; q0v) (Nat.zero_le _) ?_
 intro i hi
 unfold qpd
 by_cases hlt : i < l.length
 ·obtain ⟨r, hr⟩ : ∃ r, l[i]? = some r := ⟨l[i], by simp [hlt]⟩
  have g1 := q56 hr
  (focus (have hF := (aI @e1 @g1); (repeat' (first | refine go1 (k:=?_) | with_reducible refine Ny.of ?_ ?_ | (refine Hyp.of ?_; intro hc; (try simp only [hc]); (try simp only [Bh] at hc)))); all_goals clear hF))
  (refine Fin.nextW (i + 1) ?_ (have hW := @q0b; q0v); (try dsimp only))
  omega
 ·(focus (have hF := @e1; (repeat' (first | refine go1 (k:=?_) | with_reducible refine Ny.of ?_ ?_ | (refine Hyp.of ?_; intro hc; (try simp only [hc]); (try simp only [Bh] at hc)))); all_goals clear hF))
  exact Fin.tmp' rfl rfl

def Wkn (x y : AVal) : Prop := ∀ (D : Nat → Nat → Prop) (G : Gh) (B : Nat → Prop) (w : World) (v : Value), VR D G B w x v → VR D G B w y v
theorem Wkn.refl (x : AVal) : Wkn x x := fun _ _ _ _ _ h => h
theorem Wkn.nil (sz : Nat) : Wkn .nil (.sl sz []) := fun D G B w v h => by
 cases h
 exact .slnil sz
def Wkns : List AVal → List AVal → Prop
 | [], [] => True
 | a :: l, b :: m => Wkn a b ∧ Wkns l m
 | _, _ => False
theorem Wkns.len : ∀ {l m : List AVal}, Wkns l m → l.length = m.length
 | [], [], _ => rfl
 | a :: l, b :: m, h => by rw [List.length_cons, List.length_cons, Wkns.len h.2]
 | [], _ :: _, h => h.elim
 | _ :: _, [], h => h.elim
theorem Wkns.get : ∀ {l m : List AVal}, Wkns l m → ∀ (i : Nat) (y : AVal), m[i]? = some y → ∃ x, l[i]? = some x ∧ Wkn x y
 | [], [], _, i, y, h => by simp at h
 | a :: l, b :: m, hw, 0, y, h => by
  simp only [List.getElem?_cons_zero, Option.some.injEq] at h
  subst h
  exact ⟨a, rfl, hw.1⟩
 | a :: l, b :: m, hw, i + 1, y, h => by
  obtain ⟨x, hx, hxy⟩ := Wkns.get hw.2 i y (by simpa using h)
  exact ⟨x, by simpa using hx, hxy⟩
 | [], _ :: _, h, _, _, _ => h.elim
 | _ :: _, [], h, _, _, _ => h.elim
theorem Wkns.refl : ∀ l : List AVal, Wkns l l
 | [] => trivial
 | a :: l => ⟨Wkn.refl a, Wkns.refl l⟩
theorem Wkn.agg {l m : List AVal} (h : Wkns l m) : Wkn (.agg l) (.agg m) := fun D G B w v hv => by
 cases hv with
 | agg cs vs hl hh =>
  refine .agg m vs (by rw [hl, h.len]) fun n x u hx hu => ?_
  obtain ⟨y, hy, hyx⟩ := h.get n x hx
  exact hyx D G B w u (hh n y u hy hu)
theorem Ev.wks {P : Program} {f : FuncId} {l m : List AVal} {out : Out} (he : Ev P f m out) (h : Wkns l m) : Ev P f l out :=
 ⟨he.1, fun B w vs G ho hs hv hb => he.2 B w vs G ho (by rw [hs, h.len]) (fun i y v hy hvv => by
  obtain ⟨x, hx, hxy⟩ := h.get i y hy
  exact hxy _ G B w v (hv i x v hx hvv)) hb⟩

theorem Wkn.sl {sz : Nat} {xs ys : List AVal} (hl : xs.length = ys.length) (hf : Wkns (flat xs) (flat ys)) (h1 : ∀ x ∈ flat ys, x.one = true) (h2 : ∀ x ∈ ys, x.cells.length = sz) : Wkn (.sl sz xs) (.sl sz ys) := fun D G B w v h => by
 cases h with
 | slnil =>
  have : ys = [] := List.length_eq_zero_iff.1 hl.symm
  subst this
  exact .slnil sz
 | slemp _ a cap =>
  have : ys = [] := List.length_eq_zero_iff.1 hl.symm
  subst this
  exact .slemp sz a cap
 | sl _ _ b off cap f hcap hB hone hsz hc hv =>
  have hne : flat ys ≠ [] → flat xs ≠ [] := fun h h' => h (List.length_eq_zero_iff.1 (by rw [← hf.len, h']; rfl))
  have hg := fun n y (hy : (flat ys)[n]? = some y) => hf.get n y hy
  rw [hl]
  refine .sl sz ys b off cap f (by omega) (fun h => hB (hne h)) h1 h2 (fun n y hy => ?_) (fun n y hy => ?_)
  ·obtain ⟨x, hx, _⟩ := hg n y hy
   exact hc n x hx
  ·obtain ⟨x, hx, hxy⟩ := hg n y hy
   exact hxy D G B w _ (hv n x hx)
def sa : ByteArray := ⟨#[97]⟩

theorem qod {P : Program} {TE : TyE} (hT : q2r P TE) {n : Nat} {B : Nat → Prop} {G : Gh} {s : AS} {a : Act} {w : World} (h : Rel n B G s a w) {t : TypeId} {len : Nat} {parts : List (Nat × AVal)} {parts' : Array (Nat × Value)}
 (hl : parts'.size = parts.length) (hr : ∀ (n : Nat) (p : Nat × AVal), parts[n]? = some p → ∃ p', parts'[n]? = some p' ∧ p'.1 = p.1 ∧ VR (Dm s.M) G B w p.2 p'.2)
 {sz : Nat} {xs0 : List AVal} (h0 : len ≠ 0) (hb : q1i TE s.M t len parts none = some (.sl sz xs0, [])) (k : Nat) (hk : s.M k = none) :
 ∃ v w' G', (Instr.buildSlice t len parts').run P w = .ok v w' ∧ Adv G w G' w' ∧ Rel n B G' ⟨s.T, upd s.M k (some (.arr 0 sz xs0))⟩ a w' ∧ VR (Dm (upd s.M k (some (.arr 0 sz xs0)))) G' B w' (.os k 0) v := by
 unfold q1i at hb
 split at hb
 case h_2 => cases hb
 rename_i e s1 b1 z1 ht
 split at hb
 case h_2 => cases hb
 rename_i ei he
 split at hb
 case isFalse => cases hb
 rename_i hc
 obtain ⟨hok, hlim⟩ := hc
 obtain ⟨o1, o2, o3, o4⟩ := q5f hT he hok
 split at hb
 case h_2 => cases hb
 rename_i xs hxs
 split at hb
 case isFalse => cases hb
 rename_i hone
 have hone' : ∀ x ∈ flat xs, x.one = true := List.all_eq_true.1 hone
 obtain ⟨g1, g2, g3⟩ := qma parts (List.replicate len ei.zeroElem) xs (fun x hx => by rw [List.eq_of_mem_replicate hx, o2, o3]) hxs
 have hlen : xs.length = len := by simpa using g3
 have hu := q1x hT ht rfl
 have hflr : (flat (List.replicate len ei.zeroElem)).length = len * ei.size := by
  rw [q0o (sz := ei.size) (fun x hx => by rw [List.eq_of_mem_replicate hx, o2, o3])]; simp
 simp only [Option.some.injEq, Prod.mk.injEq, AVal.sl.injEq] at hb
 obtain ⟨⟨rfl, rfl⟩, _⟩ := hb
 have hne : ¬ (len * ei.size = 0) := by
  intro hz
  rcases Nat.mul_eq_zero.1 hz with hz | hz <;> omega
 obtain ⟨c', f1, f2, f3⟩ := q8d (D := Dm s.M) (G := G) (B := B) (w := w) (place := fun i => some (i * ei.size, ei.size)) (place' := fun i => some (i * ei.size, ei.size)) (fun i p hp => hp) parts parts'.toList _
  ((Array.range (len * ei.size)).map fun j => ei.zero.cells[j % ei.zero.cells.size]!) (flat xs) (by simpa using hl)
  (fun n p hn => by obtain ⟨p', q1, q2, q3⟩ := hr n p hn; exact ⟨p', by simpa using q1, q2, q3⟩) (by simp [hflr]) (qa0 hT he o2 o1 len len (Nat.le_refl _)) g1
 have hc's : c'.size = len * ei.size := by rw [f2, q0o (sz := ei.size) g2, hlen]
 obtain ⟨G', hA, hR, hh⟩ := h.new_arr (k := k) (e := 0) (.inl hk) ei.size len xs c' e (by omega) (by omega) g2 hone' f3
 refine ⟨.slice (some ⟨w.heap.size, 0, none⟩) len len, w.alloc (.cells c' e), G', ?_, hA, hR, .os k 0 (Dm_arr (q00 _ _ _) (Nat.le_refl _)) _ (by rw [hh, hlen])⟩
 have hlim2 : len * ei.size ≤ 2 ^ 24 := by omega
 simp only [Instr.buildSlice, Sem.run_bind, run_underlying hu, q0k hT he, Result.andThen]
 rw [if_neg (by omega), if_neg hne]
 simp [q0w hT he, f1, newRow]
def q9y (l : List UInt8) : List AVal := l.map fun b => .int .u8 (b.toNat : Int)
theorem qdi : ∀ l : List UInt8, flat (q9y l) = q9y l
 | [] => rfl
 | b :: l => by
  show AVal.cells _ ++ flat (q9y l) = _
  rw [qdi l]
  rfl
theorem qde {P : Program} {TE : TyE} (hT : q2r P TE) {s : AS} {t : TypeId} {len : Nat} {parts : Array (Nat × Operand)} {sz : Nat} {xs : List AVal} (h0 : len ≠ 0) (hb : q1i TE s.M t len (evp s.T parts.toList) none = some (.sl sz xs, [])) (k : Nat) (hk : s.M k = none) :
 Hook P s (.buildSlice t len parts) (fun v M' => v = .os k 0 ∧ M' = upd s.M k (some (.arr 0 sz xs))) := by
 intro n B G act w hR o ho K Q hK
 obtain ⟨p1, p2⟩ := qey hR parts
 obtain ⟨v, w', G', r1, r2, r3, r4⟩ := qod hT hR p1 p2 h0 hb k hk
 unfold Oper.wp
 have hrun : (execOp act.eval o).run P w = .ok (.value v) w' := by
  unfold execOp
  rw [ho]
  simp only [Sem.run_bind, r1, Result.andThen]
  rfl
 rw [hrun]
 exact hK _ _ _ w' G' ⟨rfl, rfl⟩ r2 r3 r4
theorem qki {P : Program} {TE : TyE} (hT : q2r P TE) {s : AS} {x : Operand} {t u : TypeId} {i j : TyI} (ht : TE t = some i) (hd : i.td = .slice u) (hu : TE u = some j) (hj : j.td = .int .u8) {k e : Nat} {bs : List UInt8} (hb0 : bs ≠ []) (hx : ev s.T x = .os k e) (hk : s.M k = some (.arr e 1 (q9y bs))) :
 Hook P s (.convert t t x) (fun v M' => v = .sl 1 (q9y bs) ∧ M' = upd s.M k (some .dead)) := by
 intro n B G act w hR o ho K Q hK
 have q1 := hR.ev x
 rw [hx] at q1
 generalize hxv : act.eval x = xv at q1
 cases q1 with
 | os _ _ hD _ hv =>
 have hm : OwnAt (Dm s.M) G B w (.arr k) 1 (q9y bs) (G.hd k e) := hR.mem k _ hk
 rw [← hv] at hm
 rcases hm with ⟨_, h0⟩ | ⟨b, off, cap, c, el, rfl, h2, h3, h4, h5, h6, h7, h8, h9⟩
 ·exact absurd h0 (by cases bs <;> simp [q9y] at hb0 ⊢)
 obtain ⟨d, inf, u1, u2, u3, u4, u5, u6, u7⟩ := hT t i ht
 obtain ⟨d', inf', u1', u2', _⟩ := hT u j hu
 have hdd : d = .slice u := by rw [hd] at u2; cases d <;> simp [TD.of] at u2; rw [u2]
 have hdd' : d' = .int .u8 := by rw [hj] at u2'; cases d' <;> simp [TD.of] at u2'; rw [u2']
 subst hdd
 subst hdd'
 let w' : World := w.freeze { block := b, off := c.size } 1
 have hlt : b < w.heap.size := (Array.getElem?_eq_some_iff.1 h5).1
 have hsz : w'.heap.size = w.heap.size := by simp [w', World.freeze]
 have hsame : ∀ r, r ≠ b → w'.heap[r]? = w.heap[r]? := fun r hr => by
  simp only [w', World.freeze]
  rw [if_neg (by decide)]
  simp only [Array.getElem?_modify]
  rw [if_neg (fun e => hr e.symm)]
 have hb' : w'.heap[b]? = some (.cells c el (c.size, c.size + 1)) := by
  simp only [w', World.freeze]
  rw [if_neg (by decide)]
  simp only [Array.getElem?_modify, if_true, h5, Option.map_some]
  rfl
 have hrun : (execOp act.eval o).run P w = .ok (.value (.slice (some ⟨b, off, none⟩) (q9y bs).length cap)) w' := by
  unfold execOp
  rw [ho]
  have hsh : w.shape? b = some (el, c.size) := by simp [World.shape?, h5]
  simp [convert, run_underlying u1, run_underlying u1', hxv, markStringish, shape, freeze, Sem.run, hsh, Result.andThen]
  rfl
 let G' : Gh := { G with ow := fun r => if r = b then none else G.ow r }
 have g0 : ∀ r, G.ow r = none → G'.ow r = none := fun r hr => by simp only [G', hr]; split <;> rfl
 have hA : Adv G w G' w' := ⟨⟨rfl, Nat.le_refl _⟩, rfl, rfl, by rw [hsz]; exact Nat.le_refl _, fun r hr ho => ⟨hsame r (fun e => by rw [e, h3] at ho; cases ho), g0 r ho⟩⟩
 have hR' : Rel n B G' ⟨s.T, upd s.M k (some .dead)⟩ act w' := hR.update hA k .dead (by show qm1 (s.M k) _; rw [hk]; trivial) (fun _ _ _ => ⟨rfl, rfl⟩) (fun r key hr hn ho hne => by
  have hrb : r ≠ b := fun e => by rw [e, h3] at ho; cases ho; exact hne rfl
  exact ⟨hsame r hrb, by simp only [G', if_neg hrb]; exact ho⟩) (fun r hr => by
  rw [hsz]
  refine hR.ol r fun hn => hr (g0 r hn)) trivial
 unfold Oper.wp
 rw [hrun]
 refine hK _ _ _ w' G' ⟨rfl, rfl⟩ hA hR' ?_
 refine .sl 1 (q9y bs) b off cap (fun m => c.getD (off + m) undef) h2 (fun _ => ⟨h4, by simp [G']⟩) h8 h7 (fun m y hy => ?_) (fun m y hy => ?_)
 ·obtain ⟨q, hq, _⟩ := h9 m y hy
  simp only [World.cell?, hb']
  simp [hq]
 ·obtain ⟨q, hq, hr⟩ := h9 m y hy
  have hf : c.getD (off + m) undef = q := by simp [hq]
  rw [hf]
  have hy' := List.mem_of_getElem? hy
  rw [qdi] at hy'
  simp only [q9y, List.mem_map] at hy'
  obtain ⟨z, _, rfl⟩ := hy'
  cases hr
  exact .int _ _

def z9x : List SOp := [zO 4 (.assign (.const (.bool false)))]
instance : Live z9x := ⟨[0,1]⟩
def z9w : List SOp := [zM 5 0,zO 6 (.convert 28 9 (.tmp 5)),zM 7 1,zO 8 (.convert 28 9 (.tmp 7)),zO 9 (.binOp .eql 9 (.tmp 6) (.tmp 8) 9),zG 4 9]
instance : Live z9w := ⟨[0,1]⟩
def t_k13 : SC :=
 (.seq (.ops false z9x) (.seq (.ops false z9w) .ret))
theorem it_k13 : FnIs Tryz.prog 13 10 [.tmp 4] t_k13 := ⟨Tryz.f13, _, Tryz.func13, rfl, rfl, rfl, rfl, by kernel_rfl⟩

def r_k9_1 : List SOp := [zO 0 (.assign (.const (.bool false)))]
instance : Live r_k9_1 := ⟨[]⟩
def r_k9_2 : List SOp := [zO 8 (.buildSlice 22 1 #[(0,.const (.int .i64 4))]),zO 9 (.build 82 #[(0,.const (.int .i64 0)),(1,.const (.int .i64 6)),(2,.const (.int .i64 12))]),zO 10 (.build 82 #[(0,.const (.int .i64 1)),(1,.const (.int .i64 2)),(2,.const (.int .i64 2))]),zO 11 (.buildSlice 23 2 #[(0,.tmp 9),(1,.tmp 10)]),zO 12 (.build 25 #[(0,.tmp 8),(1,.tmp 11)]),zO 13 (.call ⟨.value (.func 12),#[.tmp 12],#[25]⟩),zM 7 13,zX 14 7 0,zX 15 7 1,zG 1 14,zG 2 15]
instance : Live r_k9_2 := ⟨[]⟩
def r_k9_3 : List SOp := [zM 16 2,zO 17 (.binOp .neq 35 (.tmp 16) (.const (.int .i64 0)) 35),zM 18 17,⟨some 19,.move (.tmp 1),some ((some 18),false)⟩,⟨some 20,.convert 28 9 (.tmp 19),some ((some 18),false)⟩,⟨some 21,.binOp .neq 9 (.tmp 20) (.const (.string ⟨#[1,4,2,0,0,6,1,0,0]⟩)) 9,some ((some 18),false)⟩,zO 22 (.pick (.tmp 18) (.const (.bool true)) (.tmp 21))]
instance : Live r_k9_3 := ⟨[1,2]⟩
def r_k9_4 : List SOp := [zO 0 (.assign (.const (.bool false)))]
instance : Live r_k9_4 := ⟨[]⟩
def qpn : List SOp := [zO 24 (.buildSlice 28 6 #[(0,.const (.int .u8 1)),(1,.const (.int .u8 2)),(2,.const (.int .u8 0)),(3,.const (.int .u8 1)),(4,.const (.int .u8 65)),(5,.const (.int .u8 4))]),zO 25 (.convert 28 28 (.tmp 24)),zO 26 (.call ⟨.value (.func 24),#[.tmp 25],#[28]⟩),zM 23 26,zX 27 23 0,zX 28 23 1,zG 3 27,zG 4 28]
instance : Live qpn := ⟨[]⟩
def r_k9_6 : List SOp := [zM 29 4,zO 30 (.binOp .neq 35 (.tmp 29) (.const (.int .i64 0)) 35),zM 31 30,⟨some 32,.move (.tmp 3),some ((some 31),false)⟩,⟨some 33,.build 43 #[(0,.const (.int .i64 2)),(1,.const (.int .i64 1))],some ((some 31),false)⟩,⟨some 34,.build 45 #[(0,.tmp 33),(1,.const (.string ⟨#[65]⟩)),(2,.const (.int .i64 5))],some ((some 31),false)⟩,⟨some 35,.buildSlice 26 1 #[(0,.tmp 34)],some ((some 31),false)⟩,⟨some 36,.call ⟨.value (.func 17),#[.tmp 32,.tmp 35],#[26,26]⟩,some ((some 31),false)⟩,⟨some 37,.unOp .not 4 (.tmp 36),some ((some 31),false)⟩,zO 38 (.pick (.tmp 31) (.const (.bool true)) (.tmp 37))]
instance : Live r_k9_6 := ⟨[3,4]⟩
def r_k9_7 : List SOp := [zO 0 (.assign (.const (.bool false)))]
instance : Live r_k9_7 := ⟨[]⟩
def qpm : List SOp := [zO 40 (.buildSlice 28 5 #[(0,.const (.int .u8 1)),(1,.const (.int .u8 0)),(2,.const (.int .u8 1)),(3,.const (.int .u8 1)),(4,.const (.int .u8 0))]),zO 41 (.convert 28 28 (.tmp 40)),zO 42 (.call ⟨.value (.func 26),#[.tmp 41],#[28]⟩),zM 39 42,zX 43 39 0,zX 44 39 1,zG 5 43,zG 6 44]
instance : Live qpm := ⟨[]⟩
def r_k9_9 : List SOp := [zM 45 6,zO 46 (.binOp .eql 35 (.tmp 45) (.const (.int .i64 0)) 35),zM 47 46,⟨some 48,.move (.tmp 5),some ((some 47),true)⟩,⟨some 49,.buildSlice 22 1 #[(0,.const (.int .i64 1))],some ((some 47),true)⟩,⟨some 50,.build 25 #[(0,.tmp 49)],some ((some 47),true)⟩,⟨some 51,.build 84 #[(1,.tmp 50)],some ((some 47),true)⟩,⟨some 52,.buildSlice 27 1 #[(0,.tmp 51)],some ((some 47),true)⟩,⟨some 53,.call ⟨.value (.func 27),#[.tmp 48,.tmp 52],#[27,27]⟩,some ((some 47),true)⟩,zO 54 (.pick (.tmp 47) (.tmp 53) (.const (.bool false))),zG 0 54]
instance : Live r_k9_9 := ⟨[5,6]⟩
def t_k9 : SC :=
 (.seq (.ops false r_k9_1) (.seq (.ops false r_k9_2) (.seq (.seq (.ops false r_k9_3) (.cond (.tmp 22) (.seq (.ops false r_k9_4) .ret) .skip)) (.seq (.ops false qpn) (.seq (.seq (.ops false r_k9_6) (.cond (.tmp 38) (.seq (.ops false r_k9_7) .ret) .skip)) (.seq (.ops false qpm) (.seq (.ops false r_k9_9) .ret)))))))
theorem it_k9 : FnIs Tryz.prog 9 55 [.tmp 0] t_k9 := ⟨Tryz.f9, _, Tryz.func9, rfl, rfl, rfl, rfl, by kernel_rfl⟩

def qdz (b : Bs) : ByteArray := ⟨b.toArray⟩
theorem z1t {a b : Bs} (h : qdz a = qdz b) : a = b := by
 have := congrArg (fun x => x.data.toList) h
 simpa [qdz] using this
abbrev numsB (b : Bs) : List Int := b.map fun c => (c.toNat : Int)
theorem qd2 (b : Bs) : z02 (numsB b) = qdz b := by
 have key : ∀ (b : Bs) (r : ByteArray), (numsB b).foldl (fun r n => r.push (UInt8.ofNat n.toNat)) r = ⟨r.data ++ b.toArray⟩ := by
  intro b
  induction b with
  | nil => intro r; simp [numsB]
  | cons c b ih =>
   intro r
   show (numsB b).foldl _ (r.push (UInt8.ofNat ((c.toNat : Int)).toNat)) = _
   rw [ih, Int.toNat_natCast, UInt8.ofNat_toNat]
   simp [ByteArray.push]
 have := key b ByteArray.empty
 unfold z02
 rw [this]
 simp [qdz]
theorem ev_k13 (a b : Bs) : Ev (En Tryz.prog rfl).P 13 [.sl 1 (q16 a), .sl 1 (q16 b)] (.ret (.bool (decide (a = b)))) := by
 refine Ev.of_body it_k13 (by simp) (Run.start ?_)
 unfold t_k13
 have n1 := q52 a
 have n2 := q52 b
 have s1 := qd2 a
 have s2 := qd2 b
 have hd : decide (qdz a = qdz b) = decide (a = b) := by
  by_cases h : a = b
  ·subst h; simp
  ·have : qdz a ≠ qdz b := fun e => h (z1t e)
   simp [h, this]
 (focus (have hF := (aI (aI @n1 @n2) (aI @s1 (aI @s2 @hd))); (repeat' (first | refine go1 (k:=?_) | with_reducible refine Ny.of ?_ ?_ | (refine Hyp.of ?_; intro hc; (try simp only [hc]); (try simp only [Bh] at hc)))); all_goals clear hF))
 exact Fin.all rfl rfl rfl
theorem qbz {α : Type} {z x : α} {ok : α → Bool} {b : Bs} {r : Rs α} (h : r = .ok (x, b.length)) (ho : ok x = true) : qns z ok b r = x ∧ qz1 z ok b r = 0 := by
 have hr : qck b r = true := by rw [h]; simp [qck, rdA, rdE, q3l]
 have hv : rdV z r = x := by rw [h]; rfl
 unfold qns qz1
 rw [hr, hv, ho]
 exact ⟨rfl, rfl⟩
theorem ev_k9 : Ev (En Tryz.prog rfl).P 9 [] (.ret (.bool true)) := by
 have c1 : Ev (En Tryz.prog rfl).P 12 [q19 fixP] (.ret (.tup [.sl 1 (q16 z0p), .int .i64 0])) := by
  have := zbx fixP (by decide) fun h => (q44 h).pw (by decide)
  rw [zba, z0o] at this
  exact this
 have e2 : q09 qfg 0 = .ok (qnv, qfg.length) := q9m (by rw [z0q]; exact St.all _) (qc0 qc2) (qz5 qc2) (by decide)
 have c2 : Ev (En Tryz.prog rfl).P 24 [.sl 1 (q16 qfg)] (.ret (.tup [.sl 4 (q1b qnv), .int .i64 0])) := by
  have := zbn qfg (by decide) (by rw [e2]; exact (by decide : qnv.length ≤ 1000000000))
  obtain ⟨h1, h2⟩ := qbz (z := []) (ok := q3z) e2 qc2
  rw [h1, h2] at this
  exact this
 have c3 : Ev (En Tryz.prog rfl).P 17 [.sl 4 (q1b qnv), .sl 4 (q1b qnv)] (.ret (.bool true)) := ev_k17 qnv (by decide)
 have e4 : q07 qff 0 = .ok (qlz, qff.length) := q9j (by rw [z0n]; exact St.all _) (fun r hr => (q8b qc1 r hr).1) (fun r hr => (q8b qc1 r hr).2) (by decide)
 have c4 : Ev (En Tryz.prog rfl).P 26 [.sl 1 (q16 qff)] (.ret (.tup [.sl 3 (q1a qlz), .int .i64 0])) := by
  have hw : ∀ r ∈ qlz, wt r.past ≤ 40000000 := by decide
  have := zbm qff (by decide) (by rw [e4]; exact (by decide : qlz.length ≤ 1000000000)) (by rw [e4]; exact hw)
  obtain ⟨h1, h2⟩ := qbz (z := []) (ok := q4f) e4 qc1
  rw [h1, h2] at this
  exact this
 have c5 : Ev (En Tryz.prog rfl).P 27 [.sl 3 (q1a qlz), .sl 3 (q1a qlz)] (.ret (.bool true)) := ev_k27 qlz (by decide) (by decide)
 refine Ev.of_body it_k9 (by simp) (Run.start ?_)
 unfold t_k9
 have hS := qgw
 generalize hx : SC.ops false qpn = X
 generalize hy : SC.ops false qpm = Y
 (focus (have hF := @q00; (repeat' (first | refine go1 (k:=?_) | with_reducible refine Ny.of ?_ ?_ | (refine Hyp.of ?_; intro hc; (try simp only [hc]); (try simp only [Bh] at hc)))); all_goals clear hF))
 refine q02 [q19 fixP] (he := c1) (k:=?_)
 have n1 := q52 z0p
 have s1 := qgv z0p
 have d1 : ((⟨z0p.toArray⟩ : ByteArray) = ⟨#[1, 4, 2, 0, 0, 6, 1, 0, 0]⟩) = True := eq_true rfl
 (focus (have hF := (aI @n1 (aI @s1 @d1)); (repeat' (first | refine go1 (k:=?_) | with_reducible refine Ny.of ?_ ?_ | (refine Hyp.of ?_; intro hc; (try simp only [hc]); (try simp only [Bh] at hc)))); all_goals clear hF))
 subst hx
 refine Run.ops ?_
 unfold qpn
 refine q2d (qde (TE := TE0) (En Tryz.prog rfl).hT (s := ⟨_, _⟩) (sz := 1) (xs := q9y qfg) (by decide) (by with_unfolding_all rfl) 24 (by with_unfolding_all rfl)) ?_
 rintro v M' ⟨rfl, rfl⟩
 dsimp only [AS.put]
 refine q2d (qki (TE := TE0) (En Tryz.prog rfl).hT (s := ⟨_, _⟩) TE_28 rfl TE_5 rfl (bs := qfg) (by decide) (k := 24) (e := 0) (by with_unfolding_all rfl) (by with_unfolding_all rfl)) ?_
 rintro v M' ⟨rfl, rfl⟩
 dsimp only [AS.put]
 refine q02 [.sl 1 (q16 qfg)] (he := c2) (k:=?_)
 (focus (have hF := @q00; (repeat' (first | refine go1 (k:=?_) | with_reducible refine Ny.of ?_ ?_ | (refine Hyp.of ?_; intro hc; (try simp only [hc]); (try simp only [Bh] at hc)))); all_goals clear hF))
 refine q02 [.sl 4 (q1b qnv), .sl 4 (q1b qnv)] (he := c3) (k:=?_)
 (focus (have hF := @q00; (repeat' (first | refine go1 (k:=?_) | with_reducible refine Ny.of ?_ ?_ | (refine Hyp.of ?_; intro hc; (try simp only [hc]); (try simp only [Bh] at hc)))); all_goals clear hF))
 subst hy
 refine Run.ops ?_
 unfold qpm
 refine q2d (qde (TE := TE0) (En Tryz.prog rfl).hT (s := ⟨_, _⟩) (sz := 1) (xs := q9y qff) (by decide) (by with_unfolding_all rfl) 40 (by with_unfolding_all rfl)) ?_
 rintro v M' ⟨rfl, rfl⟩
 dsimp only [AS.put]
 refine q2d (qki (TE := TE0) (En Tryz.prog rfl).hT (s := ⟨_, _⟩) TE_28 rfl TE_5 rfl (bs := qff) (by decide) (k := 40) (e := 0) (by with_unfolding_all rfl) (by with_unfolding_all rfl)) ?_
 rintro v M' ⟨rfl, rfl⟩
 dsimp only [AS.put]
 refine q02 [.sl 1 (q16 qff)] (he := c4) (k:=?_)
 (focus (have hF := @q00; (repeat' (first | refine go1 (k:=?_) | with_reducible refine Ny.of ?_ ?_ | (refine Hyp.of ?_; intro hc; (try simp only [hc]); (try simp only [Bh] at hc)))); all_goals clear hF))
 replace c5 : Ev (En Tryz.prog rfl).P 27 [.sl 3 (q1a qlz), .sl 3 [.agg [.str ⟨#[]⟩, .sl 1 (q04 [1]), .nil]]] _ := c5.wks ⟨Wkn.refl _, Wkn.sl rfl ⟨Wkn.refl _, Wkn.refl _, Wkn.nil 3, trivial⟩ (by decide) (by decide), trivial⟩
 refine q02 [.sl 3 (q1a qlz), .sl 3 [.agg [.str ⟨#[]⟩, .sl 1 (q04 [1]), .nil]]] (he := c5) (k:=?_)
 (focus (have hF := @q00; (repeat' (first | refine go1 (k:=?_) | with_reducible refine Ny.of ?_ ?_ | (refine Hyp.of ?_; intro hc; (try simp only [hc]); (try simp only [Bh] at hc)))); all_goals clear hF))
 exact Fin.all rfl rfl rfl

def qna : List SOp := [zO 2 (.assign (.const (.bool false)))]
instance : Live qna := ⟨[0]⟩
def qn9 : List SOp := [zM 14 0,zO 15 (.call ⟨.value (.func 23),#[.tmp 14],#[28]⟩),zM 13 15,zX 16 13 0,zX 17 13 1,zO 3 (.alloc 25),⟨none,.store 25 (.tmp 3) (.tmp 16),none⟩,zG 4 17]
instance : Live qn9 := ⟨[0]⟩
def qn8 : List SOp := [zM 18 4,zO 19 (.binOp .eql 35 (.tmp 18) (.const (.int .i64 0)) 35)]
instance : Live qn8 := ⟨[0,3,4]⟩
def qn7 : List SOp := [zL 21 25 3,zO 22 (.call ⟨.value (.func 12),#[.tmp 21],#[25]⟩),zM 20 22,zX 23 20 0,zX 24 20 1,zG 5 23,zG 6 24]
instance : Live qn7 := ⟨[0,3]⟩
def qn6 : List SOp := [zM 25 6,zO 26 (.binOp .neq 35 (.tmp 25) (.const (.int .i64 0)) 35),zM 27 26,⟨some 28,.move (.tmp 0),some ((some 27),false)⟩,⟨some 29,.move (.tmp 5),some ((some 27),false)⟩,⟨some 30,.call ⟨.value (.func 13),#[.tmp 28,.tmp 29],#[28,28]⟩,some ((some 27),false)⟩,⟨some 31,.unOp .not 4 (.tmp 30),some ((some 27),false)⟩,zO 32 (.pick (.tmp 27) (.const (.bool true)) (.tmp 31)),zM 33 32,⟨some 34,.load 25 (.tmp 3),some ((some 33),false)⟩,⟨some 35,.call ⟨.value (.func 22),#[.tmp 34],#[25]⟩,some ((some 33),false)⟩,⟨some 36,.unOp .not 4 (.tmp 35),some ((some 33),false)⟩,zO 37 (.pick (.tmp 33) (.const (.bool true)) (.tmp 36))]
instance : Live qn6 := ⟨[0,3,5,6]⟩
def qn5 : List SOp := [zO 2 (.assign (.const (.bool false)))]
instance : Live qn5 := ⟨[]⟩
def qn4 : List SOp := [zM 39 0,zO 40 (.call ⟨.value (.func 24),#[.tmp 39],#[28]⟩),zM 38 40,zX 41 38 0,zX 42 38 1,zG 7 41,zG 4 42]
instance : Live qn4 := ⟨[0]⟩
def qn3 : List SOp := [zM 43 4,zO 44 (.binOp .eql 35 (.tmp 43) (.const (.int .i64 0)) 35)]
instance : Live qn3 := ⟨[0,4,7]⟩
def qn2 : List SOp := [zM 46 7,zO 47 (.call ⟨.value (.func 15),#[.tmp 46],#[26]⟩),zM 45 47,zX 48 45 0,zX 49 45 1,zG 8 48,zG 9 49]
instance : Live qn2 := ⟨[0,7]⟩
def qep : List SOp := [zM 50 9,zO 51 (.binOp .neq 35 (.tmp 50) (.const (.int .i64 0)) 35),zM 52 51,⟨some 53,.move (.tmp 0),some ((some 52),false)⟩,⟨some 54,.move (.tmp 8),some ((some 52),false)⟩,⟨some 55,.call ⟨.value (.func 13),#[.tmp 53,.tmp 54],#[28,28]⟩,some ((some 52),false)⟩,⟨some 56,.unOp .not 4 (.tmp 55),some ((some 52),false)⟩,zO 57 (.pick (.tmp 52) (.const (.bool true)) (.tmp 56)),zM 58 57,⟨some 59,.move (.tmp 7),some ((some 58),false)⟩,⟨some 60,.call ⟨.value (.func 16),#[.tmp 59],#[26]⟩,some ((some 58),false)⟩,⟨some 61,.unOp .not 4 (.tmp 60),some ((some 58),false)⟩,zO 62 (.pick (.tmp 58) (.const (.bool true)) (.tmp 61))]
instance : Live qep := ⟨[0,7,8,9]⟩
def qeo : List SOp := [zO 2 (.assign (.const (.bool false)))]
instance : Live qeo := ⟨[]⟩
def qen : List SOp := [zM 64 0,zO 65 (.call ⟨.value (.func 26),#[.tmp 64],#[28]⟩),zM 63 65,zX 66 63 0,zX 67 63 1,zG 10 66,zG 4 67]
instance : Live qen := ⟨[0]⟩
def qem : List SOp := [zM 68 4,zO 69 (.binOp .eql 35 (.tmp 68) (.const (.int .i64 0)) 35)]
instance : Live qem := ⟨[0,4,10]⟩
def qel : List SOp := [zM 71 10,zO 72 (.call ⟨.value (.func 20),#[.tmp 71],#[27]⟩),zM 70 72,zX 73 70 0,zX 74 70 1,zG 11 73,zG 12 74]
instance : Live qel := ⟨[0,10]⟩
def qek : List SOp := [zM 75 12,zO 76 (.binOp .eql 35 (.tmp 75) (.const (.int .i64 0)) 35),zM 77 76,⟨some 78,.move (.tmp 0),some ((some 77),true)⟩,⟨some 79,.move (.tmp 11),some ((some 77),true)⟩,⟨some 80,.call ⟨.value (.func 13),#[.tmp 78,.tmp 79],#[28,28]⟩,some ((some 77),true)⟩,zO 81 (.pick (.tmp 77) (.tmp 80) (.const (.bool false))),zM 82 81,⟨some 83,.move (.tmp 10),some ((some 82),true)⟩,⟨some 84,.call ⟨.value (.func 25),#[.tmp 83],#[27]⟩,some ((some 82),true)⟩,⟨some 85,.binOp .eql 35 (.tmp 84) (.const (.int .i64 0)) 35,some ((some 82),true)⟩,zO 86 (.pick (.tmp 82) (.tmp 85) (.const (.bool false))),zG 2 86]
instance : Live qek := ⟨[0,10,11,12]⟩
def qej : List SOp := [zM 87 4,zO 88 (.binOp .eql 35 (.tmp 87) (.const (.int .i64 8)) 35),zG 2 88]
instance : Live qej := ⟨[4]⟩
def t_k28 : SC :=
 (.seq (.ops false qna) (.seq (.ops false qn9) (.seq (.seq (.ops false qn8) (.cond (.tmp 19) (.seq (.ops false qn7) (.seq (.ops false qn6) (.cond (.tmp 37) (.seq (.ops false qn5) .ret) .skip))) .skip)) (.seq (.ops false qn4) (.seq (.seq (.ops false qn3) (.cond (.tmp 44) (.seq (.ops false qn2) (.seq (.ops false qep) (.cond (.tmp 62) (.seq (.ops false qeo) .ret) .skip))) .skip)) (.seq (.ops false qen) (.seq (.seq (.ops false qem) (.cond (.tmp 69) (.seq (.ops false qel) (.seq (.ops false qek) .ret)) .skip)) (.seq (.ops false qej) .ret))))))))
theorem it_k28 : FnIs Tryz.prog 28 89 [.tmp 2] t_k28 := ⟨Tryz.f28, _, Tryz.func28, rfl, rfl, rfl, rfl, by kernel_rfl⟩

section
def qfb : SC := .seq (.ops false qen) (.seq (.seq (.ops false qem) (.cond (.tmp 69) (.seq (.ops false qel) (.seq (.ops false qek) .ret)) .skip)) (.seq (.ops false qej) .ret))
def qfc : SC := .seq (.ops false qn4) (.seq (.seq (.ops false qn3) (.cond (.tmp 44) (.seq (.ops false qn2) (.seq (.ops false qep) (.cond (.tmp 62) (.seq (.ops false qeo) .ret) .skip))) .skip)) qfb)
def qnu : SC := .seq (.ops false qna) (.seq (.ops false qn9) (.seq (.seq (.ops false qn8) (.cond (.tmp 19) (.seq (.ops false qn7) (.seq (.ops false qn6) (.cond (.tmp 37) (.seq (.ops false qn5) .ret) .skip))) .skip)) qfc))
theorem zb7 : t_k28 = qnu := rfl
abbrev qkj : Ex → AS → Prop := FnQ (En Tryz.prog rfl).TE [.tmp 2] (.ret (.bool true))
section
variable (b : Bs) (hb : b.length ≤ 20000000) (sb : Ev (En Tryz.prog rfl).P 13 [.sl 1 (q16 b), .sl 1 (q16 b)] (.ret (.bool true)))
include hb sb
theorem forth_3 (v3 : List Rec) (r3 : Int) (w3 : v3.length ≤ b.length) (w4 : ∀ r ∈ v3, wt r.past ≤ 16 + b.length) (g3 : Ev (En Tryz.prog rfl).P 26 [.sl 1 (q16 b)] (.ret (.tup [.sl 3 (q1a v3), .int .i64 r3])))
 (t3 : (r3 = 0 ∧ q4f v3 = true ∧ b = q0r v3) ∨ r3 = 8) : Run (En Tryz.prog rfl) 89 qkj qfb .done ⟨tms [(0, .sl 1 (q16 b))], mms []⟩ := by
 have hS := qgw
 unfold qfb
 (focus (have hF := @q00; (repeat' (first | refine go1 (k:=?_) | with_reducible refine Ny.of ?_ ?_ | (refine Hyp.of ?_; intro hc; (try simp only [hc]); (try simp only [Bh] at hc)))); all_goals clear hF))
 refine q02 [.sl 1 (q16 b)] (he := g3) (k:=?_)
 rcases t3 with ⟨rfl, h1, h2⟩ | rfl
 ·have hk := q8b h1
  have hrw : RW v3 ∧ (q0r v3).length ≤ 600000000000 := by
   refine ⟨⟨by omega, fun r hr => ⟨by have := (hk r hr).1.1; omega, (hk r hr).1.2.pw ?_⟩⟩, by rw [← h2]; omega⟩
   have := w4 r hr
   unfold wt at this
   omega
  have c1 := ev_k20 v3 (by omega) (fun r hr => by have := w4 r hr; omega) (fun _ => hrw)
  rw [h1, ← h2] at c1
  have c1' : Ev (En Tryz.prog rfl).P 20 [.sl 3 (q1a v3)] (.ret (.tup [.sl 1 (q16 b), .int .i64 0])) := c1
  have c2 := q74 v3 (by omega) (fun r hr => by have := w4 r hr; omega)
  rw [h1, if_pos rfl] at c2
  (focus (have hF := @q00; (repeat' (first | refine go1 (k:=?_) | with_reducible refine Ny.of ?_ ?_ | (refine Hyp.of ?_; intro hc; (try simp only [hc]); (try simp only [Bh] at hc)))); all_goals clear hF))
  refine q02 [.sl 3 (q1a v3)] (he := c1') (k:=?_)
  (focus (have hF := @q00; (repeat' (first | refine go1 (k:=?_) | with_reducible refine Ny.of ?_ ?_ | (refine Hyp.of ?_; intro hc; (try simp only [hc]); (try simp only [Bh] at hc)))); all_goals clear hF))
  refine q02 [.sl 1 (q16 b), .sl 1 (q16 b)] (he := sb) (k:=?_)
  (focus (have hF := @q00; (repeat' (first | refine go1 (k:=?_) | with_reducible refine Ny.of ?_ ?_ | (refine Hyp.of ?_; intro hc; (try simp only [hc]); (try simp only [Bh] at hc)))); all_goals clear hF))
  refine q02 [.sl 3 (q1a v3)] (he := c2) (k:=?_)
  (focus (have hF := @q00; (repeat' (first | refine go1 (k:=?_) | with_reducible refine Ny.of ?_ ?_ | (refine Hyp.of ?_; intro hc; (try simp only [hc]); (try simp only [Bh] at hc)))); all_goals clear hF))
  exact Fin.all rfl rfl rfl
 ·(focus (have hF := @q00; (repeat' (first | refine go1 (k:=?_) | with_reducible refine Ny.of ?_ ?_ | (refine Hyp.of ?_; intro hc; (try simp only [hc]); (try simp only [Bh] at hc)))); all_goals clear hF))
  exact Fin.all rfl rfl rfl
theorem forth_2 (v2 : List Ent) (r2 : Int) (w2 : v2.length ≤ b.length) (g2 : Ev (En Tryz.prog rfl).P 24 [.sl 1 (q16 b)] (.ret (.tup [.sl 4 (q1b v2), .int .i64 r2])))
 (t2 : (r2 = 0 ∧ q3z v2 = true ∧ b = q0y v2) ∨ r2 = 8) (h3 : Run (En Tryz.prog rfl) 89 qkj qfb .done ⟨tms [(0, .sl 1 (q16 b))], mms []⟩) : Run (En Tryz.prog rfl) 89 qkj qfc .done ⟨tms [(0, .sl 1 (q16 b))], mms []⟩ := by
 have hS := qgw
 unfold qfc
 (focus (have hF := @q00; (repeat' (first | refine go1 (k:=?_) | with_reducible refine Ny.of ?_ ?_ | (refine Hyp.of ?_; intro hc; (try simp only [hc]); (try simp only [Bh] at hc)))); all_goals clear hF))
 refine q02 [.sl 1 (q16 b)] (he := g2) (k:=?_)
 rcases t2 with ⟨rfl, h1, h2⟩ | rfl
 ·have c1 := ev_k15 v2 (by omega) (fun h => qad (by omega) h)
  rw [h1, ← h2] at c1
  have c1' : Ev (En Tryz.prog rfl).P 15 [.sl 4 (q1b v2)] (.ret (.tup [.sl 1 (q16 b), .int .i64 0])) := c1
  have c2 := ev_k16 v2 (by omega)
  rw [h1] at c2
  (focus (have hF := @q00; (repeat' (first | refine go1 (k:=?_) | with_reducible refine Ny.of ?_ ?_ | (refine Hyp.of ?_; intro hc; (try simp only [hc]); (try simp only [Bh] at hc)))); all_goals clear hF))
  refine q02 [.sl 4 (q1b v2)] (he := c1') (k:=?_)
  (focus (have hF := @q00; (repeat' (first | refine go1 (k:=?_) | with_reducible refine Ny.of ?_ ?_ | (refine Hyp.of ?_; intro hc; (try simp only [hc]); (try simp only [Bh] at hc)))); all_goals clear hF))
  refine q02 [.sl 1 (q16 b), .sl 1 (q16 b)] (he := sb) (k:=?_)
  (focus (have hF := @q00; (repeat' (first | refine go1 (k:=?_) | with_reducible refine Ny.of ?_ ?_ | (refine Hyp.of ?_; intro hc; (try simp only [hc]); (try simp only [Bh] at hc)))); all_goals clear hF))
  refine q02 [.sl 4 (q1b v2)] (he := c2) (k:=?_)
  (focus (have hF := @q00; (repeat' (first | refine go1 (k:=?_) | with_reducible refine Ny.of ?_ ?_ | (refine Hyp.of ?_; intro hc; (try simp only [hc]); (try simp only [Bh] at hc)))); all_goals clear hF))
  exact Run.wk (have hW := True.intro; q0v) h3
 ·(focus (have hF := @q00; (repeat' (first | refine go1 (k:=?_) | with_reducible refine Ny.of ?_ ?_ | (refine Hyp.of ?_; intro hc; (try simp only [hc]); (try simp only [Bh] at hc)))); all_goals clear hF))
  exact Run.wk (have hW := True.intro; q0v) h3
theorem forth_1 (v1 : Pst) (r1 : Int) (w1 : wt v1 ≤ 16 + b.length) (g1 : Ev (En Tryz.prog rfl).P 23 [.sl 1 (q16 b)] (.ret (.tup [q19 v1, .int .i64 r1])))
 (t1 : (r1 = 0 ∧ q0t v1 = true ∧ b = q2p v1) ∨ r1 = 8) (h2' : Run (En Tryz.prog rfl) 89 qkj qfc .done ⟨tms [(0, .sl 1 (q16 b))], mms []⟩) : Run (En Tryz.prog rfl) 89 qkj qnu .done ⟨q4u [.sl 1 (q16 b)], NoM⟩ := by
 have hS := qgw
 unfold qnu
 (focus (have hF := @q00; (repeat' (first | refine go1 (k:=?_) | with_reducible refine Ny.of ?_ ?_ | (refine Hyp.of ?_; intro hc; (try simp only [hc]); (try simp only [Bh] at hc)))); all_goals clear hF))
 refine q02 [.sl 1 (q16 b)] (he := g1) (k:=?_)
 rcases t1 with ⟨rfl, h1, h2⟩ | rfl
 ·have c1 := zbx v1 (by omega) (fun h => (q44 h).pw (by unfold wt at w1; omega))
  rw [h1, ← h2] at c1
  have c1' : Ev (En Tryz.prog rfl).P 12 [q19 v1] (.ret (.tup [.sl 1 (q16 b), .int .i64 0])) := c1
  have c2 := zbo v1 (by omega)
  rw [h1] at c2
  unfold q19
  (focus (have hF := @q00; (repeat' (first | refine go1 (k:=?_) | with_reducible refine Ny.of ?_ ?_ | (refine Hyp.of ?_; intro hc; (try simp only [hc]); (try simp only [Bh] at hc)))); all_goals clear hF))
  refine q02 [q19 v1] (he := c1') (k:=?_)
  (focus (have hF := @q00; (repeat' (first | refine go1 (k:=?_) | with_reducible refine Ny.of ?_ ?_ | (refine Hyp.of ?_; intro hc; (try simp only [hc]); (try simp only [Bh] at hc)))); all_goals clear hF))
  refine q02 [.sl 1 (q16 b), .sl 1 (q16 b)] (he := sb) (k:=?_)
  (focus (have hF := @q00; (repeat' (first | refine go1 (k:=?_) | with_reducible refine Ny.of ?_ ?_ | (refine Hyp.of ?_; intro hc; (try simp only [hc]); (try simp only [Bh] at hc)))); all_goals clear hF))
  refine q02 [q19 v1] (he := c2) (k:=?_)
  (focus (have hF := @q00; (repeat' (first | refine go1 (k:=?_) | with_reducible refine Ny.of ?_ ?_ | (refine Hyp.of ?_; intro hc; (try simp only [hc]); (try simp only [Bh] at hc)))); all_goals clear hF))
  exact Run.wk (have hW := True.intro; q0v) h2'
 ·unfold q19
  (focus (have hF := @q00; (repeat' (first | refine go1 (k:=?_) | with_reducible refine Ny.of ?_ ?_ | (refine Hyp.of ?_; intro hc; (try simp only [hc]); (try simp only [Bh] at hc)))); all_goals clear hF))
  exact Run.wk (have hW := True.intro; q0v) h2'
end
theorem zbl (b : Bs) (hb : b.length ≤ 20000000) : Ev (En Tryz.prog rfl).P 28 [.sl 1 (q16 b)] (.ret (.bool true)) := by
 have w1 := rPast_wt b
 have w2 := qk2 b
 obtain ⟨w3, w4⟩ := qjy b
 have g1 := ev_k23 b (by omega) (by omega)
 have g2 := zbn b (by omega) (by omega)
 have g3 := zbm b (by omega) (by omega) (fun r hr => by have := w4 r hr; omega)
 have sb := ev_k13 b b
 rw [decide_eq_true rfl] at sb
 have t1 := qby (z := ⟨[], []⟩) (ok := q0t) (qev b 0) (fun x a h => (qeu h).2)
 have t2 := qby (z := []) (ok := q3z) (qbb b 0) (fun x a h => (q7e h).2)
 have t3 := qby (z := []) (ok := q4f) (qb9 b 0) (fun x a h => (q5e h).2.2)
 refine Ev.of_body it_k28 (by simp) (Run.start ?_)
 rw [zb7]
 refine forth_1 b hb sb (qns ⟨[], []⟩ q0t b (q1k b 0)) (qz1 ⟨[], []⟩ q0t b (q1k b 0)) ?_ g1 ?_ (forth_2 b hb sb (qns [] q3z b (q09 b 0)) (qz1 [] q3z b (q09 b 0)) ?_ g2 ?_ (forth_3 b hb sb (qns [] q4f b (q07 b 0)) (qz1 [] q4f b (q07 b 0)) ?_ ?_ g3 ?_))
 ·rcases t1 with ⟨_, _, h⟩ | ⟨_, h, _⟩
  ·exact (qeu h).1
  ·rw [h]; exact Nat.zero_le _
 ·rcases t1 with ⟨h1, h2, h3⟩ | ⟨h, _⟩
  ·exact .inl ⟨h1, h2, (qba h3).1.whole⟩
  ·exact .inr h
 ·rcases t2 with ⟨_, _, h⟩ | ⟨_, h, _⟩
  ·exact (q7e h).1
  ·rw [h]; exact Nat.zero_le _
 ·rcases t2 with ⟨h1, h2, h3⟩ | ⟨h, _⟩
  ·exact .inl ⟨h1, h2, (q9n h3).1.whole⟩
  ·exact .inr h
 ·rcases t3 with ⟨_, _, h⟩ | ⟨_, h, _⟩
  ·exact (q5e h).1
  ·rw [h]; exact Nat.zero_le _
 ·rcases t3 with ⟨_, _, h⟩ | ⟨_, h, _⟩
  ·exact (q5e h).2.1
  ·rw [h]; exact fun r hr => by cases hr
 ·rcases t3 with ⟨h1, h2, h3⟩ | ⟨h, _⟩
  ·exact .inl ⟨h1, h2, (q9k h3).1.whole⟩
  ·exact .inr h
end
theorem qlc : Tryz.prog.cellsOf 9 = 1 := by kernel_rfl
theorem qld : Tryz.prog.cellsOf 84 = 3 := by kernel_rfl
theorem qle : Tryz.prog.cellsOf 45 = 4 := by kernel_rfl
theorem qds : Tryz.prog.cellsOf 27 = 1 := by kernel_rfl
theorem qdt : Tryz.prog.cellsOf 26 = 1 := by kernel_rfl
theorem op_str : Opens Tryz.prog 9 ByteArray (fun _ => True) (fun s => [.str s]) (fun s => s.size + 1) := Opens.string Tryz.underlying9
def okK (r : Rec) : Prop := okP r.past
def cellsK (r : Rec) : List AVal := [.str r.sku, .sl 1 (q04 r.past.vec), .sl 3 (q0g r.past.cloud)]
theorem op_Rec : Opens Tryz.prog 84 Rec okK cellsK wtK :=
 (Opens.struct Tryz.underlying84 qld (OpensF.cons (k := 1) op_str (fun _ => rfl) qlc rfl (OpensF.cons (k := 2) qnf (fun _ => rfl) q6w rfl (OpensF.nil _)))).map
  (fun x => ⟨x.1, x.2.1⟩) (fun x h => h.2.1) (fun _ => rfl) (fun x => by show wt x.2.1 + 1 ≤ x.1.size + 1 + (wt x.2.1 + 0) + 1; omega)
theorem zaf : Opens Tryz.prog 27 (List Rec) (fun l => ∀ x ∈ l, okK x) (fun l => [.sl 3 (q1a l)]) (wtL wtK) :=
 Opens.slice (mk := qc8) Tryz.underlying27 op_Rec qld (by decide) (fun _ => rfl) (fun _ => rfl) (fun x y hy => by simp [cellsK] at hy; rcases hy with rfl | rfl | rfl <;> rfl)
def okE (e : Ent) : Prop := True
def cellsE (e : Ent) : List AVal := [.int .i64 e.rep, .int .i64 e.num, .str e.sku, .int .i64 e.qty]
theorem op_Ent : Opens Tryz.prog 45 Ent okE cellsE (fun _ => 1) :=
 (Opens.struct Tryz.underlying45 qle (OpensF.cons (k := 2) op_Dot (fun _ => rfl) qlf rfl (OpensF.cons (k := 1) op_str (fun _ => rfl) qlc rfl (OpensF.cons (k := 1) qbh (fun _ => rfl) q4e rfl (OpensF.nil _))))).map
  (fun x => ⟨x.1.1, x.1.2, x.2.1, x.2.2.1⟩) (fun x h => trivial) (fun _ => rfl) (fun _ => Nat.le_add_left _ _)
theorem zag : Opens Tryz.prog 26 (List Ent) (fun l => ∀ x ∈ l, okE x) (fun l => [.sl 4 (q1b l)]) (wtL fun _ => 1) :=
 Opens.slice (mk := encE) Tryz.underlying26 op_Ent qle (by decide) (fun _ => rfl) (fun _ => rfl) (fun x y hy => by simp [cellsE] at hy; rcases hy with rfl | rfl | rfl | rfl <;> rfl)
structure CasK where
 r : List Rec
 q : List Rec
 a : List Ent
 b : List Ent
 p : Pst
 o : Pst

section
open Go.Proofs Go.ChangeShapes Go.WideShapes Go.ChangeAt Go.RowKit
theorem Opens.byte {P : Program} {t : TypeId} (ht : P.underlying t = some (.int .u8)) : Opens P t UInt8 (fun _ => True) (fun c => [.int .u8 (c.toNat : Int)]) (fun _ => 1) := by
 refine ⟨fun {H} enc w fuel cs d ps h => ?_⟩
 obtain ⟨n, rfl, hx, hw⟩ := DataW.trod_int ht h
 have hd : d = .lit (.int .u8 n) := congrArg Prod.fst hx
 subst hd
 have hb := bounds_u8 hw
 refine ⟨UInt8.ofNat n.toNat, trivial, by simp [Rows.uptoBulk], rfl, fun i y v hy hv G hG => ?_⟩
 match i with
 | 0 =>
  simp only [List.getElem?_cons_zero, Option.some.injEq] at hy hv
  subst hy; subst hv
  have hn : ((UInt8.ofNat n.toNat).toNat : Int) = n := by
   rw [UInt8.toNat_ofNat']
   omega
  rw [hn]
  exact .int _ _
 | i + 1 => simp at hy
theorem z13 : Tryz.prog.cellsOf 5 = 1 := by kernel_rfl
theorem q7j : Tryz.prog.cellsOf 28 = 1 := by kernel_rfl
def mkB (c : UInt8) : AVal := .int .u8 (c.toNat : Int)
theorem qez : Opens Tryz.prog 28 Bs (fun l => ∀ x ∈ l, True) (fun l => [.sl 1 (q16 l)]) (wtL fun _ => 1) :=
 Opens.slice (mk := mkB) Tryz.underlying28 (Opens.byte Tryz.underlying5) z13 (by decide) (fun _ => rfl) (fun _ => rfl) (fun x y hy => by simp at hy; subst hy; rfl)
structure CasP where
 p : Pst
 q : Pst
 es : List Ent
 fs : List Ent
 rs : List Rec
 ts : List Rec
 a : Bs
 b : Bs
 c : Bs
def q3t (x : CasP) : List AVal := [.sl 1 (q04 x.p.vec), .sl 3 (q0g x.p.cloud), .sl 1 (q04 x.q.vec), .sl 3 (q0g x.q.cloud), .sl 4 (q1b x.es), .sl 4 (q1b x.fs), .sl 3 (q1a x.rs), .sl 3 (q1a x.ts), .sl 1 (q16 x.a), .sl 1 (q16 x.b), .sl 1 (q16 x.c)]
def encZ (x : CasP) : AVal := .agg (q3t x)
def okZ (x : CasP) : Prop := okP x.p ∧ okP x.q
def wtZ (x : CasP) : Nat := wt x.p + wt x.q + x.es.length + x.fs.length + qls x.rs + qls x.ts + x.a.length + x.b.length + x.c.length
theorem qo9 : Tryz.prog.cellsOf 30 = 11 := by kernel_rfl
theorem op_CaseP : Opens Tryz.prog 30 CasP okZ q3t wtZ :=
 (Opens.struct Tryz.underlying30 qo9 (OpensF.cons (k := 2) qnf (fun _ => rfl) q6w rfl (OpensF.cons (k := 2) qnf (fun _ => rfl) q6w rfl
  (OpensF.cons (k := 1) zag (fun _ => rfl) qdt rfl (OpensF.cons (k := 1) zag (fun _ => rfl) qdt rfl (OpensF.cons (k := 1) zaf (fun _ => rfl) qds rfl (OpensF.cons (k := 1) zaf (fun _ => rfl) qds rfl
  (OpensF.cons (k := 1) qez (fun _ => rfl) q7j rfl (OpensF.cons (k := 1) qez (fun _ => rfl) q7j rfl (OpensF.cons (k := 1) qez (fun _ => rfl) q7j rfl (OpensF.nil _))))))))))).map
  (fun x => ⟨x.1, x.2.1, x.2.2.1, x.2.2.2.1, x.2.2.2.2.1, x.2.2.2.2.2.1, x.2.2.2.2.2.2.1, x.2.2.2.2.2.2.2.1, x.2.2.2.2.2.2.2.2.1⟩) (fun x h => ⟨h.1, h.2.1⟩) (fun _ => rfl)
  (fun x => by
   show wt x.1 + wt x.2.1 + x.2.2.1.length + x.2.2.2.1.length + qls x.2.2.2.2.1 + qls x.2.2.2.2.2.1 + x.2.2.2.2.2.2.1.length + x.2.2.2.2.2.2.2.1.length + x.2.2.2.2.2.2.2.2.1.length ≤
    wt x.1 + (wt x.2.1 + (wtL (fun _ => 1) x.2.2.1 + (wtL (fun _ => 1) x.2.2.2.1 + ((qls x.2.2.2.2.1 + 1) + ((qls x.2.2.2.2.2.1 + 1) + (wtL (fun _ => 1) x.2.2.2.2.2.2.1 + (wtL (fun _ => 1) x.2.2.2.2.2.2.2.1 + (wtL (fun _ => 1) x.2.2.2.2.2.2.2.2.1 + 0)))))))) + 1
   rw [q78, q78, q78, q78, q78]; omega)
end
def z4n : List SOp := [zO 1 (.box 30 (.tmp 0)),zO 2 (.assign (.const (.bool false)))]
instance : Live z4n := ⟨[0]⟩
def z4m : List SOp := [zO 15 (.call ⟨.value (.func 9),#[],#[]⟩),zO 16 (.unOp .not 4 (.tmp 15))]
instance : Live z4m := ⟨[1]⟩
def z4l : List SOp := [zO 2 (.assign (.const (.bool false)))]
instance : Live z4l := ⟨[]⟩
def z4k : List SOp := [zF 17 30 1 0,zL 18 25 17,zO 19 (.call ⟨.value (.func 22),#[.tmp 18],#[25]⟩)]
instance : Live z4k := ⟨[1]⟩
def z4j : List SOp := [zF 21 30 1 0,zL 22 25 21,zO 23 (.call ⟨.value (.func 12),#[.tmp 22],#[25]⟩),zM 20 23,zX 24 20 0,zX 25 20 1,zG 3 24,zG 4 25]
instance : Live z4j := ⟨[1]⟩
def z4i : List SOp := [zM 27 3,zO 28 (.call ⟨.value (.func 23),#[.tmp 27],#[28]⟩),zM 26 28,zX 29 26 0,zX 30 26 1,zO 5 (.alloc 25),⟨none,.store 25 (.tmp 5) (.tmp 29),none⟩,zG 6 30]
instance : Live z4i := ⟨[1,3,4]⟩
def z4h : List SOp := [zM 31 4,zO 32 (.binOp .neq 35 (.tmp 31) (.const (.int .i64 0)) 35),zM 33 32,⟨some 34,.move (.tmp 6),some ((some 33),false)⟩,⟨some 35,.binOp .neq 35 (.tmp 34) (.const (.int .i64 0)) 35,some ((some 33),false)⟩,zO 36 (.pick (.tmp 33) (.const (.bool true)) (.tmp 35)),zM 37 36,⟨some 38,.load 25 (.tmp 5),some ((some 37),false)⟩,⟨some 39,.fieldAddr 30 (.tmp 1) 0,some ((some 37),false)⟩,⟨some 40,.load 25 (.tmp 39),some ((some 37),false)⟩,⟨some 41,.call ⟨.value (.func 14),#[.tmp 38,.tmp 40],#[25,25]⟩,some ((some 37),false)⟩,⟨some 42,.unOp .not 4 (.tmp 41),some ((some 37),false)⟩,zO 43 (.pick (.tmp 37) (.const (.bool true)) (.tmp 42))]
instance : Live z4h := ⟨[1,4,5,6]⟩
def z4g : List SOp := [zO 2 (.assign (.const (.bool false)))]
instance : Live z4g := ⟨[]⟩
def z4f : List SOp := [zF 44 30 1 2,zL 45 26 44,zO 46 (.call ⟨.value (.func 16),#[.tmp 45],#[26]⟩)]
instance : Live z4f := ⟨[1]⟩
def qms : List SOp := [zF 48 30 1 2,zL 49 26 48,zO 50 (.call ⟨.value (.func 15),#[.tmp 49],#[26]⟩),zM 47 50,zX 51 47 0,zX 52 47 1,zG 7 51,zG 8 52]
instance : Live qms := ⟨[1]⟩
def qmr : List SOp := [zM 54 7,zO 55 (.call ⟨.value (.func 24),#[.tmp 54],#[28]⟩),zM 53 55,zX 56 53 0,zX 57 53 1,zG 9 56,zG 10 57]
instance : Live qmr := ⟨[1,7,8]⟩
def qmq : List SOp := [zM 58 8,zO 59 (.binOp .neq 35 (.tmp 58) (.const (.int .i64 0)) 35),zM 60 59,⟨some 61,.move (.tmp 10),some ((some 60),false)⟩,⟨some 62,.binOp .neq 35 (.tmp 61) (.const (.int .i64 0)) 35,some ((some 60),false)⟩,zO 63 (.pick (.tmp 60) (.const (.bool true)) (.tmp 62)),zM 64 63,⟨some 65,.move (.tmp 9),some ((some 64),false)⟩,⟨some 66,.fieldAddr 30 (.tmp 1) 2,some ((some 64),false)⟩,⟨some 67,.load 26 (.tmp 66),some ((some 64),false)⟩,⟨some 68,.call ⟨.value (.func 17),#[.tmp 65,.tmp 67],#[26,26]⟩,some ((some 64),false)⟩,⟨some 69,.unOp .not 4 (.tmp 68),some ((some 64),false)⟩,zO 70 (.pick (.tmp 64) (.const (.bool true)) (.tmp 69))]
instance : Live qmq := ⟨[1,8,9,10]⟩
def qmp : List SOp := [zO 2 (.assign (.const (.bool false)))]
instance : Live qmp := ⟨[]⟩
def qmo : List SOp := [zF 71 30 1 4,zL 72 27 71,zO 73 (.call ⟨.value (.func 25),#[.tmp 72],#[27]⟩),zO 74 (.binOp .eql 35 (.tmp 73) (.const (.int .i64 0)) 35)]
instance : Live qmo := ⟨[1]⟩
def qmn : List SOp := [zF 76 30 1 4,zL 77 27 76,zO 78 (.call ⟨.value (.func 20),#[.tmp 77],#[27]⟩),zM 75 78,zX 79 75 0,zX 80 75 1,zG 11 79,zG 12 80]
instance : Live qmn := ⟨[1]⟩
def qmm : List SOp := [zM 82 11,zO 83 (.call ⟨.value (.func 26),#[.tmp 82],#[28]⟩),zM 81 83,zX 84 81 0,zX 85 81 1,zG 13 84,zG 14 85]
instance : Live qmm := ⟨[1,11,12]⟩
def qml : List SOp := [zM 86 12,zO 87 (.binOp .neq 35 (.tmp 86) (.const (.int .i64 0)) 35),zM 88 87,⟨some 89,.move (.tmp 14),some ((some 88),false)⟩,⟨some 90,.binOp .neq 35 (.tmp 89) (.const (.int .i64 0)) 35,some ((some 88),false)⟩,zO 91 (.pick (.tmp 88) (.const (.bool true)) (.tmp 90)),zM 92 91,⟨some 93,.move (.tmp 13),some ((some 92),false)⟩,⟨some 94,.fieldAddr 30 (.tmp 1) 4,some ((some 92),false)⟩,⟨some 95,.load 27 (.tmp 94),some ((some 92),false)⟩,⟨some 96,.call ⟨.value (.func 27),#[.tmp 93,.tmp 95],#[27,27]⟩,some ((some 92),false)⟩,⟨some 97,.unOp .not 4 (.tmp 96),some ((some 92),false)⟩,zO 98 (.pick (.tmp 92) (.const (.bool true)) (.tmp 97))]
instance : Live qml := ⟨[1,12,13,14]⟩
def qmk : List SOp := [zO 2 (.assign (.const (.bool false)))]
instance : Live qmk := ⟨[]⟩
def qmj : List SOp := [zF 99 30 1 6,zL 100 28 99,zO 101 (.call ⟨.value (.func 28),#[.tmp 100],#[28]⟩),zM 102 101,⟨some 103,.fieldAddr 30 (.tmp 1) 7,some ((some 102),true)⟩,⟨some 104,.load 28 (.tmp 103),some ((some 102),true)⟩,⟨some 105,.call ⟨.value (.func 28),#[.tmp 104],#[28]⟩,some ((some 102),true)⟩,zO 106 (.pick (.tmp 102) (.tmp 105) (.const (.bool false))),zM 107 106,⟨some 108,.fieldAddr 30 (.tmp 1) 8,some ((some 107),true)⟩,⟨some 109,.load 28 (.tmp 108),some ((some 107),true)⟩,⟨some 110,.call ⟨.value (.func 28),#[.tmp 109],#[28]⟩,some ((some 107),true)⟩,zO 111 (.pick (.tmp 107) (.tmp 110) (.const (.bool false))),zG 2 111]
instance : Live qmj := ⟨[1]⟩
def t_k6 : SC :=
 (.seq (.ops false z4n) (.seq (.seq (.ops false z4m) (.cond (.tmp 16) (.seq (.ops false z4l) .ret) .skip)) (.seq (.seq (.ops false z4k) (.cond (.tmp 19) (.seq (.ops false z4j) (.seq (.ops false z4i) (.seq (.ops false z4h) (.cond (.tmp 43) (.seq (.ops false z4g) .ret) .skip)))) .skip)) (.seq (.seq (.ops false z4f) (.cond (.tmp 46) (.seq (.ops false qms) (.seq (.ops false qmr) (.seq (.ops false qmq) (.cond (.tmp 70) (.seq (.ops false qmp) .ret) .skip)))) .skip)) (.seq (.seq (.ops false qmo) (.cond (.tmp 74) (.seq (.ops false qmn) (.seq (.ops false qmm) (.seq (.ops false qml) (.cond (.tmp 98) (.seq (.ops false qmk) .ret) .skip)))) .skip)) (.seq (.ops false qmj) .ret))))))
theorem it_k6 : FnIs Tryz.prog 6 112 [.tmp 2] t_k6 := ⟨Tryz.f6, _, Tryz.func6, rfl, rfl, rfl, rfl, by kernel_rfl⟩

section
def zcj : SC := .seq (.ops false qmj) .ret
def zck : SC := .seq (.seq (.ops false qmo) (.cond (.tmp 74) (.seq (.ops false qmn) (.seq (.ops false qmm) (.seq (.ops false qml) (.cond (.tmp 98) (.seq (.ops false qmk) .ret) .skip)))) .skip)) zcj
def zcl : SC := .seq (.seq (.ops false z4f) (.cond (.tmp 46) (.seq (.ops false qms) (.seq (.ops false qmr) (.seq (.ops false qmq) (.cond (.tmp 70) (.seq (.ops false qmp) .ret) .skip)))) .skip)) zck
def zcm : SC := .seq (.seq (.ops false z4k) (.cond (.tmp 19) (.seq (.ops false z4j) (.seq (.ops false z4i) (.seq (.ops false z4h) (.cond (.tmp 43) (.seq (.ops false z4g) .ret) .skip)))) .skip)) zcl
theorem back_cut : t_k6 = .seq (.ops false z4n) (.seq (.seq (.ops false z4m) (.cond (.tmp 16) (.seq (.ops false z4l) .ret) .skip)) zcm) := rfl
abbrev backQ : Ex → AS → Prop := FnQ (En Tryz.prog rfl).TE [.tmp 2] (.ret (.bool true))
theorem z14 (x : CasP) : q0l (q3t x) = true := by simp [q3t, q0l, AVal.stb, q01, q03, q0e, q0b, q0a]
section
variable (x : CasP) (hw : wtZ x ≤ 1100000)
include hw
theorem back_4 : Run (En Tryz.prog rfl) 112 backQ zcj .done ⟨tms [(1, .ptr 1 0)], mms [(1, .cells (q3t x))]⟩ := by
 unfold wtZ at hw
 have f1 := zbl x.a (by omega)
 have f2 := zbl x.b (by omega)
 have f3 := zbl x.c (by omega)
 unfold zcj q3t
 (focus (have hF := @q00; (repeat' (first | refine go1 (k:=?_) | with_reducible refine Ny.of ?_ ?_ | (refine Hyp.of ?_; intro hc; (try simp only [hc]); (try simp only [Bh] at hc)))); all_goals clear hF))
 refine q02 [.sl 1 (q16 x.a)] (he := f1) (k:=?_)
 (focus (have hF := @q00; (repeat' (first | refine go1 (k:=?_) | with_reducible refine Ny.of ?_ ?_ | (refine Hyp.of ?_; intro hc; (try simp only [hc]); (try simp only [Bh] at hc)))); all_goals clear hF))
 refine q02 [.sl 1 (q16 x.b)] (he := f2) (k:=?_)
 (focus (have hF := @q00; (repeat' (first | refine go1 (k:=?_) | with_reducible refine Ny.of ?_ ?_ | (refine Hyp.of ?_; intro hc; (try simp only [hc]); (try simp only [Bh] at hc)))); all_goals clear hF))
 refine q02 [.sl 1 (q16 x.c)] (he := f3) (k:=?_)
 (focus (have hF := @q00; (repeat' (first | refine go1 (k:=?_) | with_reducible refine Ny.of ?_ ?_ | (refine Hyp.of ?_; intro hc; (try simp only [hc]); (try simp only [Bh] at hc)))); all_goals clear hF))
 exact Fin.all rfl rfl rfl
theorem back_3 : Run (En Tryz.prog rfl) 112 backQ zck .done ⟨tms [(1, .ptr 1 0)], mms [(1, .cells (q3t x))]⟩ := by
 have h4 := back_4 x hw
 unfold q3t at h4
 have hS := qgw
 unfold wtZ at hw
 have hr := qol x.rs
 have hr2 : ∀ r ∈ x.rs, wt r.past ≤ 1100000 := fun r hr => by have := wtK_le hr; unfold wtK at this; omega
 have c0 := q74 x.rs (by omega) (fun r hr => by have := hr2 r hr; omega)
 have c1 := ev_k20 x.rs (by omega) (fun r hr => by have := hr2 r hr; omega) (fun h => qfd h (by omega))
 have c3 := ev_k27 x.rs (by omega) (fun r hr => by have := hr2 r hr; omega)
 unfold zck q3t
 (focus (have hF := @q00; (repeat' (first | refine go1 (k:=?_) | with_reducible refine Ny.of ?_ ?_ | (refine Hyp.of ?_; intro hc; (try simp only [hc]); (try simp only [Bh] at hc)))); all_goals clear hF))
 refine q02 [.sl 3 (q1a x.rs)] (he := c0) (k:=?_)
 cases hf : q4f x.rs with
 | false =>
  (focus (have hF := @q00; (repeat' (first | refine go1 (k:=?_) | with_reducible refine Ny.of ?_ ?_ | (refine Hyp.of ?_; intro hc; (try simp only [hc]); (try simp only [Bh] at hc)))); all_goals clear hF))
  exact Run.wk (have hW := (aI @q0b @q0e); q0v) h4
 | true =>
  have hb := qh2 hf (by omega)
  have hl := (qfd hf (by omega)).2
  rw [hf] at c1
  have c1' : Ev (En Tryz.prog rfl).P 20 [.sl 3 (q1a x.rs)] (.ret (.tup [.sl 1 (q16 (q0r x.rs)), .int .i64 0])) := c1
  obtain ⟨v1, v2⟩ := qbz (z := []) (ok := q4f) hb hf
  have hv : rdV [] (q07 (q0r x.rs) 0) = x.rs := by rw [hb]; rfl
  have c2 := zbm (q0r x.rs) (by omega) (by rw [hv]; omega) (by rw [hv]; exact fun r hr => by have := hr2 r hr; omega)
  rw [v1, v2] at c2
  (focus (have hF := @q00; (repeat' (first | refine go1 (k:=?_) | with_reducible refine Ny.of ?_ ?_ | (refine Hyp.of ?_; intro hc; (try simp only [hc]); (try simp only [Bh] at hc)))); all_goals clear hF))
  refine q02 [.sl 3 (q1a x.rs)] (he := c1') (k:=?_)
  (focus (have hF := @q00; (repeat' (first | refine go1 (k:=?_) | with_reducible refine Ny.of ?_ ?_ | (refine Hyp.of ?_; intro hc; (try simp only [hc]); (try simp only [Bh] at hc)))); all_goals clear hF))
  refine q02 [.sl 1 (q16 (q0r x.rs))] (he := c2) (k:=?_)
  (focus (have hF := @q00; (repeat' (first | refine go1 (k:=?_) | with_reducible refine Ny.of ?_ ?_ | (refine Hyp.of ?_; intro hc; (try simp only [hc]); (try simp only [Bh] at hc)))); all_goals clear hF))
  refine q02 [.sl 3 (q1a x.rs), .sl 3 (q1a x.rs)] (he := c3) (k:=?_)
  (focus (have hF := @q00; (repeat' (first | refine go1 (k:=?_) | with_reducible refine Ny.of ?_ ?_ | (refine Hyp.of ?_; intro hc; (try simp only [hc]); (try simp only [Bh] at hc)))); all_goals clear hF))
  exact Run.wk (have hW := (aI @q0b @q0e); q0v) h4
theorem back_2 : Run (En Tryz.prog rfl) 112 backQ zcl .done ⟨tms [(1, .ptr 1 0)], mms [(1, .cells (q3t x))]⟩ := by
 have h4 := back_3 x hw
 unfold q3t at h4
 have hS := qgw
 unfold wtZ at hw
 have c0 := ev_k16 x.es (by omega)
 have c1 := ev_k15 x.es (by omega) (fun h => qad (by omega) h)
 have c3 := ev_k17 x.es (by omega)
 unfold zcl q3t
 (focus (have hF := @q00; (repeat' (first | refine go1 (k:=?_) | with_reducible refine Ny.of ?_ ?_ | (refine Hyp.of ?_; intro hc; (try simp only [hc]); (try simp only [Bh] at hc)))); all_goals clear hF))
 refine q02 [.sl 4 (q1b x.es)] (he := c0) (k:=?_)
 cases hf : q3z x.es with
 | false =>
  (focus (have hF := @q00; (repeat' (first | refine go1 (k:=?_) | with_reducible refine Ny.of ?_ ?_ | (refine Hyp.of ?_; intro hc; (try simp only [hc]); (try simp only [Bh] at hc)))); all_goals clear hF))
  exact Run.wk (have hW := (aI @q0b @q0e); q0v) h4
 | true =>
  have hb := qkr hf (by omega)
  have hl := q6b (qad (by omega) hf)
  rw [hf] at c1
  have c1' : Ev (En Tryz.prog rfl).P 15 [.sl 4 (q1b x.es)] (.ret (.tup [.sl 1 (q16 (q0y x.es)), .int .i64 0])) := c1
  obtain ⟨v1, v2⟩ := qbz (z := []) (ok := q3z) hb hf
  have hv : rdV [] (q09 (q0y x.es) 0) = x.es := by rw [hb]; rfl
  have c2 := zbn (q0y x.es) (by omega) (by rw [hv]; omega)
  rw [v1, v2] at c2
  (focus (have hF := @q00; (repeat' (first | refine go1 (k:=?_) | with_reducible refine Ny.of ?_ ?_ | (refine Hyp.of ?_; intro hc; (try simp only [hc]); (try simp only [Bh] at hc)))); all_goals clear hF))
  refine q02 [.sl 4 (q1b x.es)] (he := c1') (k:=?_)
  (focus (have hF := @q00; (repeat' (first | refine go1 (k:=?_) | with_reducible refine Ny.of ?_ ?_ | (refine Hyp.of ?_; intro hc; (try simp only [hc]); (try simp only [Bh] at hc)))); all_goals clear hF))
  refine q02 [.sl 1 (q16 (q0y x.es))] (he := c2) (k:=?_)
  (focus (have hF := @q00; (repeat' (first | refine go1 (k:=?_) | with_reducible refine Ny.of ?_ ?_ | (refine Hyp.of ?_; intro hc; (try simp only [hc]); (try simp only [Bh] at hc)))); all_goals clear hF))
  refine q02 [.sl 4 (q1b x.es), .sl 4 (q1b x.es)] (he := c3) (k:=?_)
  (focus (have hF := @q00; (repeat' (first | refine go1 (k:=?_) | with_reducible refine Ny.of ?_ ?_ | (refine Hyp.of ?_; intro hc; (try simp only [hc]); (try simp only [Bh] at hc)))); all_goals clear hF))
  exact Run.wk (have hW := (aI @q0b @q0e); q0v) h4
theorem back_1 : Run (En Tryz.prog rfl) 112 backQ zcm .done ⟨tms [(1, .ptr 1 0)], mms [(1, .cells (q3t x))]⟩ := by
 have h4 := back_2 x hw
 unfold q3t at h4
 have hS := qgw
 unfold wtZ at hw
 have hp : wt x.p ≤ 1100000 := by omega
 have hp2 := hp
 unfold wt at hp2
 have c0 := zbo x.p (by omega)
 have c1 := zbx x.p (by omega) (fun h => (q44 h).pw (by omega))
 have c3 := zbt x.p x.p (by omega) (by omega)
 rw [q6l ⟨rfl, rfl⟩] at c3
 unfold zcm q3t
 (focus (have hF := @q00; (repeat' (first | refine go1 (k:=?_) | with_reducible refine Ny.of ?_ ?_ | (refine Hyp.of ?_; intro hc; (try simp only [hc]); (try simp only [Bh] at hc)))); all_goals clear hF))
 refine q02 [q19 x.p] (he := c0) (k:=?_)
 cases hf : q0t x.p with
 | false =>
  (focus (have hF := @q00; (repeat' (first | refine go1 (k:=?_) | with_reducible refine Ny.of ?_ ?_ | (refine Hyp.of ?_; intro hc; (try simp only [hc]); (try simp only [Bh] at hc)))); all_goals clear hF))
  exact Run.wk (have hW := (aI @q0b @q0e); q0v) h4
 | true =>
  have hb := zaa hf (by omega)
  have hl := q80 ((q44 hf).pw (by omega))
  rw [hf] at c1
  have c1' : Ev (En Tryz.prog rfl).P 12 [q19 x.p] (.ret (.tup [.sl 1 (q16 (q2p x.p)), .int .i64 0])) := c1
  obtain ⟨v1, v2⟩ := qbz (z := ⟨[], []⟩) (ok := q0t) hb hf
  have hv : rdV ⟨[], []⟩ (q1k (q2p x.p) 0) = x.p := by rw [hb]; rfl
  have c2 := ev_k23 (q2p x.p) (by omega) (by rw [hv]; omega)
  rw [v1, v2] at c2
  (focus (have hF := @q00; (repeat' (first | refine go1 (k:=?_) | with_reducible refine Ny.of ?_ ?_ | (refine Hyp.of ?_; intro hc; (try simp only [hc]); (try simp only [Bh] at hc)))); all_goals clear hF))
  refine q02 [q19 x.p] (he := c1') (k:=?_)
  (focus (have hF := @q00; (repeat' (first | refine go1 (k:=?_) | with_reducible refine Ny.of ?_ ?_ | (refine Hyp.of ?_; intro hc; (try simp only [hc]); (try simp only [Bh] at hc)))); all_goals clear hF))
  refine q02 [.sl 1 (q16 (q2p x.p))] (he := c2) (k:=?_)
  unfold q19
  (focus (have hF := @q00; (repeat' (first | refine go1 (k:=?_) | with_reducible refine Ny.of ?_ ?_ | (refine Hyp.of ?_; intro hc; (try simp only [hc]); (try simp only [Bh] at hc)))); all_goals clear hF))
  refine q02 [q19 x.p, q19 x.p] (he := c3) (k:=?_)
  (focus (have hF := @q00; (repeat' (first | refine go1 (k:=?_) | with_reducible refine Ny.of ?_ ?_ | (refine Hyp.of ?_; intro hc; (try simp only [hc]); (try simp only [Bh] at hc)))); all_goals clear hF))
  exact Run.wk (have hW := (aI @q0b @q0e); q0v) h4
theorem ev_k6 : Ev (En Tryz.prog rfl).P 6 [encZ x] (.ret (.bool true)) := by
 have h1 := back_1 x hw
 refine Ev.of_body it_k6 (by simp) (Run.start ?_)
 rw [back_cut]
 have hcs := z14 x
 unfold encZ q3t at *
 (focus (have hF := @hcs; (repeat' (first | refine go1 (k:=?_) | with_reducible refine Ny.of ?_ ?_ | (refine Hyp.of ?_; intro hc; (try simp only [hc]); (try simp only [Bh] at hc)))); all_goals clear hF))
 refine q02 [] (he := ev_k9) (k:=?_)
 (focus (have hF := @hcs; (repeat' (first | refine go1 (k:=?_) | with_reducible refine Ny.of ?_ ?_ | (refine Hyp.of ?_; intro hc; (try simp only [hc]); (try simp only [Bh] at hc)))); all_goals clear hF))
 exact Run.wk (have hW := (aI @q0b @q0e); q0v) h1
end
end
end Go.Proofs.YtkionmommpgcmaaGreat.Avm
