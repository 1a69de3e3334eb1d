/- Part 5 of the proof: lemmas. -/
import Derived.Test.YtkionmommpgcmaaGreatM4
import Derived.Recover
import Derived.Test.YtkionmommpgcmaaGreatProg
import Derived.KernelRfl
import Derived.Test.YtkionmommpgcmaaGreatRows
import Derived.WalkKit
import Derived.ProofKit
import Derived.OpenShut
import Derived.JoinedCond
import Derived.Carry
set_option maxRecDepth 100000
set_option maxHeartbeats 4000000
set_option linter.unusedVariables false
set_option linter.unusedSimpArgs false
set_option linter.unusedSectionVars false
set_option linter.defProp false
namespace Go.Proofs.YtkionmommpgcmaaGreat.Avm
open Go.Proofs
def qae (l : List Ent) : Int := match l.getLast? with | some e => e.rep | none => 0
def q65 (l : List Ent) : Int := match l.getLast? with | some e => e.num + 1 | none => 1
theorem q5b (l : List Ent) (e : Ent) : qae (l ++ [e]) = e.rep := by simp [qae]
theorem q4f (l : List Ent) (e : Ent) : q65 (l ++ [e]) = e.num + 1 := by simp [q65]
def q3d (sf : List Ent) (e : Ent) : Int := if e.rep = qae sf then q65 sf else 1
def qzk (sf : List Ent) (e : Ent) : Bs := q1w (e.rep - qae sf).toNat ++ (q1w (e.num - q3d sf e).toNat ++ ((q1w e.sku.size ++ e.sku.data.toList) ++ q1w (e.qty - 1).toNat))
def q36 : List Ent → List Ent → Bs
 | _, [] => []
 | sf, e :: l => qzk sf e ++ q36 (sf ++ [e]) l
theorem zde (sf : List Ent) : q36 sf [] = [] := rfl
theorem q9r (e : Ent) : ∀ (l sf : List Ent), q36 sf (l ++ [e]) = q36 sf l ++ qzk (sf ++ l) e
 | [], sf => by simp [q36]
 | x :: l, sf => by simp [q36, q9r e l]
def q07 (l : List Ent) : Bs := q1w l.length ++ q36 [] l
def entW (sf : List Ent) (e : Ent) : Prop := 0 ≤ qae sf ∧ qae sf ≤ e.rep ∧ e.rep ≤ 1000000 ∧ 1 ≤ q65 sf ∧ q65 sf ≤ 4000000000 ∧ q3d sf e ≤ e.num ∧ e.num ≤ 1000000000 ∧ e.sku.size ≤ 1000 ∧ 1 ≤ e.qty ∧ e.qty ≤ 1000000000
structure EW (l : List Ent) : Prop where
 ll : l.length ≤ 100000000
 e : ∀ i e, l[i]? = some e → entW (l.take i) e
theorem qzj {sf : List Ent} {e : Ent} (h : entW sf e) : (qzk sf e).length ≤ 1040 := by
 obtain ⟨h1, h2, h3, h4, h4', h5, h6, h7, h8, h9⟩ := h
 have h10 : 1 ≤ q3d sf e := by unfold q3d; split <;> omega
 have a1 := q09 (n := (e.rep - qae sf).toNat) (by omega)
 have a2 := q09 (n := (e.num - q3d sf e).toNat) (by omega)
 have a3 := q09 (n := e.sku.size) (by omega)
 have a4 := q09 (n := (e.qty - 1).toNat) (by omega)
 have a5 : e.sku.data.toList.length = e.sku.size := rfl
 simp only [qzk, List.length_append]
 omega
theorem qcp {l : List Ent} (h : EW l) : ∀ i, i ≤ l.length → (q36 [] (l.take i)).length ≤ 1040 * i
 | 0, _ => by simp [q36]
 | i + 1, hi => by
  have hg : l[i]? = some (l[i]) := List.getElem?_eq_getElem (by omega)
  rw [q2n hg, q9r, List.nil_append, List.length_append]
  have h1 := qcp h i (by omega)
  have h2 := qzj (h.e i _ hg)
  omega
theorem z14 (b : Bs) (l : List Ent) (hb : b.length ≤ 600000000000) (hw : EW l) : EvW (En Tryz.prog rfl).P 50 [.sl 4 (q0l l)] b (b ++ q07 l) := by
 refine EvW.of_body it_k50 (by simp) fun v => Run.start ?_
 unfold t_k50
 have e1 := q3w l
 have hl := hw.ll
 (focus (have hF := @e1; (repeat' (first | refine go1 (k:=?_) | with_reducible refine Ny.of ?_ ?_ | (refine Hyp.of ?_; intro hc; (try simp only [hc]); (try simp only [Bh] at hc)))); all_goals clear hF))
 refine stWr 900000 [.int .i64 (l.length : Int)] (he := q4x b l.length (by omega) (by omega)) (kk := ?_)
 have l1 := q09 (n := l.length) (by omega)
 generalize hb1 : b ++ q1w l.length = b1
 have hl1 : b1.length ≤ b.length + 10 := by rw [← hb1, List.length_append]; omega
 have hfin : b1 ++ q36 [] l = b ++ q07 l := by rw [← hb1]; simp [q07]
 (focus (have hF := @e1; (repeat' (first | refine go1 (k:=?_) | with_reducible refine Ny.of ?_ ?_ | (refine Hyp.of ?_; intro hc; (try simp only [hc]); (try simp only [Bh] at hc)))); all_goals clear hF))
 refine Run.while (σ := Nat) (fun i => ⟨tms [(0, .ptr 900000 0), (4, .int .i64 (qae (l.take i))), (5, .int .i64 (q65 (l.take i))), (14, .sl 4 (q0l l)), (15, .int .i64 (l.length : Int)), (16, .int .i64 (i : Int))], mms [(900000, .cells (wrC (b1 ++ q36 [] (l.take i)))), (1900000, nt v)]⟩)
  (fun i => i ≤ l.length) (fun i => l.length - i) 0 (have hW := (aI (aI @q2b @zde) (aI @List.append_nil.{0} @q0d)); q0z) (Nat.zero_le _) ?_
 intro i hi
 unfold qp6
 have hcb := qcp hw i hi
 by_cases hlt : i < l.length
 ·have hlt2 : (i : Int) < (l.length : Int) := by omega
  have hg : l[i]? = some (l[i]) := List.getElem?_eq_getElem hlt
  have g1 := q39 hg
  have hew := hw.e i _ hg
  have hen := qzj hew
  obtain ⟨q1, q2, q3, q4, q4', q5, q6, q7, q8, q9⟩ := hew
  have hsn := q2n hg
  generalize l[i] = e at hg g1 q1 q2 q3 q4 q4' q5 q6 q7 q8 q9 hsn hen
  have hsp : qzk (l.take i) e = q1w (e.rep - qae (l.take i)).toNat ++ (q1w (e.num - q3d (l.take i) e).toNat ++ ((q1w e.sku.size ++ e.sku.data.toList) ++ q1w (e.qty - 1).toNat)) := rfl
  have h10 : 1 ≤ q3d (l.take i) e := by unfold q3d; split <;> omega
  have hbe : q3d (l.take i) e = if e.rep = qae (l.take i) then q65 (l.take i) else 1 := rfl
  generalize hrp : qae (l.take i) = rp at *
  generalize hnx : q65 (l.take i) = nx at *
  generalize hba : q3d (l.take i) e = ba at *
  obtain ⟨er, en, es, eq⟩ := e
  simp only at q2 q3 q5 q6 q7 q8 q9 hsp hbe
  have g2 : (q0l l)[i]? = some (.agg [.int .i64 er, .int .i64 en, .str es, .int .i64 eq]) := g1
  generalize hb4 : b1 ++ q36 [] (l.take i) = b4
  have hl4 : b4.length ≤ b1.length + 1040 * i := by rw [← hb4, List.length_append]; omega
  have w1 : IntKind.i64.wrap (er - rp) = (((er - rp).toNat : Nat) : Int) := by rw [q0e (by omega)]; omega
  have w2 : IntKind.i64.wrap (en - ba) = (((en - ba).toNat : Nat) : Int) := by rw [q0e (by omega)]; omega
  have w3 : IntKind.i64.wrap (eq - 1) = (((eq - 1).toNat : Nat) : Int) := by rw [q0e (by omega)]; omega
  have w4 : IntKind.i64.wrap (en + 1) = en + 1 := q0e (by omega)
  have n1 := q09 (n := (er - rp).toNat) (by omega)
  have n2 := q09 (n := (en - ba).toNat) (by omega)
  have n3 := q09 (n := es.size) (by omega)
  have n4 : es.data.toList.length = es.size := rfl
  have o1 : (er - rp).toNat < 9223372036854775808 := by omega
  have o2 : (en - ba).toNat < 9223372036854775808 := by omega
  have o3 : (eq - 1).toNat < 9223372036854775808 := by omega
  have x1 := q0x (i := i) (by omega)
  have hra : qae (l.take (i + 1)) = er := by rw [hsn, q5b]
  have hna : q65 (l.take (i + 1)) = en + 1 := by rw [hsn, q4f]
  have hb5 : b4 ++ q1w (er - rp).toNat ++ q1w (en - ba).toNat ++ (q1w es.size ++ es.data.toList) ++ q1w (eq - 1).toNat = b1 ++ q36 [] (l.take (i + 1)) := by
   rw [hsn, q9r, List.nil_append, hsp, ← hb4]
   simp
  generalize (er - rp).toNat = m1 at *
  generalize (en - ba).toNat = m2 at *
  generalize (eq - 1).toNat = m3 at *
  by_cases hrr : er = rp
  ·have hrr2 : (er = rp) = True := eq_true hrr
   rw [if_pos hrr] at hbe
   subst hbe
   (focus (have hF := (aI (aI @e1 @hlt2) (aI @g2 @hrr2)); (repeat' (first | refine go1 (k:=?_) | with_reducible refine Ny.of ?_ ?_ | (refine Hyp.of ?_; intro hc; (try simp only [hc]); (try simp only [Bh] at hc)))); all_goals clear hF))
   ((with_reducible apply toW); refine stW (fun j => j == 7) (k:=?_))
   (focus (have hF := (aI @e1 @w1); (repeat' (first | refine go1 (k:=?_) | with_reducible refine Ny.of ?_ ?_ | (refine Hyp.of ?_; intro hc; (try simp only [hc]); (try simp only [Bh] at hc)))); all_goals clear hF))
   refine q85 [.int .i64 (m1 : Int)] (he := q4x b4 m1 (by omega) o1) (kk := ?_)
   (focus (have hF := @e1; (repeat' (first | refine go1 (k:=?_) | with_reducible refine Ny.of ?_ ?_ | (refine Hyp.of ?_; intro hc; (try simp only [hc]); (try simp only [Bh] at hc)))); all_goals clear hF))
   ((with_reducible apply toW); refine stW (fun j => j == 7) (k:=?_))
   (focus (have hF := (aI @e1 @w2); (repeat' (first | refine go1 (k:=?_) | with_reducible refine Ny.of ?_ ?_ | (refine Hyp.of ?_; intro hc; (try simp only [hc]); (try simp only [Bh] at hc)))); all_goals clear hF))
   refine q85 [.int .i64 (m2 : Int)] (he := q4x (b4 ++ q1w m1) m2 (by simp only [List.length_append]; omega) o2) (kk := ?_)
   (focus (have hF := @e1; (repeat' (first | refine go1 (k:=?_) | with_reducible refine Ny.of ?_ ?_ | (refine Hyp.of ?_; intro hc; (try simp only [hc]); (try simp only [Bh] at hc)))); all_goals clear hF))
   ((with_reducible apply toW); refine stW (fun j => j == 7) (k:=?_))
   (focus (have hF := @e1; (repeat' (first | refine go1 (k:=?_) | with_reducible refine Ny.of ?_ ?_ | (refine Hyp.of ?_; intro hc; (try simp only [hc]); (try simp only [Bh] at hc)))); all_goals clear hF))
   refine q85 [.str es] (he := qo1 (b4 ++ q1w m1 ++ q1w m2) es (by simp only [List.length_append]; omega) (by omega)) (kk := ?_)
   (focus (have hF := @e1; (repeat' (first | refine go1 (k:=?_) | with_reducible refine Ny.of ?_ ?_ | (refine Hyp.of ?_; intro hc; (try simp only [hc]); (try simp only [Bh] at hc)))); all_goals clear hF))
   ((with_reducible apply toW); refine stW (fun j => j == 7) (k:=?_))
   (focus (have hF := (aI @e1 @w3); (repeat' (first | refine go1 (k:=?_) | with_reducible refine Ny.of ?_ ?_ | (refine Hyp.of ?_; intro hc; (try simp only [hc]); (try simp only [Bh] at hc)))); all_goals clear hF))
   refine q85 [.int .i64 (m3 : Int)] (he := q4x (b4 ++ q1w m1 ++ q1w m2 ++ (q1w es.size ++ es.data.toList)) m3 (by simp only [List.length_append]; omega) o3) (kk := ?_)
   rw [hb5]
   (focus (have hF := (aI @e1 (aI @x1 @w4)); (repeat' (first | refine go1 (k:=?_) | with_reducible refine Ny.of ?_ ?_ | (refine Hyp.of ?_; intro hc; (try simp only [hc]); (try simp only [Bh] at hc)))); all_goals clear hF))
   (refine Fin.nextW (i + 1) ?_ (have hW := (aI (aI @q2b @hra) (aI @hna @q0d)); q0z); (try dsimp only))
   omega
  ·have hrr2 : (er = rp) = False := eq_false hrr
   rw [if_neg hrr] at hbe
   subst hbe
   (focus (have hF := (aI (aI @e1 @hlt2) (aI @g2 @hrr2)); (repeat' (first | refine go1 (k:=?_) | with_reducible refine Ny.of ?_ ?_ | (refine Hyp.of ?_; intro hc; (try simp only [hc]); (try simp only [Bh] at hc)))); all_goals clear hF))
   ((with_reducible apply toW); refine stW (fun j => j == 7) (k:=?_))
   (focus (have hF := (aI @e1 @w1); (repeat' (first | refine go1 (k:=?_) | with_reducible refine Ny.of ?_ ?_ | (refine Hyp.of ?_; intro hc; (try simp only [hc]); (try simp only [Bh] at hc)))); all_goals clear hF))
   refine q85 [.int .i64 (m1 : Int)] (he := q4x b4 m1 (by omega) o1) (kk := ?_)
   (focus (have hF := @e1; (repeat' (first | refine go1 (k:=?_) | with_reducible refine Ny.of ?_ ?_ | (refine Hyp.of ?_; intro hc; (try simp only [hc]); (try simp only [Bh] at hc)))); all_goals clear hF))
   ((with_reducible apply toW); refine stW (fun j => j == 7) (k:=?_))
   (focus (have hF := (aI @e1 @w2); (repeat' (first | refine go1 (k:=?_) | with_reducible refine Ny.of ?_ ?_ | (refine Hyp.of ?_; intro hc; (try simp only [hc]); (try simp only [Bh] at hc)))); all_goals clear hF))
   refine q85 [.int .i64 (m2 : Int)] (he := q4x (b4 ++ q1w m1) m2 (by simp only [List.length_append]; omega) o2) (kk := ?_)
   (focus (have hF := @e1; (repeat' (first | refine go1 (k:=?_) | with_reducible refine Ny.of ?_ ?_ | (refine Hyp.of ?_; intro hc; (try simp only [hc]); (try simp only [Bh] at hc)))); all_goals clear hF))
   ((with_reducible apply toW); refine stW (fun j => j == 7) (k:=?_))
   (focus (have hF := @e1; (repeat' (first | refine go1 (k:=?_) | with_reducible refine Ny.of ?_ ?_ | (refine Hyp.of ?_; intro hc; (try simp only [hc]); (try simp only [Bh] at hc)))); all_goals clear hF))
   refine q85 [.str es] (he := qo1 (b4 ++ q1w m1 ++ q1w m2) es (by simp only [List.length_append]; omega) (by omega)) (kk := ?_)
   (focus (have hF := @e1; (repeat' (first | refine go1 (k:=?_) | with_reducible refine Ny.of ?_ ?_ | (refine Hyp.of ?_; intro hc; (try simp only [hc]); (try simp only [Bh] at hc)))); all_goals clear hF))
   ((with_reducible apply toW); refine stW (fun j => j == 7) (k:=?_))
   (focus (have hF := (aI @e1 @w3); (repeat' (first | refine go1 (k:=?_) | with_reducible refine Ny.of ?_ ?_ | (refine Hyp.of ?_; intro hc; (try simp only [hc]); (try simp only [Bh] at hc)))); all_goals clear hF))
   refine q85 [.int .i64 (m3 : Int)] (he := q4x (b4 ++ q1w m1 ++ q1w m2 ++ (q1w es.size ++ es.data.toList)) m3 (by simp only [List.length_append]; omega) o3) (kk := ?_)
   rw [hb5]
   (focus (have hF := (aI @e1 (aI @x1 @w4)); (repeat' (first | refine go1 (k:=?_) | with_reducible refine Ny.of ?_ ?_ | (refine Hyp.of ?_; intro hc; (try simp only [hc]); (try simp only [Bh] at hc)))); all_goals clear hF))
   (refine Fin.nextW (i + 1) ?_ (have hW := (aI (aI @q2b @hra) (aI @hna @q0d)); q0z); (try dsimp only))
   omega
 ·have hin : i = l.length := by omega
  subst hin
  have hlt2 : ¬ (l.length : Int) < (l.length : Int) := by omega
  rw [List.take_length, hfin]
  (focus (have hF := (aI @e1 @hlt2); (repeat' (first | refine go1 (k:=?_) | with_reducible refine Ny.of ?_ ?_ | (refine Hyp.of ?_; intro hc; (try simp only [hc]); (try simp only [Bh] at hc)))); all_goals clear hF))
  exact ⟨rfl, rfl⟩
def z0q (r : Rec) : Bs := (q1w r.sku.size ++ r.sku.data.toList) ++ q1g r.past
def q2d (l : List Rec) : Bs := l.flatMap z0q
theorem z2y : q2d [] = [] := rfl
theorem qdv (l : List Rec) (r : Rec) : q2d (l ++ [r]) = q2d l ++ z0q r := by simp [q2d]
def q0s (l : List Rec) : Bs := q1w l.length ++ q2d l
theorem z0p (l : List Rec) (i : Nat) : (q2d (l.take i)).length ≤ (q2d l).length := by
 have : q2d l = q2d (l.take i) ++ q2d (l.drop i) := by
  simp only [q2d, ← List.flatMap_append, List.take_append_drop]
 rw [this, List.length_append]
 omega
structure RW (l : List Rec) : Prop where
 ll : l.length ≤ 100000000
 r : ∀ r ∈ l, r.sku.size ≤ 1000 ∧ PW r.past
theorem z13 (b : Bs) (l : List Rec) (hb : b.length + (q2d l).length ≤ 600000000000) (hw : RW l) : EvW (En Tryz.prog rfl).P 58 [.sl 3 (q1j l)] b (b ++ q0s l) := by
 refine EvW.of_body it_k58 (by simp) fun v => Run.start ?_
 unfold t_k58
 have e1 := q6q l
 have hl := hw.ll
 (focus (have hF := @e1; (repeat' (first | refine go1 (k:=?_) | with_reducible refine Ny.of ?_ ?_ | (refine Hyp.of ?_; intro hc; (try simp only [hc]); (try simp only [Bh] at hc)))); all_goals clear hF))
 refine stWr 900000 [.int .i64 (l.length : Int)] (he := q4x b l.length (by omega) (by omega)) (kk := ?_)
 have l1 := q09 (n := l.length) (by omega)
 generalize hb1 : b ++ q1w l.length = b1
 have hl1 : b1.length ≤ b.length + 10 := by rw [← hb1, List.length_append]; omega
 have hfin : b1 ++ q2d l = b ++ q0s l := by rw [← hb1]; simp [q0s]
 (focus (have hF := @e1; (repeat' (first | refine go1 (k:=?_) | with_reducible refine Ny.of ?_ ?_ | (refine Hyp.of ?_; intro hc; (try simp only [hc]); (try simp only [Bh] at hc)))); all_goals clear hF))
 refine Run.while (σ := Nat) (fun i => ⟨tms [(0, .ptr 900000 0), (12, .sl 3 (q1j l)), (13, .int .i64 (l.length : Int)), (14, .int .i64 (i : Int))], mms [(900000, .cells (wrC (b1 ++ q2d (l.take i)))), (1900000, nt v)]⟩)
  (fun i => i ≤ l.length) (fun i => l.length - i) 0 (have hW := (aI (aI @q2b @z2y) (aI @List.append_nil.{0} @q0f)); q0z) (Nat.zero_le _) ?_
 intro i hi
 unfold qp4
 by_cases hlt : i < l.length
 ·have hlt2 : (i : Int) < (l.length : Int) := by omega
  have hg : l[i]? = some (l[i]) := List.getElem?_eq_getElem hlt
  have g1 := q5h hg
  obtain ⟨q1, q2⟩ := hw.r _ (List.getElem_mem hlt)
  have hsn := q2n hg
  have hcb := z0p l (i + 1)
  generalize l[i] = e at hg g1 q1 q2 hsn
  rw [hsn, qdv] at hcb
  obtain ⟨es, ⟨vec, cl⟩⟩ := e
  have g2 : (q1j l)[i]? = some (.agg [.str es, .sl 1 (q04 vec), .sl 3 (q0j cl)]) := g1
  simp only at q1 q2
  have hsp : z0q ⟨es, ⟨vec, cl⟩⟩ = (q1w es.size ++ es.data.toList) ++ q1g ⟨vec, cl⟩ := rfl
  rw [hsp] at hcb
  simp only [List.length_append] at hcb
  generalize hb4 : b1 ++ q2d (l.take i) = b4
  have hl4 : b4.length = b1.length + (q2d (l.take i)).length := by rw [← hb4, List.length_append]
  have hb5 : b4 ++ (q1w es.size ++ es.data.toList) ++ q1g ⟨vec, cl⟩ = b1 ++ q2d (l.take (i + 1)) := by
   rw [hsn, qdv, hsp, ← hb4]
   simp
  have x1 := q0x (i := i) (by omega)
  (focus (have hF := (aI @e1 (aI @hlt2 @g2)); (repeat' (first | refine go1 (k:=?_) | with_reducible refine Ny.of ?_ ?_ | (refine Hyp.of ?_; intro hc; (try simp only [hc]); (try simp only [Bh] at hc)))); all_goals clear hF))
  ((with_reducible apply toW); refine stW (fun j => j == 5) (k:=?_))
  (focus (have hF := @e1; (repeat' (first | refine go1 (k:=?_) | with_reducible refine Ny.of ?_ ?_ | (refine Hyp.of ?_; intro hc; (try simp only [hc]); (try simp only [Bh] at hc)))); all_goals clear hF))
  refine q85 [.str es] (he := qo1 b4 es (by omega) (by omega)) (kk := ?_)
  (focus (have hF := @e1; (repeat' (first | refine go1 (k:=?_) | with_reducible refine Ny.of ?_ ?_ | (refine Hyp.of ?_; intro hc; (try simp only [hc]); (try simp only [Bh] at hc)))); all_goals clear hF))
  refine stWr 900000 [.agg [.sl 1 (q04 vec), .sl 3 (q0j cl)]] (he := zcy _ ⟨vec, cl⟩ (by simp only [List.length_append]; omega) q2) (kk := ?_)
  rw [hb5]
  (focus (have hF := (aI @e1 @x1); (repeat' (first | refine go1 (k:=?_) | with_reducible refine Ny.of ?_ ?_ | (refine Hyp.of ?_; intro hc; (try simp only [hc]); (try simp only [Bh] at hc)))); all_goals clear hF))
  (refine Fin.nextW (i + 1) ?_ (have hW := (aI @q2b @q0f); q0z); (try dsimp only))
  omega
 ·have hin : i = l.length := by omega
  subst hin
  have hlt2 : ¬ (l.length : Int) < (l.length : Int) := by omega
  rw [List.take_length, hfin]
  (focus (have hF := (aI @e1 @hlt2); (repeat' (first | refine go1 (k:=?_) | with_reducible refine Ny.of ?_ ?_ | (refine Hyp.of ?_; intro hc; (try simp only [hc]); (try simp only [Bh] at hc)))); all_goals clear hF))
  exact ⟨rfl, rfl⟩

theorem Rs.bind_get {α β : Type} {r : Rs α} {f : α → Nat → Rs β} {y : β × Nat} (h : r.bind f = .ok y) : ∃ x a, r = .ok (x, a) ∧ f x a = .ok y := by
 cases r with
 | ok q => exact ⟨q.1, q.2, rfl, h⟩
 | error q => cases h
theorem Rs.bind_put {α β : Type} {r : Rs α} {f : α → Nat → Rs β} {x : α} {a : Nat} (h : r = .ok (x, a)) : r.bind f = f x a := by rw [h]; rfl
theorem q80 (x : Int) (l : List Int) : qao (x :: l) = q1w x.toNat ++ qao l := rfl
theorem qyv {b : Bs} : ∀ (l acc : List Int) (p q : Nat), St b p (qao l) q → z1t l → qmh b l.length acc p = .ok (acc ++ l, q)
 | [], acc, p, q, h, hl => by
  have : q = p := by simpa [qao] using h.1
  simp [qmh, this]
 | x :: l, acc, p, q, h, hl => by
  have hx := hl x (by simp)
  rw [q80] at h
  rw [List.length_cons, qmh, Rs.bind_put (q3m h.fst (by omega) (by omega)), qyv l _ _ q h.snd fun y hy => hl y (by simp [hy])]
  have : ((x.toNat : Nat) : Int) = x := by omega
  simp [this]
theorem qyw {b : Bs} : ∀ (k : Nat) (acc l : List Int) (p q : Nat), p ≤ b.length → qmh b k acc p = .ok (l, q) → ∃ m, l = acc ++ m ∧ m.length = k ∧ St b p (qao m) q ∧ z1t m
 | 0, acc, l, p, q, hp, h => by
  simp only [qmh, Except.ok.injEq, Prod.mk.injEq] at h
  obtain ⟨rfl, rfl⟩ := h
  exact ⟨[], by simp, rfl, St.nil hp, fun x hx => by cases hx⟩
 | k + 1, acc, l, p, q, hp, h => by
  rw [qmh] at h
  obtain ⟨n, a, h1, h2⟩ := Rs.bind_get h
  obtain ⟨g1, g2, g3⟩ := q3n h1
  obtain ⟨m, rfl, hm, hs, ho⟩ := qyw k _ l a q g1.le h2
  refine ⟨(n : Int) :: m, by simp, by simp [hm], ?_, fun x hx => ?_⟩
  ·rw [q80]
   simpa using g1.app hs
  ·rcases List.mem_cons.1 hx with rfl | hx
   ·omega
   ·exact ho x hx
def spanF (vec : List Int) (sf : List Sn) (s : Sn) : Prop := 0 ≤ q5d sf ∧ q5d sf ≤ s.1 ∧ s.1 ≤ 15 ∧ q1x vec s.1.toNat sf ≤ s.2.1 ∧ s.2.1 ≤ s.2.2 ∧ s.2.2 ≤ 1000000000
def ze7 (vec : List Int) : List Sn → List Sn → Prop
 | _, [] => True
 | sf, s :: l => spanF vec sf s ∧ ze7 vec (sf ++ [s]) l
theorem qc2 {vec : List Int} {sf : List Sn} {s : Sn} (hv : z1t vec) (hc : zc3 sf) (h : spanF vec sf s) : zc3 (sf ++ [s]) := fun x hx => by
 rcases List.mem_append.1 hx with hx | hx
 ·exact hc x hx
 ·have hx := List.mem_singleton.1 hx
  subst hx
  have := q6h (rep := x.1.toNat) hv hc
  obtain ⟨h1, h2, h3, h4, h5, h6⟩ := h
  omega
theorem qdw {vec : List Int} {b : Bs} (hv : z1t vec) : ∀ (l acc : List Sn) (rep p q : Nat), St b p (q2c vec acc l) q → ze7 vec acc l → zc3 acc → q5d acc = (rep : Int) → q3t vec b l.length rep acc p = .ok (acc ++ l, q)
 | [], acc, rep, p, q, h, _, _, _ => by
  have : q = p := by simpa [q2c] using h.1
  simp [q3t, this]
 | (sr, lo, hi) :: l, acc, rep, p, q, h, hf, hc, hr => by
  obtain ⟨hs, hl⟩ := hf
  have hc' := qc2 hv hc hs
  obtain ⟨h1, h2, h3, h4, h5, h6⟩ := hs
  simp only at h1 h2 h3 h4 h5 h6
  obtain ⟨r, rfl⟩ : ∃ r : Nat, sr = (r : Int) := ⟨sr.toNat, by omega⟩
  simp only [Int.toNat_natCast] at h4
  have hle := q6h (rep := r) hv hc
  rw [q2c] at h
  unfold qdc at h
  simp only [Int.toNat_natCast] at h
  rw [hr] at h h1 h2
  have t1 := h.fst.fst
  have t2 := h.fst.snd.fst
  have t3 := h.fst.snd.snd
  have t4 := h.snd
  rw [List.length_cons, q3t, Rs.bind_put (q3m t1 (by omega) (by omega))]
  have hrr : rep + ((r : Int) - (rep : Int)).toNat = r := by omega
  rw [hrr, if_neg (by omega), Rs.bind_put (q3m t2 (by omega) (by omega)), Rs.bind_put (q3m t3 (by omega) (by omega))]
  generalize hle' : q1x vec r acc = ls at *
  have e1 : ls + (((lo - ls).toNat : Nat) : Int) = lo := by omega
  have e2 : lo + (((hi - lo).toNat : Nat) : Int) = hi := by omega
  rw [e1, e2, if_neg (by omega)]
  rw [qdw hv l _ r _ q t4 hl hc' (by rw [q5c])]
  simp
theorem qdx {vec : List Int} {b : Bs} (hv : z1t vec) : ∀ (k rep : Nat) (acc l : List Sn) (p q : Nat), p ≤ b.length → zc3 acc → q5d acc = (rep : Int) → q3t vec b k rep acc p = .ok (l, q) → ∃ m, l = acc ++ m ∧ m.length = k ∧ St b p (q2c vec acc m) q ∧ ze7 vec acc m
 | 0, rep, acc, l, p, q, hp, hc, hr, h => by
  simp only [q3t, Except.ok.injEq, Prod.mk.injEq] at h
  obtain ⟨rfl, rfl⟩ := h
  exact ⟨[], by simp, rfl, St.nil hp, trivial⟩
 | k + 1, rep, acc, l, p, q, hp, hc, hr, h => by
  rw [q3t] at h
  obtain ⟨s, a1, h1, h2⟩ := Rs.bind_get h
  split at h2
  ·cases h2
  rename_i hlt
  obtain ⟨n, a2, h3, h4⟩ := Rs.bind_get h2
  obtain ⟨m, a3, h5, h6⟩ := Rs.bind_get h4
  split at h6
  ·cases h6
  rename_i hhi
  obtain ⟨g1, g2, g3⟩ := q3n h1
  obtain ⟨g4, g5, g6⟩ := q3n h3
  obtain ⟨g7, g8, g9⟩ := q3n h5
  have hle := q6h (rep := rep + s) hv hc
  generalize hls : q1x vec (rep + s) acc = ls at *
  have hs : spanF vec acc (((rep + s : Nat) : Int), ls + (n : Int), ls + (n : Int) + (m : Int)) := by
   refine ⟨by omega, by simp only; omega, by simp only; omega, ?_, by simp only; omega, by simp only; omega⟩
   simp only [Int.toNat_natCast]
   rw [hls]
   omega
  obtain ⟨z, rfl, hz, hst, hcf⟩ := qdx hv k (rep + s) _ l a3 q g7.le (qc2 hv hc hs) (by rw [q5c]) h6
  refine ⟨(((rep + s : Nat) : Int), ls + (n : Int), ls + (n : Int) + (m : Int)) :: z, by simp, by simp [hz], ?_, hs, hcf⟩
  rw [q2c]
  refine St.app ?_ hst
  unfold qdc
  simp only [Int.toNat_natCast]
  rw [hls, hr]
  have e1 : (((rep + s : Nat) : Int) - (rep : Int)).toNat = s := by omega
  have e2 : (ls + (n : Int) - ls).toNat = n := by omega
  have e3 : (ls + (n : Int) + (m : Int) - (ls + (n : Int))).toNat = m := by omega
  rw [e1, e2, e3]
  exact g1.app (g4.app g7)
structure PF (p : Pst) : Prop where
 vl : p.vec.length ≤ 16
 v : z1t p.vec
 c : ze7 p.vec [] p.cloud
theorem q90 (vec : List Int) : ∀ (l sf : List Sn), 3 * l.length ≤ (q2c vec sf l).length
 | [], sf => by simp
 | s :: l, sf => by
  have := q90 vec l (sf ++ [s])
  have h1 := q1d (s.1 - q5d sf).toNat
  have h2 := q1d (s.2.1 - q1x vec s.1.toNat sf).toNat
  have h3 := q1d (s.2.2 - s.2.1).toNat
  simp only [q2c, qdc, List.length_append, List.length_cons]
  omega
theorem qbt {b : Bs} {x : Pst} {p q : Nat} (h : St b p (q1g x) q) (hf : PF x) (hb : b.length ≤ 900000000000) : q1r b p = .ok (x, q) := by
 unfold q1g at h
 have t1 := h.fst
 have t2 := h.snd.fst
 have t3 := h.snd.snd.fst
 have t4 := h.snd.snd.snd
 have hl := hf.vl
 have hge := q90 x.vec x.cloud []
 have e4 := t4.1
 have e5 := t4.le
 unfold q1r
 rw [Rs.bind_put (q3m t1 hl (by omega)), Rs.bind_put (qyv x.vec [] _ _ t2 hf.v), Rs.bind_put (q9h (by decide) t3 (by omega) (by omega))]
 rw [List.nil_append, Rs.bind_put (qdw hf.v x.cloud [] 0 _ q t4 hf.c (fun s hs => by cases hs) rfl)]
 rfl
theorem q8e {b : Bs} {x : Pst} {p q : Nat} (h : q1r b p = .ok (x, q)) : St b p (q1g x) q ∧ PF x := by
 unfold q1r at h
 obtain ⟨n, a, h1, h2⟩ := Rs.bind_get h
 obtain ⟨vec, a2, h3, h4⟩ := Rs.bind_get h2
 obtain ⟨m, a3, h5, h6⟩ := Rs.bind_get h4
 obtain ⟨cl, a4, h7, h8⟩ := Rs.bind_get h6
 simp only [Except.ok.injEq, Prod.mk.injEq] at h8
 obtain ⟨rfl, rfl⟩ := h8
 obtain ⟨g1, g2, g3⟩ := q3n h1
 obtain ⟨v, rfl, hv, hs, ho⟩ := qyw n [] _ a a2 g1.le h3
 obtain ⟨g4, g5⟩ := q9i h5
 obtain ⟨c, rfl, hc, ht, hf⟩ := qdx ho m 0 [] _ a3 a4 g4.le (fun s hs => by cases hs) rfl h7
 refine ⟨?_, ⟨by simp only; omega, ho, hf⟩⟩
 unfold q1g
 simp only [hv, hc]
 exact g1.app (hs.app (g4.app ht))
def entF (sf : List Ent) (e : Ent) : Prop := 0 ≤ qae sf ∧ qae sf ≤ e.rep ∧ e.rep ≤ 15 ∧ 1 ≤ q65 sf ∧ q65 sf ≤ 1000000001 ∧ q3d sf e ≤ e.num ∧ e.num ≤ 1000000000 ∧ e.sku.size ≤ 24 ∧ 1 ≤ e.qty ∧ e.qty ≤ 1000001
def qgg : List Ent → List Ent → Prop
 | _, [] => True
 | sf, e :: l => entF sf e ∧ qgg (sf ++ [e]) l
theorem qkm {b : Bs} : ∀ (l acc : List Ent) (rep next p q : Nat), St b p (q36 acc l) q → qgg acc l → (∀ e ∈ l, e.qty ≤ 1000000) → qae acc = (rep : Int) → q65 acc = (next : Int) → q9g b l.length rep next acc p = .ok (acc ++ l, q)
 | [], acc, rep, next, p, q, h, _, _, _, _ => by
  have : q = p := by simpa [q36] using h.1
  simp [q9g, this]
 | e :: l, acc, rep, next, p, q, h, hf, hq, hr, hn => by
  obtain ⟨hs, hl⟩ := hf
  have hq0 := hq e (by simp)
  obtain ⟨h1, h2, h3, h4, h5, h6, h7, h8, h9, h10⟩ := hs
  rw [q36] at h
  unfold qzk at h
  have hbe : q3d acc e = if e.rep = qae acc then q65 acc else 1 := rfl
  rw [hr, hn] at hbe
  rw [hr] at h h1 h2
  have t1 := h.fst.fst
  have t2 := h.fst.snd.fst
  have t3 := h.fst.snd.snd.fst
  have t4 := h.fst.snd.snd.snd
  have t5 := h.snd
  have hrr : rep + (e.rep - (rep : Int)).toNat = e.rep.toNat := by omega
  have hx : ((if 0 < (e.rep - (rep : Int)).toNat then 1 else next : Nat) : Int) = q3d acc e := by
   rw [hbe]
   by_cases hc : e.rep = (rep : Int)
   ·rw [if_pos hc, if_neg (by omega)]
   ·rw [if_neg hc, if_pos (by omega)]
    rfl
  have hbn : 0 ≤ q3d acc e := by rw [← hx]; omega
  have hxx : (if 0 < (e.rep - (rep : Int)).toNat then 1 else next) + (e.num - q3d acc e).toNat = e.num.toNat := by omega
  rw [List.length_cons, q9g, Rs.bind_put (q3m t1 (by omega) (by omega)), Rs.bind_put (q3m t2 (by omega) (by omega))]
  rw [hrr, hxx, if_neg (by omega), Rs.bind_put (qkg t3 h8 (by omega)), Rs.bind_put (q3m t4 (by omega) (by omega))]
  have he : (⟨((e.rep.toNat : Nat) : Int), ((e.num.toNat : Nat) : Int), e.sku, (((e.qty - 1).toNat + 1 : Nat) : Int)⟩ : Ent) = e := by
   obtain ⟨a, b, c, d⟩ := e
   simp only at *
   congr 1 <;> omega
  rw [he, qkm l _ _ _ _ q t5 hl (fun x hx => hq x (by simp [hx])) (by rw [q5b]; omega) (by rw [q4f]; omega)]
  simp
theorem qkn {b : Bs} : ∀ (k rep next : Nat) (acc l : List Ent) (p q : Nat), p ≤ b.length → 1 ≤ next → next ≤ 1000000001 → qae acc = (rep : Int) → q65 acc = (next : Int) → q9g b k rep next acc p = .ok (l, q) → ∃ m, l = acc ++ m ∧ m.length = k ∧ St b p (q36 acc m) q ∧ qgg acc m
 | 0, rep, next, acc, l, p, q, hp, _, _, hr, hn, h => by
  simp only [q9g, Except.ok.injEq, Prod.mk.injEq] at h
  obtain ⟨rfl, rfl⟩ := h
  exact ⟨[], by simp, rfl, St.nil hp, trivial⟩
 | k + 1, rep, next, acc, l, p, q, hp, h1n, h2n, hr, hn, h => by
  rw [q9g] at h
  obtain ⟨s, a1, h1, h2⟩ := Rs.bind_get h
  obtain ⟨x, a2, h3, h4⟩ := Rs.bind_get h2
  by_cases hc : 16 ≤ rep + s ∨ 1000000000 < (if 0 < s then 1 else next) + x
  ·rw [if_pos hc] at h4; cases h4
  rw [if_neg hc] at h4
  obtain ⟨sku, a3, h5, h6⟩ := Rs.bind_get h4
  obtain ⟨y, a4, h7, h8⟩ := Rs.bind_get h6
  obtain ⟨g1, g2, g3⟩ := q3n h1
  obtain ⟨g4, g5, g6⟩ := q3n h3
  obtain ⟨g7, g8⟩ := qkh h5
  obtain ⟨g9, g10, g11⟩ := q3n h7
  have hbase : 1 ≤ (if 0 < s then 1 else next) := by split <;> omega
  generalize hbs : (if 0 < s then 1 else next) = base at *
  have hbe : q3d acc ⟨((rep + s : Nat) : Int), ((base + x : Nat) : Int), sku, ((y + 1 : Nat) : Int)⟩ = (base : Int) := by
   unfold q3d
   simp only
   rw [hr, hn, ← hbs]
   by_cases h0 : 0 < s
   ·rw [if_neg (by omega), if_pos h0]; rfl
   ·rw [if_pos (by omega), if_neg h0]
  have hs : entF acc ⟨((rep + s : Nat) : Int), ((base + x : Nat) : Int), sku, ((y + 1 : Nat) : Int)⟩ := by
   refine ⟨by omega, by simp only; omega, by simp only; omega, by omega, by omega, ?_, by simp only; omega, g8, by simp only; omega, by simp only; omega⟩
   rw [hbe]
   simp only
   omega
  obtain ⟨z, rfl, hz, hst, hcf⟩ := qkn k (rep + s) (base + x + 1) _ l a4 q g9.le (by omega) (by omega) (by rw [q5b]) (by rw [q4f]; simp only; omega) h8
  refine ⟨_ :: z, by rw [List.append_assoc]; rfl, by simp [hz], ?_, hs, hcf⟩
  rw [q36]
  refine St.app ?_ hst
  unfold qzk
  rw [hbe]
  simp only
  rw [hr]
  have e1 : (((rep + s : Nat) : Int) - (rep : Int)).toNat = s := by omega
  have e2 : (((base + x : Nat) : Int) - (base : Int)).toNat = x := by omega
  have e3 : (((y + 1 : Nat) : Int) - 1).toNat = y := by omega
  rw [e1, e2, e3]
  exact g1.app (g4.app (g7.app g9))
theorem qzi : ∀ (l sf : List Ent), (∀ e ∈ l, 1 ≤ e.sku.size) → 5 * l.length ≤ (q36 sf l).length
 | [], sf, _ => by simp
 | e :: l, sf, h => by
  have := qzi l (sf ++ [e]) fun x hx => h x (by simp [hx])
  have h0 := h e (by simp)
  have h1 := q1d (e.rep - qae sf).toNat
  have h2 := q1d (e.num - q3d sf e).toNat
  have h3 := q1d e.sku.size
  have h4 := q1d (e.qty - 1).toNat
  have h5 : e.sku.data.toList.length = e.sku.size := rfl
  simp only [q36, qzk, List.length_append, List.length_cons]
  omega
theorem q6d {b : Bs} {l : List Ent} {p q : Nat} (h : St b p (q07 l) q) (hf : qgg [] l) (hs : ∀ e ∈ l, 1 ≤ e.sku.size ∧ e.qty ≤ 1000000) (hb : b.length ≤ 900000000000) : q0c b p = .ok (l, q) := by
 unfold q07 at h
 have t1 := h.fst
 have t2 := h.snd
 have hge := qzi l [] fun e he => (hs e he).1
 have e4 := t2.1
 have e5 := t2.le
 unfold q0c
 rw [Rs.bind_put (q9h (by decide) t1 (by omega) (by omega)), qkm l [] 0 1 _ q t2 hf (fun e he => (hs e he).2) rfl rfl]
 rfl
theorem q6e {b : Bs} {l : List Ent} {p q : Nat} (h : q0c b p = .ok (l, q)) : St b p (q07 l) q ∧ qgg [] l := by
 unfold q0c at h
 obtain ⟨n, a, h1, h2⟩ := Rs.bind_get h
 obtain ⟨g1, g2⟩ := q9i h1
 obtain ⟨m, rfl, hm, hs, hf⟩ := qkn n 0 1 [] l a q g1.le (by omega) (by omega) rfl rfl h2
 refine ⟨?_, hf⟩
 unfold q07
 rw [hm]
 exact g1.app hs
theorem qki {b : Bs} (hb : b.length ≤ 900000000000) : ∀ (l acc : List Rec) (p q : Nat), St b p (q2d l) q → (∀ r ∈ l, r.sku.size ≤ 24 ∧ PF r.past) → q9f b l.length acc p = .ok (acc ++ l, q)
 | [], acc, p, q, h, _ => by
  have : q = p := by simpa [q2d] using h.1
  simp [q9f, this]
 | r :: l, acc, p, q, h, hf => by
  obtain ⟨h1, h2⟩ := hf r (by simp)
  have h : St b p (((q1w r.sku.size ++ r.sku.data.toList) ++ q1g r.past) ++ q2d l) q := h
  rw [List.length_cons, q9f, Rs.bind_put (qkg h.fst.fst h1 (by omega)), Rs.bind_put (qbt h.fst.snd h2 hb), qki hb l _ _ q h.snd fun x hx => hf x (by simp [hx])]
  simp
theorem qkj {b : Bs} : ∀ (k : Nat) (acc l : List Rec) (p q : Nat), p ≤ b.length → q9f b k acc p = .ok (l, q) → ∃ m, l = acc ++ m ∧ m.length = k ∧ St b p (q2d m) q ∧ ∀ r ∈ m, r.sku.size ≤ 24 ∧ PF r.past
 | 0, acc, l, p, q, hp, h => by
  simp only [q9f, Except.ok.injEq, Prod.mk.injEq] at h
  obtain ⟨rfl, rfl⟩ := h
  exact ⟨[], by simp, rfl, St.nil hp, fun r hr => by cases hr⟩
 | k + 1, acc, l, p, q, hp, h => by
  rw [q9f] at h
  obtain ⟨sku, a1, h1, h2⟩ := Rs.bind_get h
  obtain ⟨x, a2, h3, h4⟩ := Rs.bind_get h2
  obtain ⟨g1, g2⟩ := qkh h1
  obtain ⟨g3, g4⟩ := q8e h3
  obtain ⟨m, rfl, hm, hs, hf⟩ := qkj k _ l a2 q g3.le h4
  refine ⟨⟨sku, x⟩ :: m, by simp, by simp [hm], ?_, fun r hr => ?_⟩
  ·show St b p (((q1w sku.size ++ sku.data.toList) ++ q1g x) ++ q2d m) q
   exact (g1.app g3).app hs
  ·rcases List.mem_cons.1 hr with rfl | hr
   ·exact ⟨g2, g4⟩
   ·exact hf r hr
theorem recB_ge {r : Rec} (h : r.past.vec ≠ [] ∨ r.past.cloud ≠ []) : 4 ≤ (z0q r).length := by
 have h1 := q1d r.sku.size
 have h2 := q1d r.past.vec.length
 have h3 := q1d r.past.cloud.length
 have h4 := q90 r.past.vec r.past.cloud []
 have h5 : 1 ≤ (qao r.past.vec).length + (q2c r.past.vec [] r.past.cloud).length := by
  rcases h with h | h
  ·cases hv : r.past.vec with
   | nil => exact absurd hv h
   | cons x l =>
    have := q1d x.toNat
    rw [q80, List.length_append]
    omega
  ·have : 0 < r.past.cloud.length := List.length_pos_iff.2 h
   omega
 simp only [z0q, q1g, List.length_append]
 omega
theorem qpl : ∀ (l : List Rec), (∀ r ∈ l, r.past.vec ≠ [] ∨ r.past.cloud ≠ []) → 4 * l.length ≤ (q2d l).length
 | [], _ => by simp
 | r :: l, h => by
  have h1 := qpl l fun x hx => h x (by simp [hx])
  have h2 := recB_ge (h r (by simp))
  simp only [q2d, List.flatMap_cons, List.length_append, List.length_cons] at h1 ⊢
  omega
theorem q6b {b : Bs} {l : List Rec} {p q : Nat} (h : St b p (q0s l) q) (hf : ∀ r ∈ l, r.sku.size ≤ 24 ∧ PF r.past) (hs : ∀ r ∈ l, r.past.vec ≠ [] ∨ r.past.cloud ≠ []) (hb : b.length ≤ 900000000000) : q08 b p = .ok (l, q) := by
 unfold q0s at h
 have t1 := h.fst
 have t2 := h.snd
 have hge := qpl l hs
 have e4 := t2.1
 have e5 := t2.le
 unfold q08
 rw [Rs.bind_put (q9h (by decide) t1 (by omega) (by omega)), qki hb l [] _ q t2 hf]
 rfl
theorem q6c {b : Bs} {l : List Rec} {p q : Nat} (h : q08 b p = .ok (l, q)) : St b p (q0s l) q ∧ ∀ r ∈ l, r.sku.size ≤ 24 ∧ PF r.past := by
 unfold q08 at h
 obtain ⟨n, a, h1, h2⟩ := Rs.bind_get h
 obtain ⟨g1, g2⟩ := q9i h1
 obtain ⟨m, rfl, hm, hs, hf⟩ := qkj n [] l a q g1.le h2
 refine ⟨?_, hf⟩
 unfold q0s
 rw [hm]
 exact g1.app hs

section
def Act.sh (a : Act) (ds : List Deferred) : Act := { a with defers := a.defers ++ ds }
theorem qkp (a : Act) (ds : List Deferred) (d : Option Tmp) (v : Value) : (Act.sh a ds).put d v = Act.sh (a.put d v) ds := by cases d <;> rfl
theorem eval_sh (a : Act) (ds : List Deferred) : (Act.sh a ds).eval = a.eval := rfl
section
variable {P : Program}
theorem upon_sh {o : Oper} {a : Act} {ds : List Deferred} {K : Act → World → Prop} {Q : Exit → Act → World → Prop} {r : Result Next} (h : o.upon P a (fun a' w' => K (Act.sh a' ds) w') (fun e a' w' => Q e (Act.sh a' ds) w') r) :
 o.upon P (Act.sh a ds) K Q r := by
 cases r with
 | ok n w' =>
  cases n <;> simp only [Oper.upon] at h ⊢
  case value v => rw [qkp]; exact h
  case skip => rw [qkp]; exact h
  case defer d =>
   have e : (({ Act.sh a ds with defers := d :: (Act.sh a ds).defers } : Act).put o.dst undef) = Act.sh (({ a with defers := d :: a.defers } : Act).put o.dst undef) ds := by cases o.dst <;> rfl
   rw [e]
   exact h
  case enter f args =>
   refine Calls.mono h fun e w'' he => ?_
   cases e with
   | returned v =>
    show K ((Act.sh a ds).put o.dst v) w''
    rw [qkp]
    exact he
   | panicked c => exact he
   | outgrown => obtain ⟨a0, w0, hq⟩ := he; exact ⟨_, _, hq⟩
  case row row args => exact Rows.mono h fun v w'' he => by rw [qkp]; exact he
 | halt x w' =>
  cases x <;> simp only [Oper.upon] at h ⊢
  exact h
theorem qam {ops : Array Oper} {ds : List Deferred} {Q : Exit → Act → World → Prop} : ∀ (l : List Nat) (a : Act) (w : World), wpOps P ops (fun e a' w' => Q e (Act.sh a' ds) w') l a w → wpOps P ops Q l (Act.sh a ds) w
 | [], a, w, h => h
 | i :: l, a, w, h => by
  simp only [wpOps] at h ⊢
  cases ho : ops[i]? with
  | none => simp only [ho] at h ⊢; exact qam l a w h
  | some o =>
   simp only [ho] at h ⊢
   show if Region.wanted o (yielded ops a.tmps) = true then _ else _
   split at h
   ·rename_i hw
    rw [if_pos hw]
    rcases h with h | ⟨h1, a0, w0, h2⟩
    ·left
     unfold Oper.wp at h ⊢
     rw [eval_sh]
     refine upon_sh (?_ : o.upon P a (fun a' w' => wpOps P ops Q l (Act.sh a' ds) w') _ _)
     have mono : ∀ {K K' : Act → World → Prop} {r : Result Next}, (∀ a w, K a w → K' a w) → o.upon P a K (fun e a' w' => Q e (Act.sh a' ds) w') r → o.upon P a K' (fun e a' w' => Q e (Act.sh a' ds) w') r := by
      intro K K' r hk h
      cases r with
      | ok n w' =>
       cases n <;> simp only [Oper.upon] at h ⊢
       case value v => exact hk _ _ h
       case skip => exact hk _ _ h
       case defer d => exact hk _ _ h
       case enter f args =>
        refine Calls.mono h fun e w'' he => ?_
        cases e with
        | returned v => exact hk _ _ he
        | panicked c => exact he
        | outgrown => exact he
       case row row args => exact Rows.mono h fun v w'' he => hk _ _ he
      | halt x w' => cases x <;> exact h
     exact mono (fun a w h => qam l a w h) h
    ·exact .inr ⟨h1, _, _, h2⟩
   ·rename_i hw
    rw [if_neg hw, qkp]
    exact qam l _ w h
end
def AWd (E : Env) (n : Nat) (ds : List Deferred) (x : SC) (Q : Ex → AS → Prop) (s : AS) : Prop :=
 ∀ c, q7q n c = some x → ∀ B G a w, Rel n B G s a w → ∀ Q', Post n B G w Q (fun e a' w' => Q' e (Act.sh a' ds) w') → c.wp E.P Q' (Act.sh a ds) w
section
variable {E : Env} {n : Nat} {ds : List Deferred} {Q : Ex → AS → Prop} {s : AS}
theorem AWd.skip (h : Q .normal s) : AWd E n ds .skip Q s := by
 intro c hc B G a w hR Q' hP
 cases c <;> simp only [q7q, reduceCtorEq] at hc
 case skip => exact wp_skip (hP .normal _ _ _ _ (.refl G w) hR h)
 all_goals first | (simp at hc; done) | ((repeat' split at hc) <;> simp at hc; done) | skip
theorem AWd.ret (h : Q .ret s) : AWd E n ds .ret Q s := by
 intro c hc B G a w hR Q' hP
 cases c <;> simp only [q7q, reduceCtorEq] at hc
 case ret => exact wp_ret (hP .ret _ _ _ _ (.refl G w) hR h)
 all_goals first | (simp at hc; done) | ((repeat' split at hc) <;> simp at hc; done) | skip
theorem AWd.seq {x y : SC} (h : AWd E n ds x (Ex.then (AWd E n ds y Q) Q) s) : AWd E n ds (.seq x y) Q s := by
 intro c hc B G a w hR Q' hP
 cases c <;> simp only [q7q, reduceCtorEq] at hc
 case seq cx cy =>
  split at hc
  case h_2 => simp at hc
  rename_i x' y' hx hy
  simp only [Option.some.injEq, SC.seq.injEq] at hc
  obtain ⟨rfl, rfl⟩ := hc
  refine wp_seq (h cx hx B G a w hR _ fun e s1 a' w' G' hA hR' hq => ?_)
  cases e with
  | normal => exact hq cy hy B G' a' w' hR' Q' (hP.adv hA)
  | exit id => exact hP (.exit id) _ _ _ _ hA hR' hq
  | ret => exact hP .ret _ _ _ _ hA hR' hq
  | pan v => exact hP (.pan v) _ _ _ _ hA hR' hq
 all_goals first | (simp at hc; done) | ((repeat' split at hc) <;> simp at hc; done) | skip
theorem AWd.cond {o : Operand} {x y : SC} {b : Bool} (hb : ev s.T o = .bool b) (ht : b = true → AWd E n ds x Q s) (hf : b = false → AWd E n ds y Q s) : AWd E n ds (.cond o x y) Q s := by
 intro c hc B G a w hR Q' hP
 cases c <;> simp only [q7q, reduceCtorEq] at hc
 case cond co cx cy =>
  split at hc
  case h_2 => simp at hc
  rename_i x' y' hx hy
  simp only [Option.some.injEq, SC.cond.injEq] at hc
  obtain ⟨rfl, rfl, rfl⟩ := hc
  have hv := hR.ev co
  rw [hb] at hv
  have hv' : a.eval co = .bool b := by generalize a.eval co = cv at hv; cases hv; rfl
  exact wp_cond_split (a := Act.sh a ds) hv' (fun h1 => ht h1 cx hx B G a w hR Q' hP) (fun h1 => hf h1 cy hy B G a w hR Q' hP)
 all_goals first | (simp at hc; done) | ((repeat' split at hc) <;> simp at hc; done) | skip
theorem AWd.ops {l : List SOp} (h : q05 E false none Q l s) : AWd E n ds (.ops false l) Q s := by
 intro c hc B G a w hR Q' hP
 cases c <;> simp only [q7q, reduceCtorEq] at hc
 case region id ops d =>
  split at hc
  case isFalse => split at hc <;> simp at hc
  rename_i hb
  simp only [Bool.and_eq_true, Bool.or_eq_true, Bool.not_eq_true'] at hb
  simp only [Option.some.injEq, SC.ops.injEq] at hc
  obtain ⟨rfl, rfl⟩ := hc
  have hn := qg8 hb.1
  refine wp_region ?_
  have := q3z hn ops.toList 0 s G a w (by simp) hR hP h
  rw [List.range_eq_range']
  exact qam _ a w (by simpa using this)
 all_goals first | (simp at hc; done) | ((repeat' split at hc) <;> simp at hc; done) | skip
theorem qpi {c : Code} {l : List SOp} (hc : q7q n c = some (.ops false l)) : ∃ id ops, c = .region id ops false ∧ qoa n ops ∧ ops.toList.map (q5a ops) = l := by
 cases c <;> simp only [q7q, reduceCtorEq] at hc
 case region id ops d =>
  split at hc
  case isFalse => split at hc <;> simp at hc
  rename_i hb
  simp only [Bool.and_eq_true, Bool.or_eq_true, Bool.not_eq_true'] at hb
  simp only [Option.some.injEq, SC.ops.injEq] at hc
  obtain ⟨rfl, rfl⟩ := hc
  exact ⟨id, ops, rfl, qg8 hb.1, rfl⟩
 all_goals first | (simp at hc; done) | ((repeat' split at hc) <;> simp at hc; done) | skip
theorem qar {c : Code} {x y : SC} (hc : q7q n c = some (.seq x y)) : ∃ cx cy, c = .seq cx cy ∧ q7q n cx = some x ∧ q7q n cy = some y := by
 cases c <;> simp only [q7q, reduceCtorEq] at hc
 case seq cx cy =>
  split at hc
  case h_2 => simp at hc
  rename_i x' y' hx hy
  simp only [Option.some.injEq, SC.seq.injEq] at hc
  obtain ⟨rfl, rfl⟩ := hc
  exact ⟨cx, cy, rfl, hx, hy⟩
 all_goals first | (simp at hc; done) | ((repeat' split at hc) <;> simp at hc; done) | skip
end
end
def qau : List SOp := [zO 4 (.alloc 35)]
instance : Live qau := ⟨[0,1]⟩
def qat : List SOp := [zM 6 0,zO 7 (.build 163 #[(0,.tmp 6),(2,.const (.bool true))]),zO 8 (.box 163 (.tmp 7)),zO 5 (.alloc 140),⟨none,.store 140 (.tmp 5) (.tmp 8),none⟩]
instance : Live qat := ⟨[0,1,4]⟩
def qas : List SOp := [zO 9 (.makeFunc (.func 130) #[] #[.tmp 5,.tmp 4]),⟨none,.defer ⟨.value (.tmp 9),#[],#[]⟩,none⟩]
instance : Live qas := ⟨[1,4,5]⟩
def qyj : List SOp := [zM 10 1,zO 11 (.binOp .neq 141 (.tmp 10) (.const .nilFunc) 141)]
instance : Live qyj := ⟨[1,4,5]⟩
def qyi : List SOp := [zM 12 1,zL 13 140 5,zO 14 (.call ⟨.value (.tmp 12),#[.tmp 13],#[140]⟩)]
instance : Live qyi := ⟨[1,4,5]⟩
def qyh : List SOp := [⟨none,.store 35 (.tmp 4) (.const (.int .i64 0)),none⟩]
instance : Live qyh := ⟨[4]⟩
def qhd : SC :=
 (.seq (.ops false qau) (.seq (.ops false qat) (.seq (.ops false qas) (.seq (.seq (.ops false qyj) (.cond (.tmp 11) (.ops false qyi) .skip)) (.seq (.ops false qyh) .ret)))))
theorem it_k102 : FnIs Tryz.prog 102 15 [.cell 4 35] qhd := ⟨Tryz.f102, _, Tryz.func102, rfl, rfl, rfl, rfl, by kernel_rfl⟩

def qfc : List SOp := [zO 6 (.call ⟨.builtin .recover,#[],#[]⟩),zG 2 6]
instance : Live qfc := ⟨[0,1]⟩
def qvs : List SOp := [zL 7 140 0,zO 8 (.nilCheck (.tmp 7)),zF 9 163 8 1,zL 10 3 9,zL 11 140 0,zO 12 (.nilCheck (.tmp 11)),zF 13 163 12 0,zL 14 28 13,zO 15 (.call ⟨.builtin .len,#[.tmp 14],#[28]⟩),zO 16 (.binOp .lss 3 (.tmp 10) (.tmp 15) 3),zG 3 16]
instance : Live qvs := ⟨[0,1,2]⟩
def qvr : List SOp := [zL 17 140 0,zL 18 140 0,zO 19 (.nilCheck (.tmp 17)),zF 20 163 19 2,⟨none,.store 4 (.tmp 20) (.const (.bool false)),none⟩,zO 21 (.nilCheck (.tmp 18)),zF 22 163 21 0,⟨none,.store 28 (.tmp 22) (.const (.slice none 0 0)),none⟩]
instance : Live qvr := ⟨[0,1,2,3]⟩
def qvq : List SOp := [zM 24 2,zO 25 (.typeAssert (.tmp 24) 20 165 true),zM 23 25,zX 26 23 0,zX 27 23 1,zO 4 (.alloc 165),⟨none,.store 165 (.tmp 4) (.tmp 26),none⟩,zG 5 27]
instance : Live qvq := ⟨[0,1,2,3]⟩
def qvp : List SOp := [zM 28 5,zM 29 28,⟨some 30,.fieldAddr 165 (.tmp 4) 0,some ((some 29),true)⟩,⟨some 31,.load 140 (.tmp 30),some ((some 29),true)⟩,⟨some 32,.load 140 (.tmp 0),some ((some 29),true)⟩,⟨some 33,.binOp .neq 140 (.tmp 31) (.tmp 32) 140,some ((some 29),true)⟩,zO 34 (.pick (.tmp 29) (.tmp 33) (.const (.bool false))),zM 35 34,⟨some 36,.fieldAddr 165 (.tmp 4) 0,some ((some 35),true)⟩,⟨some 37,.load 140 (.tmp 36),some ((some 35),true)⟩,⟨some 38,.nilCheck (.tmp 37),some ((some 35),true)⟩,⟨some 39,.fieldAddr 163 (.tmp 38) 2,some ((some 35),true)⟩,⟨some 40,.load 4 (.tmp 39),some ((some 35),true)⟩,zO 41 (.pick (.tmp 35) (.tmp 40) (.const (.bool false)))]
instance : Live qvp := ⟨[0,1,2,3,4,5]⟩
def qvo : List SOp := [zL 42 165 4,zO 43 (.makeInterface 165 (.tmp 42)),⟨none,.panic (.tmp 43),none⟩]
instance : Live qvo := ⟨[0,1,2,3,4]⟩
def qvn : List SOp := [zL 45 140 0,zO 46 (.nilCheck (.tmp 45)),zF 47 163 46 3,zL 48 35 47,zO 49 (.binOp .neq 35 (.tmp 48) (.const (.int .i64 0)) 35),zG 44 49]
instance : Live qvn := ⟨[0,1,2,3]⟩
def qvm : List SOp := [zL 50 140 0,zO 51 (.nilCheck (.tmp 50)),zF 52 163 51 3,zL 53 35 52,⟨none,.store 35 (.tmp 1) (.tmp 53),none⟩]
instance : Live qvm := ⟨[0,1]⟩
def qvl : List SOp := [zM 55 2,zO 56 (.binOp .neq 20 (.tmp 55) (.const .nilIface) 20),zG 54 56]
instance : Live qvl := ⟨[1,2,3]⟩
def qiw : List SOp := [⟨none,.store 35 (.tmp 1) (.const (.int .i64 8)),none⟩]
instance : Live qiw := ⟨[1]⟩
def qiv : List SOp := [zM 58 3,zG 57 58]
instance : Live qiv := ⟨[1,3]⟩
def qiu : List SOp := [⟨none,.store 35 (.tmp 1) (.const (.int .i64 52)),none⟩]
instance : Live qiu := ⟨[1]⟩
def qbd : SC :=
 (.seq (.ops false qfc) (.seq (.ops true qvs) (.seq (.ops false qvr) (.seq (.seq (.ops false qvq) (.seq (.ops false qvp) (.cond (.tmp 41) (.ops false qvo) .skip))) (.block 0 (.seq (.ops false qvn) (.cond (.tmp 44) (.ops false qvm) (.seq (.ops false qvl) (.cond (.tmp 54) (.ops false qiw) (.seq (.ops false qiv) (.cond (.tmp 57) (.ops false qiu) .skip)))))))))))
theorem zch : FnIs Tryz.prog 130 59 [] qbd := ⟨Tryz.f130, _, Tryz.func130, rfl, rfl, rfl, rfl, by kernel_rfl⟩

theorem EvM.of_run {E : Env} {f : FuncId} {fn : Func} {c : Code} (h1 : E.P.funcs[f]? = some fn) (h2 : (fn.name == "runtime.NumGoroutine") = false) (h3 : fn.body = some c) {args : List AVal} {m m' : qel} {out : Out} (hl : args.length ≤ fn.ntmps) (hd : ∀ k, lin m' k = lin m k)
 (hb : ∀ p ∈ m, p.1 < q5r) (hst' : ∀ p ∈ m', ∀ x ∈ p.2, q0n x = true)
 (h : ∀ (B : Nat → Prop) (G : Gh) (vs : Array Value) (w : World), vs.size = args.length → Rel fn.ntmps B G ⟨q5f args, mms (lnt m G.β)⟩ { tmps := vs ++ Array.replicate (fn.ntmps - vs.size) undef, defers := [] } w → ∀ R : Ending → World → Prop,
  (∀ e w' G' s a' n', Adv G w G' w' → Rel n' B G' s a' w' → FinM m m' G.β s → (∃ v', match out with
   | .ret x => e = .returned v' ∧ x.stb = true ∧ VR (Dm s.M) G' B w' x v'
   | .pan x => e = .panicked [{ v := v', recovered := false }] ∧ x.kin (lin m) = true ∧ VR (Dm s.M) G' B w' x v') → R e w') → Calls E.P f vs w R) : EvM E.P f args m out m' := by
 refine ⟨⟨fn, h1, h2, by simp [h3]⟩, hd, fun B w vs G hG hsz hv hmem hB hol => ?_⟩
 have hlt : ∀ k, lin m k = true → k < q5r := fun k hk => by
  obtain ⟨cs, hc⟩ := q3v hk
  obtain ⟨cs', _, hm⟩ := q29 hc
  exact hb _ hm
 have hD : ∀ k e, Dm (q4c m) k e → Dm (mms (lnt m G.β)) k e := fun k e hk => by
  have hk' := qnt.1 hk
  unfold Dm
  rw [qns (hlt k hk')]
  exact hk
 have same : ∀ b, b < w.heap.size → ¬ B b → G.ow b = none → w.heap[b]? = w.heap[b]? ∧ ¬ B b ∧ G.ow b = none := fun b _ hn ho => ⟨rfl, hn, ho⟩
 have hR : Rel fn.ntmps B G ⟨q5f args, mms (lnt m G.β)⟩ { tmps := vs ++ Array.replicate (fn.ntmps - vs.size) undef, defers := [] } w := by
  refine ⟨by simp; omega, rfl, fun t => ?_, fun k blk hk => ?_, hB, hol⟩
  ·simp only [q5f]
   cases ht : args[t]? with
   | none => exact .undef _
   | some x =>
    have hlt : t < vs.size := by
     rw [hsz]
     rcases Nat.lt_or_ge t args.length with h' | h'
     ·exact h'
     ·rw [List.getElem?_eq_none h'] at ht; cases ht
    have : (vs ++ Array.replicate (fn.ntmps - vs.size) undef).getD t undef = vs[t] := by
     rw [Array.getD_eq_getD_getElem?, Array.getElem?_append_left hlt]
     simp [hlt]
    simp only [Option.getD_some, this]
    exact VR.mono (G := G) (G' := G) (B := B) (B' := B) (w := w) (w' := w) hD (fun _ _ _ => ⟨rfl, rfl⟩) same (hv t x _ ht (by simp [hlt]))
  ·rcases qca hk with hk | ⟨p, hp, rfl⟩
   ·exact BlkRel.mono (G := G) (G' := G) (B := B) (B' := B) (w := w) (w' := w) hD (fun _ _ _ => ⟨rfl, rfl⟩) same (fun b key _ _ hn ho => ⟨rfl, hn, ho⟩) (q99 hk) (hmem k blk hk)
   ·refine .ptr p.1 0 (hD _ _ (qnt.2 ?_))
    unfold lin q4c
    rw [Option.isSome_map, List.find?_isSome]
    exact ⟨p, hp, by simp⟩
 refine h B G vs w hsz hR _ fun e w' G' s a' n' hA hR' hf hout => ?_
 let G2 : Gh := { G' with ow := fun b => match G'.ow b with | some (.box k) => if lin m k = true then some (.box k) else none | some (.cell k i) => if lin m k = true then some (.cell k i) else none | _ => none }
 have g2 : ∀ b, G'.ow b = none → G2.ow b = none := fun b hb => by simp only [G2, hb]
 have g3 : ∀ b, (G'.without fun j => !lin m j).ow b = none → G2.ow b = none := fun b hb => by
  simp only [Gh.without] at hb
  simp only [G2]
  cases hq : G'.ow b with
  | none => rfl
  | some key =>
   simp only [hq] at hb
   cases key with
   | arr j => rfl
   | box j => cases hl : lin m j <;> simp [OKey.of, hl] at hb ⊢
   | cell j i => cases hl : lin m j <;> simp [OKey.of, hl] at hb ⊢
 have hA2 : Adv G w G2 w' := ⟨hA.os, hA.tape, hA.output, hA.size, fun b hb ho => ⟨(hA.keep b hb ho).1, g2 b (hA.keep b hb ho).2⟩⟩
 have hkeys : ∀ b key, G2.ow b = some key → lin m key.of = true ∧ ∀ j, key ≠ .arr j := fun b key hk => by
  simp only [G2] at hk
  split at hk
  ·split at hk
   ·rename_i hl; cases hk; exact ⟨hl, fun _ h => (by cases h)⟩
   ·cases hk
  ·split at hk
   ·rename_i hl; cases hk; exact ⟨hl, fun _ h => (by cases h)⟩
   ·cases hk
  ·cases hk
 have hol2 : ∀ b, G2.ow b ≠ none → b < w'.heap.size := fun b hb => hR'.ol b fun hn => hb (g2 b hn)
 have fin : FinM m m' G.β s → (∀ k, lin m k = true → G2.β k = G.β k) ∧ (∀ k blk, q4c m' k = some blk → BlkRel (Dm (q4c m')) G2 B w' k blk) := fun ⟨f1, f2⟩ => by
  refine ⟨fun k hk => ?_, fun k blk hk => ?_⟩
  ·obtain ⟨cs, hc⟩ := q3v hk
   obtain ⟨cs', _, hm⟩ := q29 hc
   obtain ⟨j, hj⟩ := f2 _ hm
   have hn : VR (Dm s.M) G' B w' (.ptr k 0) (q3u (G.β k)) := hR'.mem j _ hj
   show G'.β k = G.β k
   unfold q3u at hn
   generalize hg : Value.pointer (some ⟨G.β k, 0, none⟩) = u at hn
   cases hn with
   | ptr _ _ hD =>
    simp only [Value.pointer.injEq, Option.some.injEq, Addr.mk.injEq] at hg
    exact hg.1.symm
  ·obtain ⟨cs, rfl, hm⟩ := q29 hk
   have hlk : lin m k = true := by rw [← hd]; unfold lin; rw [hk]; rfl
   exact q5w (G := G') (G' := G2) (B := B) (B' := B) (hst' _ hm) rfl (fun b hn ho => ⟨hn, by simp only [G2, ho, hlk, if_true]⟩) (fun b i hn ho => ⟨hn, by simp only [G2, ho, hlk, if_true]⟩) (fun b _ hn ho => ⟨hn, g2 b ho⟩) (hR'.mem k _ (f1 _ hm))
 obtain ⟨v', hout⟩ := hout
 cases out with
 | ret x =>
  obtain ⟨he, hs, hV⟩ := hout
  exact ⟨G2, v', hkeys, hol2, hA2, (fin hf).1, (fin hf).2, he, hV.stable (fun b _ hn ho => ⟨rfl, hn, g2 b ho⟩) hs⟩
 | pan x =>
  obtain ⟨he, hk, hV⟩ := hout
  refine ⟨G2, v', hkeys, hol2, hA2, (fin hf).1, (fin hf).2, he, ?_⟩
  have := VR.ren (K := lin m) (ρ := fun k => k) (G := G') (G' := G2) (B := B) (B' := B) (w := w') (w' := w') (D := Dm s.M) (D' := Dm (q4c m')) (fun b _ hn ho => ⟨rfl, hn, g2 b ho⟩) (fun k hk _ => ⟨qnt.2 (by rw [hd]; exact hk), rfl⟩) hV hk
  rwa [AVal.ren_id] at this
theorem q6j {P : Program} {TE : TyE} (hT : q2q P TE) {s : AS} {x : Operand} {xt at' : TypeId} {i : TyI} (ht : TE at' = some i) (hna : i.td ≠ .iface) {z : AVal} (hz : ∀ D G B w, VR D G B w z i.zero) (hx : ev s.T x = .niliface) :
 Hook P s (.typeAssert x xt at' true) (fun v M' => M' = s.M ∧ v = .tup [z, .bool false]) := by
 intro n B G act w hR o ho K Q hK
 have q1 := hR.ev x
 rw [hx] at q1
 generalize hxv : act.eval x = xv at q1
 cases q1
 obtain ⟨d, inf, u1, u2, u3, u4, u5, u6, u7⟩ := hT at' i ht
 have hz0 := q12 hT ht w
 have hrun : (execOp act.eval o).run P w = .ok (.value (.tuple #[i.zero, .bool false])) w := by
  unfold execOp
  rw [ho]
  cases d <;> simp only [TD.of] at u2 <;> first | exact absurd u2.symm hna | simp [Instr.typeAssert, run_underlying u1, hxv, hz0, Result.andThen]
 unfold Oper.wp
 rw [hrun]
 exact hK _ _ s.M w G ⟨rfl, rfl⟩ (.refl G w) hR (.tup _ _ rfl fun n x v h1 h2 => by
  match n with
  | 0 => simp at h1 h2; subst h1; subst h2; exact hz _ _ _ _
  | 1 => simp at h1 h2; subst h1; subst h2; exact .bool false
  | n + 2 => simp at h1)
theorem qci {P : Program} {TE : TyE} (hT : q2q P TE) {s : AS} {x : Operand} {xt at' : TypeId} {i : TyI} (ht : TE at' = some i) (hna : i.td ≠ .iface) {z : AVal} (hx : ev s.T x = .iface at' z) :
 Hook P s (.typeAssert x xt at' true) (fun v M' => M' = s.M ∧ v = .tup [z, .bool true]) := by
 intro n B G act w hR o ho K Q hK
 have q1 := hR.ev x
 rw [hx] at q1
 generalize hxv : act.eval x = xv at q1
 cases q1
 rename_i u hu
 obtain ⟨d, inf, u1, u2, u3, u4, u5, u6, u7⟩ := hT at' i ht
 have hrun : (execOp act.eval o).run P w = .ok (.value (.tuple #[u, .bool true])) w := by
  unfold execOp
  rw [ho]
  cases d <;> simp only [TD.of] at u2 <;> first | exact absurd u2.symm hna | simp [Instr.typeAssert, run_underlying u1, hxv, Result.andThen]
 unfold Oper.wp
 rw [hrun]
 exact hK _ _ s.M w G ⟨rfl, rfl⟩ (.refl G w) hR (.tup _ _ rfl fun n x v h1 h2 => by
  match n with
  | 0 => simp at h1 h2; subst h1; subst h2; exact hu
  | 1 => simp at h1 h2; subst h1; subst h2; exact .bool true
  | n + 2 => simp at h1)
theorem eqPS {P : Program} {t e : TypeId} {m : Nat} (hu : P.underlying t = some (.pointer e)) (w : World) (hs : (sizeOf e).run P w = .ok m w) (hm : m ≠ 0) (d : Nat) (a : Addr) : (Op.equalIn (d + 1) t (.pointer (some a)) (.pointer (some a))).run P w = .ok true w := by
 simp [Op.equalIn, run_underlying hu, hs, hm, sameAddr, Result.andThen]
theorem eqIN {P : Program} {t : TypeId} (hu : ∃ ms, P.underlying t = some (.interface ms)) (w : World) (d : Nat) : (Op.equalIn (d + 1) t .nilIface .nilIface).run P w = .ok true w := by
 obtain ⟨ms, hu⟩ := hu
 simp [Op.equalIn, run_underlying hu]
theorem ql5 {P : Program} {TE : TyE} (hT : q2q P TE) {s : AS} {x y : Operand} {t u e : TypeId} {i ei : TyI} (ht : TE t = some i) (hd : i.td = .ptr e) (he : TE e = some ei) (hne : ei.size ≠ 0) {k off : Nat} (hx : ev s.T x = .ptr k off) (hy : ev s.T y = .ptr k off) :
 Hook P s (.binOp .neq t x y u) (fun v M' => M' = s.M ∧ v = .bool false) := by
 intro n B G act w hR o ho K Q hK
 have q1 := hR.ev x
 have q2 := hR.ev y
 rw [hx] at q1
 rw [hy] at q2
 generalize hxv : act.eval x = xv at q1
 generalize hyv : act.eval y = yv at q2
 cases q1
 cases q2
 obtain ⟨d, inf, u1, u2, u3, u4, u5, u6, u7⟩ := hT t i ht
 have hdd : d = .pointer e := by rw [hd] at u2; cases d <;> simp [TD.of] at u2; rw [u2]
 subst hdd
 have hs := q0k hT he w
 have hr : (Op.equalIn (9999 + 1) t (.pointer (some ⟨G.β k, off, none⟩)) (.pointer (some ⟨G.β k, off, none⟩))).run P w = .ok true w := eqPS u1 w hs hne 9999 _
 obtain ⟨_, g2⟩ := q45 (t := t) (ox := x) (oy := y) (fun op => by cases op <;> rfl) rfl rfl hr
 have hrun : (execOp act.eval o).run P w = .ok (.value (.bool false)) w := by
  unfold execOp
  rw [ho]
  simp only [hxv, hyv]
  rw [Sem.run_bind, g2]
  rfl
 unfold Oper.wp
 rw [hrun]
 exact hK _ _ s.M w G ⟨rfl, rfl⟩ (.refl G w) hR (.bool false)
theorem qa7 {P : Program} {TE : TyE} (hT : q2q P TE) {s : AS} {x : Operand} {t u : TypeId} {i : TyI} (ht : TE t = some i) (hd : i.td = .iface) (hx : ev s.T x = .niliface) :
 Hook P s (.binOp .neq t x (.const .nilIface) u) (fun v M' => M' = s.M ∧ v = .bool false) := by
 intro n B G act w hR o ho K Q hK
 have q1 := hR.ev x
 rw [hx] at q1
 generalize hxv : act.eval x = xv at q1
 cases q1
 obtain ⟨d, inf, u1, u2, u3, u4, u5, u6, u7⟩ := hT t i ht
 have hr : (Op.equalIn (9999 + 1) t .nilIface .nilIface).run P w = .ok true w := by
  rw [hd] at u2
  cases d <;> simp [TD.of] at u2
  exact eqIN ⟨_, u1⟩ w 9999
 obtain ⟨_, g2⟩ := q45 (t := t) (ox := x) (oy := .const .nilIface) (fun op => by cases op <;> cases x <;> simp [eqGuard]) rfl rfl hr
 have hrun : (execOp act.eval o).run P w = .ok (.value (.bool false)) w := by
  unfold execOp
  rw [ho]
  have hc : act.eval (.const .nilIface) = .nilIface := rfl
  simp only [hxv, hc]
  rw [Sem.run_bind, g2]
  rfl
 unfold Oper.wp
 rw [hrun]
 exact hK _ _ s.M w G ⟨rfl, rfl⟩ (.refl G w) hR (.bool false)
def qoe (K : Nat → Bool) : AVal → Bool
 | .own _ xs => q0o xs
 | .hole => true
 | .ref _ => false
 | x => x.kin K
def renC (σ : Nat → Nat) : AVal → AVal
 | .own sz xs => .own sz xs
 | .hole => .hole
 | .ref cs => .ref cs
 | x => x.ren σ
def q7l (K : Nat → Bool) : ABlk → Bool
 | .cells cs => cs.all (qoe K)
 | .note x _ => x.kin K
 | _ => false
def z1s (σ : Nat → Nat) : ABlk → ABlk
 | .cells cs => .cells (cs.map (renC σ))
 | .note x v => .note (x.ren σ) v
 | b => b
theorem Wk.ren {n : Nat} {T : q19} {M : Mem} (σ τ : Nat → Nat) (K : Nat → Bool) (hK : ∀ k, M k ≠ none → τ (σ k) = k) (hT : ∀ t, (T t).kin K = true) (hM : ∀ k blk, M k = some blk → q7l K blk = true) :
 Wk n ⟨T, M⟩ ⟨fun t => (T t).ren σ, fun k => if σ (τ k) = k then (M (τ k)).map (z1s σ) else none⟩ := by
 intro B G a w hR
 let G' : Gh := { β := fun k => G.β (τ k), hd := G.hd, ow := fun b => (G.ow b).map (OKey.ren σ), hd1 := G.hd1 }
 have g0 : ∀ b, G.ow b = none → G'.ow b = none := fun b hb => by simp [G', hb]
 have g1 : ∀ b key, G.ow b = some key → G'.ow b = some (key.ren σ) := fun b key hb => by simp [G', hb]
 have hA : Adv G w G' w := ⟨⟨rfl, Nat.le_refl _⟩, rfl, rfl, Nat.le_refl _, fun b _ ho => ⟨rfl, g0 b ho⟩⟩
 have hw : ∀ b, b < w.heap.size → ¬ B b → G.ow b = none → w.heap[b]? = w.heap[b]? ∧ ¬ B b ∧ G'.ow b = none := fun b _ hn ho => ⟨rfl, hn, g0 b ho⟩
 let M' : Mem := fun k => if σ (τ k) = k then (M (τ k)).map (z1s σ) else none
 have hM' : ∀ k blk, M k = some blk → M' (σ k) = some (z1s σ blk) := fun k blk hk => by
  have := hK k (by rw [hk]; simp)
  simp only [M', this, if_true, hk, Option.map_some]
 have hD : ∀ k, K k = true → Dm M k 0 → Dm M' (σ k) 0 ∧ G'.β (σ k) = G.β k := fun k _ hd => by
  cases hk : M k with
  | none => exact absurd hd (q5z hk)
  | some blk =>
   refine ⟨?_, by simp only [G', hK k (by rw [hk]; simp)]⟩
   have h1 := hM k blk hk
   have h2 := hM' k blk hk
   cases blk with
   | cells cs => exact qb2 h2
   | note x v => simp only [Dm, h2, z1s]
   | arr e sz xs => simp [q7l] at h1
   | dead => simp [q7l] at h1
   | map es => simp [q7l] at h1
 refine ⟨G', ⟨hR.size, hR.defers, fun t => (hR.temps t).ren hw hD (hT t), fun k' blk' hk' => ?_, fun b hb => ⟨(hR.fr b hb).1, g0 b (hR.fr b hb).2⟩, fun b hb => hR.ol b fun hn => hb (g0 b hn)⟩, hA⟩
 simp only at hk'
 split at hk'
 case isFalse => cases hk'
 rename_i hστ
 cases hk : M (τ k') with
 | none => rw [hk] at hk'; cases hk'
 | some blk =>
  rw [hk] at hk'
  cases hk'
  have h1 := hM _ _ hk
  have hmem := hR.mem _ _ hk
  generalize hkk : τ k' = k at *
  cases blk with
  | arr e sz xs => simp [q7l] at h1
  | dead => simp [q7l] at h1
  | map es => simp [q7l] at h1
  | note x v => exact VR.ren hw hD hmem h1
  | cells cs =>
   obtain ⟨c, el, b1, b2, b3, b4, b5⟩ := hmem
   have hβ : G'.β k' = G.β k := by simp only [G', hkk]
   refine ⟨c, el, ?_, by rw [hβ]; exact b2, by rw [hβ]; exact b3, by simpa using b4, fun i x hx => ?_⟩
   ·rw [hβ, g1 _ _ b1]
    simp only [OKey.ren, hστ]
   ·rw [List.getElem?_map] at hx
    cases hy : cs[i]? with
    | none => simp [hy] at hx
    | some y =>
     simp only [hy, Option.map_some, Option.some.injEq] at hx
     subst hx
     obtain ⟨u, hu, hr⟩ := b5 i y hy
     refine ⟨u, hu, ?_⟩
     have hky := List.all_eq_true.1 h1 y (List.mem_of_getElem? hy)
     have gen : y.kin K = true → CellRel (Dm M) G B w k i y u → VR (Dm M) G B w y u → CellRel (Dm M') G' B w k' i (y.ren σ) u := fun q1 _ q3 => CellRel.of_VR (q3.ren hw hD q1)
     cases y with
     | own sz xs =>
      refine OwnAt.trade (fun b hn ho => ⟨hn, ?_⟩) (fun z hz u hr => hr.stable hw (q34 hky z hz)) hr
      rw [g1 _ _ ho]
      simp only [OKey.ren, hστ]
     | hole => trivial
     | ref cs => cases hky
     | _ => exact gen hky hr hr
theorem tms_kin {K : Nat → Bool} {l : List (Nat × AVal)} (h : l.all (fun p => p.2.kin K) = true) (t : Nat) : (tms l t).kin K = true := by
 induction l with
 | nil => rfl
 | cons p l ih =>
  obtain ⟨k, v⟩ := p
  simp only [List.all_cons, Bool.and_eq_true] at h
  simp only [tms]
  by_cases ht : t = k
  ·subst ht; rw [q00]; exact h.1
  ·rw [q0i _ _ ht]; exact ih h.2
theorem qno {k : Nat} {blk : ABlk} : ∀ {m : List (Nat × ABlk)}, mms m k = some blk → (k, blk) ∈ m
 | [], h => by cases h
 | (j, b) :: m, h => by
  simp only [mms] at h
  by_cases hj : k = j
  ·subst hj; rw [q00] at h; cases h; simp
  ·rw [q0i _ _ hj] at h; exact List.mem_cons_of_mem _ (qno h)
theorem Wk.renL {n : Nat} {l : List (Nat × AVal)} {m : List (Nat × ABlk)} (σ τ : Nat → Nat) (K : Nat → Bool) (hK : m.all (fun p => τ (σ p.1) == p.1) = true) (hT : l.all (fun p => p.2.kin K) = true) (hM : m.all (fun p => q7l K p.2) = true) :
 Wk n ⟨tms l, mms m⟩ ⟨fun t => (tms l t).ren σ, fun k => if σ (τ k) = k then (mms m (τ k)).map (z1s σ) else none⟩ := by
 refine Wk.ren σ τ K (fun k hk => ?_) (tms_kin hT) (fun k blk hk => List.all_eq_true.1 hM (k, blk) (qno hk))
 cases hb : mms m k with
 | none => exact absurd hb hk
 | some b => exact beq_iff_eq.1 (List.all_eq_true.1 hK (k, b) (qno hb))
theorem z2c {σ : Nat → Nat} : ∀ (l : List (Nat × AVal)) (t : Nat), (tms l t).ren σ = tms (l.map fun p => (p.1, p.2.ren σ)) t
 | [], t => rfl
 | (k, v) :: l, t => by
  simp only [tms, List.map_cons]
  by_cases h : t = k
  ·subst h; rw [q00, q00]
  ·rw [q0i _ _ h, q0i _ _ h, z2c l t]
theorem zc7 {σ τ : Nat → Nat} : ∀ (m : List (Nat × ABlk)), m.all (fun p => τ (σ p.1) == p.1) = true → ∀ k, (if σ (τ k) = k then (mms m (τ k)).map (z1s σ) else none) = mms (m.map fun p => (σ p.1, z1s σ p.2)) k
 | [], _, k => by simp [mms, NoM]
 | (j, b) :: m, h, k => by
  simp only [List.all_cons, Bool.and_eq_true, beq_iff_eq] at h
  have ih := zc7 m h.2 k
  simp only [mms, List.map_cons]
  by_cases hk : k = σ j
  ·subst hk
   rw [h.1, q00, q00, if_pos rfl]
   rfl
  ·rw [q0i _ _ hk, ← ih]
   split
   ·rename_i hs
    have : τ k ≠ j := fun e => hk (by rw [← hs, e])
    rw [q0i _ _ this]
   ·rfl
theorem Wk.renS {n : Nat} {l : List (Nat × AVal)} {m : List (Nat × ABlk)} (σ τ : Nat → Nat) (K : Nat → Bool) (hK : m.all (fun p => τ (σ p.1) == p.1) = true) (hT : l.all (fun p => p.2.kin K) = true) (hM : m.all (fun p => q7l K p.2) = true) :
 Wk n ⟨tms l, mms m⟩ ⟨tms (l.map fun p => (p.1, p.2.ren σ)), mms (m.map fun p => (σ p.1, z1s σ p.2))⟩ := by
 have h := Wk.renL (n := n) σ τ K hK hT hM
 have e1 : (fun t => (tms l t).ren σ) = tms (l.map fun p => (p.1, p.2.ren σ)) := funext (z2c l)
 have e2 : (fun k => if σ (τ k) = k then (mms m (τ k)).map (z1s σ) else none) = mms (m.map fun p => (σ p.1, z1s σ p.2)) := funext (zc7 m hK)
 rw [e1, e2] at h
 exact h
theorem qn0 {σ : Nat → Nat} {cs : List AVal} (h : cs.all q0n = true) : cs.map (renC σ) = cs := by
 have : ∀ x ∈ cs, renC σ x = x := fun x hx => by
  have hx := List.all_eq_true.1 h x hx
  cases x <;> first | rfl | exact (AVal.stb_ren _ hx).1
 exact (List.map_congr_left this).trans (List.map_id _)
theorem q9w {K : Nat → Bool} {cs : List AVal} (h : cs.all q0n = true) : cs.all (qoe K) = true := by
 rw [List.all_eq_true] at h ⊢
 intro x hx
 have hx := h x hx
 cases x <;> first | exact hx | exact (AVal.stb_ren (ρ := fun k => k) _ hx).2 K
theorem qm0 {cs : List AVal} (h : cs.all q0n = true) : cs.all qzz = true := by
 rw [List.all_eq_true] at h ⊢
 intro x hx
 have hx := h x hx
 cases x <;> first | exact hx | rfl | exact absurd hx (by simp [q0n])
theorem Rel.noted {n : Nat} {B : Nat → Prop} {G : Gh} {T : q19} {M : Mem} {a : Act} {w : World} (h : Rel n B G ⟨T, M⟩ a w) {k : Nat} (hk : M k = none) {x : AVal} {v : Value} (hv : VR (Dm M) G B w x v) : Rel n B G ⟨T, upd M k (some (.note x v))⟩ a w :=
 h.update (Adv.refl G w) k (.note x v) (by show qml (M k) _; rw [hk]; trivial) (fun _ _ _ => ⟨rfl, rfl⟩) (fun b key _ _ ho _ => ⟨rfl, ho⟩) h.ol
  (hv.mono (fun j e => q3b (by show qml (M k) _; rw [hk]; trivial)) (fun _ _ _ => ⟨rfl, rfl⟩) (fun b _ hn ho => ⟨rfl, hn, ho⟩))
theorem Rel.seen {n n' : Nat} {B : Nat → Prop} {G : Gh} {s : AS} {a a' : Act} {w : World} (h : Rel n B G s a w) {T : q19} (hs : a'.tmps.size = n') (hd : a'.defers = []) (hT : ∀ t, VR (Dm s.M) G B w (T t) (a'.tmps.getD t undef)) : Rel n' B G ⟨T, s.M⟩ a' w :=
 ⟨hs, hd, hT, h.mem, h.fr, h.ol⟩

def qds : SC → SC
 | .seq _ y => y
 | x => x
def RdQ (res : Int) (g o : List AVal) (v1 v2 v4 : Value) : Ex → AS → Prop
 | .normal, s => s.M 1004 = some (.cells [.int .i64 res]) ∧ s.M 900001 = some (.cells g) ∧ s.M 900002 = some (.cells o) ∧ s.M 1900001 = some (.note (.ptr 900001 0) v1) ∧ s.M 1900002 = some (.note (.ptr 900002 0) v2) ∧ s.M 1900004 = some (.note (.ptr 1004 0) v4)
 | _, _ => False
def RdM (b : Bs) (a e : Nat) (g o : List AVal) (v1 v2 v4 v5 : Value) : Mem :=
 mms [(1004, .cells [.int .i64 0]), (1005, .cells [.ptr 1008 0]), (1008, .cells (rdC b a e)), (900001, .cells g), (900002, .cells o), (1900001, .note (.ptr 900001 0) v1), (1900002, .note (.ptr 900002 0) v2), (1900004, .note (.ptr 1004 0) v4), (1900005, .note (.ptr 1005 0) v5)]
theorem qoh (b : Bs) (a : Nat) (hb : b.length ≤ 900000000000) (g o : List AVal) (v1 v2 v4 v5 : Value) :
 AW (En Tryz.prog rfl) 59 (qds qbd) (RdQ (if a < b.length then 52 else 0) g o v1 v2 v4) ⟨tms [(0, .ptr 1005 0), (1, .ptr 1004 0), (2, .niliface)], RdM b a 0 g o v1 v2 v4 v5⟩ := by
 refine Run.start ?_
 unfold qbd
 simp only [qds]
 unfold RdM
 have e1 := q1u b
 by_cases hlt : a < b.length
 ·rw [if_pos hlt]
  have hlt2 : (a : Int) < (b.length : Int) := by omega
  (focus (have hF := (aI @q06 (aI @e1 @hlt2)); (repeat' (first | refine go1 (k:=?_) | with_reducible refine Ny.of ?_ ?_ | (refine Hyp.of ?_; intro hc; (try simp only [hc]); (try simp only [Bh] at hc)))); all_goals clear hF))
  refine q1z (q6j (TE := TE0) qba z09 (by simp) (z := .agg [.nilptr]) ?_ rfl) ?_
  ·intro D G B w
   refine .agg _ _ rfl fun n x v h1 h2 => ?_
   match n with
   | 0 => simp at h1 h2; subst h1; subst h2; exact .nilptr
   | n + 1 => simp at h1
  rintro v M' ⟨rfl, rfl⟩
  dsimp only [AS.put]
  (focus (have hF := (aI @q06 (aI @e1 @hlt2)); (repeat' (first | refine go1 (k:=?_) | with_reducible refine Ny.of ?_ ?_ | (refine Hyp.of ?_; intro hc; (try simp only [hc]); (try simp only [Bh] at hc)))); all_goals clear hF))
  refine q1z (qa7 (TE := TE0) qba TE_20 rfl rfl) ?_
  rintro v M' ⟨rfl, rfl⟩
  dsimp only [AS.put]
  (focus (have hF := (aI @q06 (aI @e1 @hlt2)); (repeat' (first | refine go1 (k:=?_) | with_reducible refine Ny.of ?_ ?_ | (refine Hyp.of ?_; intro hc; (try simp only [hc]); (try simp only [Bh] at hc)))); all_goals clear hF))
  exact ⟨rfl, rfl, rfl, rfl, rfl, rfl⟩
 ·rw [if_neg hlt]
  have hlt2 : ¬ (a : Int) < (b.length : Int) := by omega
  (focus (have hF := (aI @q06 (aI @e1 @hlt2)); (repeat' (first | refine go1 (k:=?_) | with_reducible refine Ny.of ?_ ?_ | (refine Hyp.of ?_; intro hc; (try simp only [hc]); (try simp only [Bh] at hc)))); all_goals clear hF))
  refine q1z (q6j (TE := TE0) qba z09 (by simp) (z := .agg [.nilptr]) ?_ rfl) ?_
  ·intro D G B w
   refine .agg _ _ rfl fun n x v h1 h2 => ?_
   match n with
   | 0 => simp at h1 h2; subst h1; subst h2; exact .nilptr
   | n + 1 => simp at h1
  rintro v M' ⟨rfl, rfl⟩
  dsimp only [AS.put]
  (focus (have hF := (aI @q06 (aI @e1 @hlt2)); (repeat' (first | refine go1 (k:=?_) | with_reducible refine Ny.of ?_ ?_ | (refine Hyp.of ?_; intro hc; (try simp only [hc]); (try simp only [Bh] at hc)))); all_goals clear hF))
  refine q1z (qa7 (TE := TE0) qba TE_20 rfl rfl) ?_
  rintro v M' ⟨rfl, rfl⟩
  dsimp only [AS.put]
  (focus (have hF := (aI @q06 (aI @e1 @hlt2)); (repeat' (first | refine go1 (k:=?_) | with_reducible refine Ny.of ?_ ?_ | (refine Hyp.of ?_; intro hc; (try simp only [hc]); (try simp only [Bh] at hc)))); all_goals clear hF))
  exact ⟨rfl, rfl, rfl, rfl, rfl, rfl⟩
theorem qm9 (b : Bs) (a e : Nat) (he : e ≠ 0) (hb : b.length ≤ 900000000000) (g o : List AVal) (v1 v2 v4 v5 : Value) :
 AW (En Tryz.prog rfl) 59 (qds qbd) (RdQ (e : Int) g o v1 v2 v4) ⟨tms [(0, .ptr 1005 0), (1, .ptr 1004 0), (2, .iface 165 (.agg [.ptr 1008 0]))], RdM b a e g o v1 v2 v4 v5⟩ := by
 refine Run.start ?_
 unfold qbd
 simp only [qds]
 unfold RdM
 have e1 := q1u b
 have he2 : ¬ (e : Int) = 0 := by omega
 (focus (have hF := (aI @q06 (aI @e1 @he2)); (repeat' (first | refine go0 (k:=?_) | fail)); all_goals clear hF))
 refine q1z (qci (TE := TE0) qba z09 (by simp) (z := .agg [.ptr 1008 0]) rfl) ?_
 rintro v M' ⟨rfl, rfl⟩
 dsimp only [AS.put]
 (focus (have hF := (aI @q06 (aI @e1 @he2)); (repeat' (first | refine go1 (k:=?_) | with_reducible refine Ny.of ?_ ?_ | (refine Hyp.of ?_; intro hc; (try simp only [hc]); (try simp only [Bh] at hc)))); all_goals clear hF))
 refine q1z (ql5 (TE := TE0) qba TE_140 rfl TE_163 (by decide) (k := 1008) (off := 0) rfl rfl) ?_
 rintro v M' ⟨rfl, rfl⟩
 dsimp only [AS.put]
 (focus (have hF := (aI @q06 (aI @e1 @he2)); (repeat' (first | refine go1 (k:=?_) | with_reducible refine Ny.of ?_ ?_ | (refine Hyp.of ?_; intro hc; (try simp only [hc]); (try simp only [Bh] at hc)))); all_goals clear hF))
 exact ⟨rfl, rfl, rfl, rfl, rfl, rfl⟩
theorem qph {ops : Array Oper} {x y : SOp} (h : ops.toList.map (q5a ops) = [x, y]) : ∃ o1 o2, ops[0]? = some o1 ∧ ops[1]? = some o2 ∧ ops.size = 2 ∧ q5a ops o1 = x ∧ q5a ops o2 = y := by
 have hl := congrArg List.length h
 simp at hl
 refine ⟨ops[0], ops[1], by simp [hl], by simp [hl], hl, ?_, ?_⟩
 ·have := congrArg (·[0]?) h
  simpa [hl] using this
 ·have := congrArg (·[1]?) h
  simpa [hl] using this
theorem q87 {ops : Array Oper} {o : Oper} {d : Option Tmp} {op : Op} (h : q5a ops o = ⟨d, op, none⟩) : o.dst = d ∧ o.op = op ∧ o.guard = none := by
 obtain ⟨dst, op', ty, pos, after, guard⟩ := o
 simp only [q5a, SOp.mk.injEq] at h
 refine ⟨h.1, h.2.1, ?_⟩
 cases guard with
 | none => rfl
 | some g => exact absurd h.2.2 (by simp)
theorem q5m {o : Oper} (h : o.guard = none) (y : Nat → Option Bool) : Region.wanted o y = true := by
 unfold Region.wanted
 rw [h]
theorem qab {n : Nat} {B : Nat → Prop} {G : Gh} {T : q19} {M : Mem} {a : Act} {w : World} (h : Rel n B G ⟨T, M⟩ a w) {p5 p4 xv : Value} (h5 : VR (Dm M) G B w (.ptr 1005 0) p5) (h4 : VR (Dm M) G B w (.ptr 1004 0) p4) {u u' : FrameMode} {x : AVal} (hx : VR (Dm M) G B w x xv)
 (hu : (u = .returning ∧ u' = .returning ∧ xv = .nilIface) ∨ (u = .panicking [{ v := xv, recovered := false }] ∧ u' = .panicking [{ v := xv, recovered := true }])) {Q : Ex → AS → Prop}
 (haw : AW (En Tryz.prog rfl) 59 (qds qbd) Q ⟨tms [(0, .ptr 1005 0), (1, .ptr 1004 0), (2, x)], M⟩) (hQ : ∀ e s, Q e s → e = .normal) {R : Ending → FrameMode → World → Prop}
 (hR : ∀ v' w' G' s' a', Adv G w G' w' → Rel 59 B G' s' a' w' → Q .normal s' → R (.returned v') u' w') : CallsD (En Tryz.prog rfl).P 130 #[p5, p4] u w R := by
 obtain ⟨fn, c, f1, f2, f3, f4, f5, f6⟩ := zch
 obtain ⟨c0, c1, rfl, s0, s1⟩ := qar (x := .ops false qfc) (y := qds qbd) f6
 obtain ⟨id, ops, rfl, hdst, hops⟩ := qpi s0
 obtain ⟨o1, o2, g1, g2, g3, g4, g5⟩ := qph hops
 obtain ⟨a1, a2, a3⟩ := q87 g4
 obtain ⟨b1, b2, b3⟩ := q87 g5
 refine callsD_of_wpS f1 f3 fun c₀ cs hc₀ => ?_
 refine wpS_seq (wpS_region ?_)
 rw [g3, show List.range 2 = [0, 1] from rfl]
 have r1 : ∀ ρ, (execOp ρ o1).run (En Tryz.prog rfl).P w = .ok .recover w := fun ρ => by
  unfold execOp
  rw [a2]
  rfl
 have r2 : ∀ ρ, (execOp ρ o2).run (En Tryz.prog rfl).P w = .ok (.value (ρ (.tmp 6))) w := fun ρ => by
  unfold execOp
  rw [b2]
  rfl
 simp only [wpOpsS, g1, g2, q5m a3, q5m b3, if_true, r1, r2, Oper.upon, a1, b1]
 have fin : ∀ (A : Act) (cs' : List Frame), A = (({ tmps := #[p5, p4] ++ Array.replicate (fn.ntmps - #[p5, p4].size) undef, defers := [] } : Act).put (some 6) xv).put (some 2) ((({ tmps := #[p5, p4] ++ Array.replicate (fn.ntmps - #[p5, p4].size) undef, defers := [] } : Act).put (some 6) xv).eval (.tmp 6)) →
  cs' = { c₀ with mode := u' } :: cs → c1.wpS (En Tryz.prog rfl).P (bodyPostS (En Tryz.prog rfl).P fn c₀ cs R) A cs' w := by
  rintro A cs' rfl rfl
  refine wpS_of_wp (haw c1 s1 B G _ w ?_ _ fun e s' a' w' G' hA hR' hq => ?_)
  ·rw [f4]
   refine ⟨by simp [Act.put], by simp [Act.put], fun t => ?_, h.mem, h.fr, h.ol⟩
   have hev : (({ tmps := #[p5, p4] ++ Array.replicate (59 - #[p5, p4].size) undef, defers := [] } : Act).put (some 6) xv).eval (.tmp 6) = xv := by
    simp [Act.put, Act.eval]
   rw [hev]
   match t with
   | 0 => simpa [Act.put, tms, upd] using h5
   | 1 => simpa [Act.put, tms, upd] using h4
   | 2 => simpa [Act.put, tms, upd] using hx
   | t + 3 =>
    have : tms [(0, AVal.ptr 1005 0), (1, AVal.ptr 1004 0), (2, x)] (t + 3) = .undef := by simp [tms, upd]
    show VR _ G B w (tms [(0, AVal.ptr 1005 0), (1, AVal.ptr 1004 0), (2, x)] (t + 3)) _
    rw [this]
    exact .undef _
  ·have he := hQ _ _ hq
   subst he
   refine ⟨hR'.defers, u', rfl, .tuple #[], ?_, hR _ w' G' s' a' hA hR' hq⟩
   have hrs : fn.results = #[] := by simpa using f5
   unfold results
   rw [hrs]
   simp [Result.andThen]
 rcases hu with ⟨rfl, rfl, rfl⟩ | ⟨rfl, rfl⟩
 ·have hrec : recoverD (c₀ :: cs) = none := by simp [recoverD, hc₀]
  rw [hrec]
  exact fin _ _ rfl (by rw [← hc₀])
 ·have hrec : recoverD (c₀ :: cs) = some (xv, { c₀ with mode := .panicking [{ v := xv, recovered := true }] } :: cs) := by simp [recoverD, hc₀]
  rw [hrec]
  exact fin _ _ rfl rfl

section
theorem q8j {k : Nat} : ∀ {l : List (Nat × ABlk)}, k ∉ l.map Prod.fst → mms l k = none
 | [], _ => rfl
 | (j, b) :: l, h => by
  simp only [List.map_cons, List.mem_cons, not_or] at h
  simp only [mms]
  rw [q0i _ _ h.1]
  exact q8j h.2
def alk (P : Nat → Prop) : List Nat → Prop
 | [] => True
 | k :: l => P k ∧ alk P l
theorem qok {P : Nat → Prop} : ∀ {l : List Nat}, alk P l → ∀ k ∈ l, P k
 | [], _, k, h => by simp at h
 | j :: l, h, k, hk => by
  rcases List.mem_cons.1 hk with rfl | hk
  ·exact h.1
  ·exact qok h.2 k hk
theorem qnp {l l' : List (Nat × ABlk)} (h : alk (fun k => mms l k = mms l' k) (l.map Prod.fst ++ l'.map Prod.fst)) : mms l = mms l' := by
 replace h := qok h
 funext k
 by_cases hk : k ∈ l.map Prod.fst ++ l'.map Prod.fst
 ·exact h k hk
 ·simp only [List.mem_append, not_or] at hk
  rw [q8j hk.1, q8j hk.2]
theorem qdp {l l' : List (Nat × ABlk)} {L : Nat → Bool} {σ : Nat → Nat} {m' : qel} (hL : ∀ k, L k = true → k ∈ l.map Prod.fst) (h : alk (fun k => (if L k = true then q4c m' (σ k) else mms l k) = mms l' k) (l.map Prod.fst ++ l'.map Prod.fst)) : q20 (mms l) L σ m' = mms l' := by
 replace h := qok h
 funext k
 show (if L k = true then q4c m' (σ k) else mms l k) = mms l' k
 by_cases hk : k ∈ l.map Prod.fst ++ l'.map Prod.fst
 ·exact h k hk
 ·simp only [List.mem_append, not_or] at hk
  have : ¬ L k = true := fun e => hk.1 (hL k e)
  rw [if_neg this, q8j hk.1, q8j hk.2]
theorem Wk.eqM {n : Nat} {T : q19} {M M' : Mem} (h : M = M') : Wk n ⟨T, M⟩ ⟨T, M'⟩ := by subst h; exact Wk.refl _ _
section
variable {E : Env} {n : Nat} {ds : List Deferred} {Q : Ex → AS → Prop} {s : AS}
theorem AWd.run {l : List SOp} {o : SOp} {r : List SOp} (hl : l = o :: r) (h : q05 E false none (KQ E n Q .done) (o :: r) s) : AWd E n ds (.ops false l) Q s := by
 subst hl
 exact AWd.ops h
end
def up1k (k : Nat) : Nat := if k < 100 then 1000 + k else k
def dn1k (k : Nat) : Nat := if 1000 ≤ k ∧ k < 1100 then k - 1000 else k
def q41 (b : Bs) (a e : Nat) : Int := if e = 0 then (if a < b.length then 52 else 0) else e
def RdL (b : Bs) (a e : Nat) (g o : List AVal) (v1 v2 : Value) : List (Nat × ABlk) :=
 [(1004, .cells [.int .i64 0]), (1005, .cells [.ptr 1008 0]), (1008, .cells (rdC b a e)), (900001, .cells g), (900002, .cells o), (1900001, .note (.ptr 900001 0) v1), (1900002, .note (.ptr 900002 0) v2)]
section
variable (b : Bs) (F : FuncId) (g o : List AVal) (v1 v2 : Value)
def RdS : AS := ⟨tms [(1, .fn F [.ptr 900001 0, .ptr 900002 0]), (4, .ptr 1004 0), (5, .ptr 1005 0)], mms (RdL b 0 0 g o v1 v2)⟩
theorem qm8 (hg : g.all q0n = true) (ho : o.all q0n = true) :
 AW (En Tryz.prog rfl) 15 (.ops false qau) (fun e s => e = .normal ∧ AW (En Tryz.prog rfl) 15 (.ops false qat) (fun e s => e = .normal ∧ Wk 15 s (RdS b F g o v1 v2)) s)
  ⟨q5f [.sl 1 (q13 b), .fn F [.ptr 900001 0, .ptr 900002 0]], mms [(900001, .cells g), (1900001, .note (.ptr 900001 0) v1), (900002, .cells o), (1900002, .note (.ptr 900002 0) v2)]⟩ := by
 refine Run.start ?_
 (focus (have hF := @q06; (repeat' (first | refine go1 (k:=?_) | with_reducible refine Ny.of ?_ ?_ | (refine Hyp.of ?_; intro hc; (try simp only [hc]); (try simp only [Bh] at hc)))); all_goals clear hF))
 refine ⟨rfl, Run.start ?_⟩
 (focus (have hF := @q06; (repeat' (first | refine go1 (k:=?_) | with_reducible refine Ny.of ?_ ?_ | (refine Hyp.of ?_; intro hc; (try simp only [hc]); (try simp only [Bh] at hc)))); all_goals clear hF))
 refine ⟨rfl, ?_⟩
 have hg2 := qm0 hg
 have ho2 := qm0 ho
 refine Wk.trans (Wk.keep [(1, .fn F [.ptr 900001 0, .ptr 900002 0]), (4, .ptr 4 0), (5, .ptr 5 0)] ⟨rfl, rfl, rfl, trivial⟩) ?_
 refine Wk.trans (Wk.eqM (M' := mms [(4, .cells [.int .i64 0]), (5, .cells [.ptr 8 0]), (8, .cells (rdC b 0 0)), (900001, .cells g), (900002, .cells o), (1900001, .note (.ptr 900001 0) v1), (1900002, .note (.ptr 900002 0) v2)]) (qnp (l := [(5, .cells [.ptr 8 0]), (5, .cells [.nilptr]), (8, .cells (rdC b 0 0)), (4, .cells [.int .i64 0]), (900001, .cells g), (1900001, .note (.ptr 900001 0) v1), (900002, .cells o), (1900002, .note (.ptr 900002 0) v2)]) (by repeat (first | exact trivial | refine ⟨rfl, ?_⟩)))) ?_
 have h := Wk.renS (n := 15) (l := [(1, .fn F [.ptr 900001 0, .ptr 900002 0]), (4, .ptr 4 0), (5, .ptr 5 0)]) (m := [(4, .cells [.int .i64 0]), (5, .cells [.ptr 8 0]), (8, .cells (rdC b 0 0)), (900001, .cells g), (900002, .cells o), (1900001, .note (.ptr 900001 0) v1), (1900002, .note (.ptr 900002 0) v2)]) up1k dn1k (fun _ => true) rfl rfl (by simp [q7l, q9w hg, q9w ho, q9w (q2j b 0 0), qoe, AVal.kin, AVal.stb])
 have e1 : ([(4, ABlk.cells [.int .i64 0]), (5, .cells [.ptr 8 0]), (8, .cells (rdC b 0 0)), (900001, .cells g), (900002, .cells o), (1900001, .note (.ptr 900001 0) v1), (1900002, .note (.ptr 900002 0) v2)].map fun p => (up1k p.1, z1s up1k p.2)) = RdL b 0 0 g o v1 v2 := by
  simp only [List.map_cons, List.map_nil, z1s, qn0 hg, qn0 ho, qn0 (q2j b 0 0)]
  rfl
 rw [e1] at h
 exact h
end
def rdLL (j : Nat) : Bool := j == 1008 || j == 900001 || j == 900002
def rdσ (j : Nat) : Nat := if j = 1008 then 900000 else j
def rdρ (k : Nat) : Nat := if k = 900000 then 1008 else k
def qmb (b : Bs) (a e : Nat) (g o : List AVal) (v1 v2 v4 v5 : Value) : List (Nat × ABlk) :=
 [(1004, .cells [.int .i64 0]), (1005, .cells [.ptr 1008 0]), (1008, .cells (rdC b a e)), (900001, .cells g), (900002, .cells o), (1900001, .note (.ptr 900001 0) v1), (1900002, .note (.ptr 900002 0) v2), (1900004, .note (.ptr 1004 0) v4), (1900005, .note (.ptr 1005 0) v5)]
def rdM (b : Bs) (a e : Nat) (g o : List AVal) : qel := [(900000, rdC b a e), (900001, g), (900002, o)]
theorem q42 {b : Bs} {a e : Nat} {g o : List AVal} {k : Nat} : lin (rdM b a e g o) k = (k == 900000 || k == 900001 || k == 900002) := by
 unfold lin q4c rdM
 by_cases h0 : k = 900000
 ·subst h0; rfl
 ·by_cases h1 : k = 900001
  ·subst h1; rfl
  ·by_cases h2 : k = 900002
   ·subst h2; rfl
   ·have e0 : ((900000 : Nat) == k) = false := by simpa using fun h => h0 h.symm
    have e1 : ((900001 : Nat) == k) = false := by simpa using fun h => h1 h.symm
    have e2 : ((900002 : Nat) == k) = false := by simpa using fun h => h2 h.symm
    simp [List.find?, e0, e1, e2, h0, h1, h2]
theorem rd_L {b : Bs} {a e : Nat} {g o : List AVal} : ∀ j, rdLL j = true → lin (rdM b a e g o) (rdσ j) = true ∧ rdρ (rdσ j) = j := fun j hj => by
 simp only [rdLL, Bool.or_eq_true, beq_iff_eq] at hj
 rcases hj with (rfl | rfl) | rfl <;> exact ⟨by rw [q42]; rfl, rfl⟩
theorem rd_ρ {b : Bs} {a e : Nat} {g o : List AVal} : ∀ k, lin (rdM b a e g o) k = true → rdLL (rdρ k) = true ∧ rdσ (rdρ k) = k := fun k hk => by
 rw [q42] at hk
 simp only [Bool.or_eq_true, beq_iff_eq] at hk
 rcases hk with (rfl | rfl) | rfl <;> exact ⟨rfl, rfl⟩
section
variable (b : Bs) (F : FuncId) (a e : Nat) (g o o' : List AVal) (v1 v2 v4 v5 : Value)
def RdEnd : Ex → AS → Prop
 | .ret, s => e = 0 ∧ s.M = mms (qmb b a e g o' v1 v2 v4 v5) ∧ s.T 4 = .ptr 1004 0
 | .pan x, s => e ≠ 0 ∧ x = .iface 165 (.agg [.ptr 1008 0]) ∧ s.M = mms (qmb b a e g o' v1 v2 v4 v5) ∧ s.T 4 = .ptr 1004 0
 | _, _ => False
def qpm : SC → SC
 | .seq _ (.seq _ (.seq _ z)) => z
 | z => z
theorem awd_Read (ds : List Deferred) (hg : g.all q0n = true) (ho : o.all q0n = true) (ho' : o'.all q0n = true) {out : Out} (hF : EvM (En Tryz.prog rfl).P F [.ptr 900000 0, .ptr 900001 0, .ptr 900002 0] (rdM b 0 0 g o) out (rdM b a e g o'))
 (hout : out = .ret (.tup []) ∧ e = 0 ∨ out = .pan gup ∧ e ≠ 0) :
 AWd (En Tryz.prog rfl) 15 ds (qpm qhd) (RdEnd b a e g o' v1 v2 v4 v5) ⟨tms [(1, .fn F [.ptr 900001 0, .ptr 900002 0]), (4, .ptr 1004 0), (5, .ptr 1005 0)], mms (qmb b 0 0 g o v1 v2 v4 v5)⟩ := by
 unfold qhd
 simp only [qpm]
 refine AWd.seq (AWd.seq (AWd.run rfl ?_))
 unfold qmb
 (focus (have hF := @q06; (repeat' (first | refine go1 (k:=?_) | with_reducible refine Ny.of ?_ ?_ | (refine Hyp.of ?_; intro hc; (try simp only [hc]); (try simp only [Bh] at hc)))); all_goals clear hF))
 refine AWd.cond rfl (fun _ => AWd.run rfl ?_) (fun h => by cases h)
 (focus (have hF := @q06; (repeat' (first | refine go1 (k:=?_) | with_reducible refine Ny.of ?_ ?_ | (refine Hyp.of ?_; intro hc; (try simp only [hc]); (try simp only [Bh] at hc)))); all_goals clear hF))
 have hst : ∀ (a e : Nat) (o : List AVal), o.all q0n = true → ∀ p ∈ rdM b a e g o, ∀ x ∈ p.2, q0n x = true := fun a e o ho p hp x hx => by
  simp only [rdM, List.mem_cons, List.not_mem_nil, or_false] at hp
  rcases hp with rfl | rfl | rfl
  ·exact List.all_eq_true.1 (q2j b a e) x hx
  ·exact List.all_eq_true.1 hg x hx
  ·exact List.all_eq_true.1 ho x hx
 refine q95 (qaw (s := ⟨_, _⟩) (l := [.ptr 1008 0, .ptr 900001 0, .ptr 900002 0]) (m := rdM b 0 0 g o) (m' := rdM b a e g o') (L := rdLL) (ρ := rdρ) (σ := rdσ) (by with_unfolding_all rfl) (by with_unfolding_all rfl) rd_L rd_ρ ?_ (hst 0 0 o ho) (hst a e o' ho') rfl rfl (out := out) ?_ hF) ?_ ?_
 ·intro k cs hk
  obtain ⟨cs', hc, hm⟩ := q29 hk
  cases hc
  simp only [rdM, List.mem_cons, List.not_mem_nil, or_false, Prod.mk.injEq] at hm
  rcases hm with ⟨rfl, rfl⟩ | ⟨rfl, rfl⟩ | ⟨rfl, rfl⟩ <;> rfl
 ·rcases hout with ⟨rfl, _⟩ | ⟨rfl, _⟩
  ·rfl
  ·show (AVal.iface _ _).kin _ = true
   simp only [AVal.kin, qa5, q42]
   rfl
 ·rintro v M' ⟨y, rfl, rfl, rfl⟩
  have hM := qdp (l := qmb b 0 0 g o v1 v2 v4 v5) (l' := qmb b a e g o' v1 v2 v4 v5) (L := rdLL) (σ := rdσ) (m' := rdM b a e g o') (fun k hk => by
   simp only [rdLL, Bool.or_eq_true, beq_iff_eq] at hk
   rcases hk with (rfl | rfl) | rfl <;> simp [qmb]) (by repeat (first | exact trivial | refine ⟨rfl, ?_⟩))
  unfold qmb at hM
  dsimp only
  rw [hM]
  rcases hout with ⟨h1, he⟩ | ⟨h1, _⟩
  ·cases h1
   refine AWd.seq (AWd.run rfl ?_)
   have hz : (AVal.tup []).ren rdρ = .tup [] := rfl
   rw [hz]
   dsimp only [AS.put]
   (focus (have hF := @hz; (repeat' (first | refine go1 (k:=?_) | with_reducible refine Ny.of ?_ ?_ | (refine Hyp.of ?_; intro hc; (try simp only [hc]); (try simp only [Bh] at hc)))); all_goals clear hF))
   refine AWd.ret ⟨he, qnp (l := (1004, .cells [.int .i64 0]) :: qmb b a e g o' v1 v2 v4 v5) (by repeat (first | exact trivial | refine ⟨rfl, ?_⟩)), rfl⟩
  ·cases h1
 ·rintro v M' ⟨y, rfl, rfl, rfl⟩
  have hM := qdp (l := qmb b 0 0 g o v1 v2 v4 v5) (l' := qmb b a e g o' v1 v2 v4 v5) (L := rdLL) (σ := rdσ) (m' := rdM b a e g o') (fun k hk => by
   simp only [rdLL, Bool.or_eq_true, beq_iff_eq] at hk
   rcases hk with (rfl | rfl) | rfl <;> simp [qmb]) (by repeat (first | exact trivial | refine ⟨rfl, ?_⟩))
  unfold qmb at hM
  dsimp only
  rw [hM]
  rcases hout with ⟨h1, _⟩ | ⟨h1, he⟩
  ·cases h1
  ·cases h1
   exact ⟨he, rfl, rfl, rfl⟩
end
end
theorem upd_idle {T : q19} {t : Nat} (h : T t = .undef) : upd T t .undef = T := by
 funext j
 by_cases hj : j = t
 ·subst hj; rw [q00, h]
 ·rw [q0i _ _ hj]
theorem wp_Read3 {b : Bs} {F : FuncId} {a e : Nat} {g o o' : List AVal} {v1 v2 : Value} (hg : g.all q0n = true) (ho : o.all q0n = true) (ho' : o'.all q0n = true) {out : Out} (hF : EvM (En Tryz.prog rfl).P F [.ptr 900000 0, .ptr 900001 0, .ptr 900002 0] (rdM b 0 0 g o) out (rdM b a e g o'))
 (hout : out = .ret (.tup []) ∧ e = 0 ∨ out = .pan gup ∧ e ≠ 0) {c3 c4 : Code} (s3 : q7q 15 c3 = some (SC.ops false qas)) (s4 : q7q 15 c4 = some (qpm qhd)) {B : Nat → Prop} {G : Gh} {a2 : Act} {w2 : World} (hR : Rel 15 B G (RdS b F g o v1 v2) a2 w2) {Q' : Exit → Act → World → Prop}
 (h : ∀ p5 p4, Post 15 B G w2 (RdEnd b a e g o' v1 v2 p4 p5) (fun e a' w' => Q' e (Act.sh a' [⟨.fn (.func 130) #[p5, p4], #[]⟩]) w')) : (c3.seq c4).wp (En Tryz.prog rfl).P Q' a2 w2 := by
 obtain ⟨id, ops, rfl, hdst, hops⟩ := qpi s3
 obtain ⟨o1, o2, g1, g2, g3, g4, g5⟩ := qph hops
 obtain ⟨a1, a2', a3⟩ := q87 g4
 obtain ⟨b1, b2, b3⟩ := q87 g5
 refine wp_seq (wp_region ?_)
 rw [g3, show List.range 2 = [0, 1] from rfl]
 have r1 : ∀ ρ, (execOp ρ o1).run (En Tryz.prog rfl).P w2 = .ok (.value (.func (.func 130) #[] #[ρ (.tmp 5), ρ (.tmp 4)])) w2 := fun ρ => by
  unfold execOp
  rw [a2']
  simp [Instr.makeFunc]
 have r2 : ∀ ρ, ρ (.tmp 9) = .func (.func 130) #[] #[a2.eval (.tmp 5), a2.eval (.tmp 4)] → (execOp ρ o2).run (En Tryz.prog rfl).P w2 = .ok (.defer ⟨.fn (.func 130) #[a2.eval (.tmp 5), a2.eval (.tmp 4)], #[]⟩) w2 := fun ρ hρ => by
  unfold execOp
  rw [b2]
  simp [resolve, hρ, Deferred.ofValue]
 have hs2 := hR.size
 have h9 : (a2.put (some 9) (.func (.func 130) #[] #[a2.eval (.tmp 5), a2.eval (.tmp 4)])).eval (.tmp 9) = .func (.func 130) #[] #[a2.eval (.tmp 5), a2.eval (.tmp 4)] := by
  simp [Act.put, Act.eval, hs2]
 have r2' := r2 _ h9
 simp only [wpOps, g1, g2, q5m a3, q5m b3, if_true, Oper.wp, r1, a1, b1, Oper.upon, r2']
 refine .inl (.inl ?_)
 generalize hp5 : a2.eval (.tmp 5) = p5 at *
 generalize hp4 : a2.eval (.tmp 4) = p4 at *
 have hv5 : VR (Dm (mms (RdL b 0 0 g o v1 v2))) G B w2 (.ptr 1005 0) p5 := by rw [← hp5]; exact hR.temps 5
 have hv4 : VR (Dm (mms (RdL b 0 0 g o v1 v2))) G B w2 (.ptr 1004 0) p4 := by rw [← hp4]; exact hR.temps 4
 have hd2 := hR.defers
 have hR3 := hR.put (d := some 9) (v := .undef) (v' := .func (.func 130) #[] #[p5, p4]) (fun t ht => by cases ht; decide) (.undef _)
 have eT : upd (tms [(1, .fn F [.ptr 900001 0, .ptr 900002 0]), (4, .ptr 1004 0), (5, .ptr 1005 0)]) 9 .undef = tms [(1, .fn F [.ptr 900001 0, .ptr 900002 0]), (4, .ptr 1004 0), (5, .ptr 1005 0)] := upd_idle rfl
 have hR4 : Rel 15 B G ⟨tms [(1, .fn F [.ptr 900001 0, .ptr 900002 0]), (4, .ptr 1004 0), (5, .ptr 1005 0)], mms (RdL b 0 0 g o v1 v2)⟩ (a2.put (some 9) (.func (.func 130) #[] #[p5, p4])) w2 := by
  rw [← eT]
  exact hR3
 have hR5 := hR4.noted (k := 1900004) rfl hv4
 have hv5' : VR (Dm (upd (mms (RdL b 0 0 g o v1 v2)) 1900004 (some (.note (.ptr 1004 0) p4)))) G B w2 (.ptr 1005 0) p5 := by
  refine hv5.mono (fun j e hj => q3b ?_ hj) (fun _ _ _ => ⟨rfl, rfl⟩) (fun _ _ hn ho => ⟨rfl, hn, ho⟩)
  have : mms (RdL b 0 0 g o v1 v2) 1900004 = none := rfl
  rw [this]
  trivial
 have hR6 := hR5.noted (k := 1900005) rfl hv5'
 have eM : upd (upd (mms (RdL b 0 0 g o v1 v2)) 1900004 (some (.note (.ptr 1004 0) p4))) 1900005 (some (.note (.ptr 1005 0) p5)) = mms (qmb b 0 0 g o v1 v2 p4 p5) :=
  qnp (l := (1900005, .note (.ptr 1005 0) p5) :: (1900004, .note (.ptr 1004 0) p4) :: RdL b 0 0 g o v1 v2) (by repeat (first | exact trivial | refine ⟨rfl, ?_⟩))
 rw [eM] at hR6
 have key := awd_Read b F a e g o o' v1 v2 p4 p5 [⟨.fn (.func 130) #[p5, p4], #[]⟩] hg ho ho' hF hout c4 s4 B G _ w2 hR6 Q' (h p5 p4)
 have e0 : (Act.put ({ a2.put (some 9) (.func (.func 130) #[] #[p5, p4]) with defers := ⟨.fn (.func 130) #[p5, p4], #[]⟩ :: (a2.put (some 9) (.func (.func 130) #[] #[p5, p4])).defers } : Act) none undef) = Act.sh (a2.put (some 9) (.func (.func 130) #[] #[p5, p4])) [⟨.fn (.func 130) #[p5, p4], #[]⟩] := by
  simp [Act.sh, Act.put, hd2]
 show c4.wp _ Q' (Act.put ({ a2.put (some 9) (.func (.func 130) #[] #[p5, p4]) with defers := ⟨.fn (.func 130) #[p5, p4], #[]⟩ :: (a2.put (some 9) (.func (.func 130) #[] #[p5, p4])).defers } : Act) none undef) w2
 rw [e0]
 exact key
theorem qcc {b : Bs} {a e : Nat} {g o' : List AVal} {v1 v2 p4 p5 : Value} (hb : b.length ≤ 900000000000) {fn : Func} (f5 : fn.results.toList = [.cell 4 35]) {B : Nat → Prop} {G : Gh} {s : AS} {a3 : Act} {w : World} (h : Rel 15 B G s a3 w) (hM : s.M = mms (qmb b a e g o' v1 v2 p4 p5)) (hT : s.T 4 = .ptr 1004 0)
 {u : FrameMode} {x : AVal} {xv : Value} (hx : VR (Dm s.M) G B w x xv) (hu : (u = .returning ∧ x = .niliface ∧ xv = .nilIface ∧ e = 0) ∨ (u = .panicking [{ v := xv, recovered := false }] ∧ x = .iface 165 (.agg [.ptr 1008 0]) ∧ e ≠ 0)) {R : Ending → World → Prop}
 (hfin : ∀ w' G' s' a' n', Adv G w G' w' → Rel n' B G' s' a' w' → s'.M 900001 = some (.cells g) → s'.M 900002 = some (.cells o') → s'.M 1900001 = some (.note (.ptr 900001 0) v1) → s'.M 1900002 = some (.note (.ptr 900002 0) v2) → R (.returned (.int .i64 (q41 b a e))) w') :
 Leaves (En Tryz.prog rfl).P fn a3.tmps R [⟨.fn (.func 130) #[p5, p4], #[]⟩] u w := by
 obtain ⟨T, M⟩ := s
 dsimp only at hM hT hx
 subst hM
 have h4 : VR (Dm (mms (qmb b a e g o' v1 v2 p4 p5))) G B w (.ptr 1004 0) p4 := h.mem 1900004 _ rfl
 have h5 : VR (Dm (mms (qmb b a e g o' v1 v2 p4 p5))) G B w (.ptr 1005 0) p5 := h.mem 1900005 _ rfl
 have e4 : a3.tmps.getD 4 undef = p4 := by
  have h4' := h.temps 4
  dsimp only at h4'
  rw [hT] at h4'
  generalize a3.tmps.getD 4 undef = q at h4'
  cases h4 with
  | ptr _ _ hd => cases h4' with | ptr _ _ hd' => rfl
 obtain ⟨fn1, c1, g1, g2, g3, g4, g5, g6⟩ := zch
 have hinv : (invoke (Target.fn (.func 130) #[p5, p4]) #[]).run (En Tryz.prog rfl).P w = .ok (.enter 130 #[p5, p4]) w := by
  have g2' : (fn1.name = "runtime.NumGoroutine") = False := by simpa using g2
  have g1' : (En Tryz.prog rfl).P.funcs[130]? = some fn1 := g1
  simp [invoke, callFunc, g1', g2', g3]
 have fin : ∀ (u' : FrameMode) (w' : World) (G' : Gh) (s' : AS) (a' : Act), Adv G w G' w' → Rel 59 B G' s' a' w' → RdQ (q41 b a e) g o' v1 v2 p4 .normal s' → settle u' = .returning → Leaves (En Tryz.prog rfl).P fn a3.tmps R [] (settle u') w' := by
  intro u' w' G' s' a' hA hR hq hs
  obtain ⟨q1, q2, q3, q4, q5, q6⟩ := hq
  rw [hs]
  have hn : VR (Dm s'.M) G' B w' (.ptr 1004 0) p4 := hR.mem 1900004 _ q6
  have hV : Rel 15 B G' ⟨tms [(4, .ptr 1004 0)], s'.M⟩ a3 w' := hR.seen h.size h.defers fun t => by
   by_cases ht : t = 4
   ·subst ht
    rw [e4]
    exact hn
   ·have : tms [(4, AVal.ptr 1004 0)] t = .undef := by simp [tms, upd, ht]
    rw [this]
    exact .undef _
  obtain ⟨v, r1, r2⟩ := qbn (K := fun _ => true) (En Tryz.prog rfl).hT hV (fn := fn) (xs := [.int .i64 (q41 b a e)]) (ys := [.int .i64 (q41 b a e)]) (by
   rw [f5]
   have ht : (En Tryz.prog rfl).TE 35 = _ := TE_35
   simp [q2e, q51, ht, tms, upd, q1]
   rfl) ⟨.inl rfl, trivial⟩
  refine ⟨v, r1, ?_⟩
  have hv : v = .int .i64 (q41 b a e) := by
   cases r2
   rfl
  rw [hv]
  exact hfin w' G' s' a' 59 hA hR q2 q3 q4 q5
 have step : u ≠ .run ∧ CallsD (En Tryz.prog rfl).P 130 #[p5, p4] u w (fun en u' w' => match en, u', w' with
  | .returned _, u', w' => Leaves (En Tryz.prog rfl).P fn a3.tmps R [] (settle u') w'
  | .panicked chain, u', w' => Leaves (En Tryz.prog rfl).P fn a3.tmps R [] (raised u' chain) w'
  | .outgrown, _, w' => R .outgrown w') := by
  rcases hu with ⟨rfl, rfl, rfl, rfl⟩ | ⟨rfl, rfl, he⟩
  ·refine ⟨by simp, qab (Q := RdQ (q41 b a 0) g o' v1 v2 p4) h h5 h4 hx (u' := .returning) (.inl ⟨rfl, rfl, rfl⟩) (qoh b a hb g o' v1 v2 p4 p5) (fun ee s hq => ?_) fun v' w' G' s' a' hA hR hq => fin _ w' G' s' a' hA hR hq rfl⟩
   cases ee <;> first | rfl | exact hq.elim
  ·have hr : q41 b a e = e := by unfold q41; rw [if_neg he]
   refine ⟨by simp, qab (Q := RdQ (q41 b a e) g o' v1 v2 p4) h h5 h4 hx (u' := .panicking [{ v := xv, recovered := true }]) (.inr ⟨rfl, rfl⟩) (by rw [hr]; exact qm9 b a e he hb g o' v1 v2 p4 p5) (fun ee s hq => ?_) fun v' w' G' s' a' hA hR hq => fin _ w' G' s' a' hA hR hq rfl⟩
   cases ee <;> first | rfl | exact hq.elim
 exact ⟨step.1, _, _, _, _, rfl, hinv, step.2⟩
theorem qo8 (b : Bs) (hb : b.length ≤ 900000000000) (F : FuncId) (a e : Nat) (g o o' : List AVal) (hg : g.all q0n = true) (ho : o.all q0n = true) (ho' : o'.all q0n = true) {out : Out} (hF : EvM (En Tryz.prog rfl).P F [.ptr 900000 0, .ptr 900001 0, .ptr 900002 0] (rdM b 0 0 g o) out (rdM b a e g o'))
 (hout : out = .ret (.tup []) ∧ e = 0 ∨ out = .pan gup ∧ e ≠ 0) : EvM (En Tryz.prog rfl).P 102 [.sl 1 (q13 b), .fn F [.ptr 900001 0, .ptr 900002 0]] [(900001, g), (900002, o)] (.ret (.int .i64 (q41 b a e))) [(900001, g), (900002, o')] := by
 obtain ⟨fn, c, f1, f2, f3, f4, f5, f6⟩ := it_k102
 refine EvM.of_run f1 f2 f3 (by simp [f4]) (fun k => ?_) ?_ ?_ ?_
 ·by_cases h1 : k = 900001
  ·subst h1; rfl
  ·by_cases h2 : k = 900002
   ·subst h2; rfl
   ·unfold lin q4c
    have e1 : ((900001 : Nat) == k) = false := by simpa using fun h => h1 h.symm
    have e2 : ((900002 : Nat) == k) = false := by simpa using fun h => h2 h.symm
    simp [List.find?, e1, e2]
 ·intro p hp
  simp only [List.mem_cons, List.not_mem_nil, or_false] at hp
  rcases hp with rfl | rfl <;> simp [q5r]
 ·intro p hp x hx
  simp only [List.mem_cons, List.not_mem_nil, or_false] at hp
  rcases hp with rfl | rfl
  ·exact List.all_eq_true.1 hg x hx
  ·exact List.all_eq_true.1 ho' x hx
 intro B G vs w hsz hR R hfin
 obtain ⟨c1, cr, rfl, s1, sr⟩ := qar (x := .ops false qau) (y := .seq (.ops false qat) (.seq (.ops false qas) (qpm qhd))) f6
 obtain ⟨c2, cr, rfl, s2, sr⟩ := qar sr
 obtain ⟨c3, c4, rfl, s3, s4⟩ := qar sr
 refine calls_of_wp_defers f1 f3 ?_
 rw [f4] at hR ⊢
 have hl : lnt [(900001, g), (900002, o)] G.β = [(900001, .cells g), (1900001, .note (.ptr 900001 0) (q3u (G.β 900001))), (900002, .cells o), (1900002, .note (.ptr 900002 0) (q3u (G.β 900002)))] := by
  simp only [lnt, q5r, List.flatMap_cons, List.flatMap_nil, List.cons_append, List.nil_append, List.append_nil, Nat.reduceAdd]
 rw [hl] at hR
 refine wp_seq (qm8 b F g o (q3u (G.β 900001)) (q3u (G.β 900002)) hg ho c1 s1 B G _ w hR _ fun e1 S1 a1 w1 G1 hA1 hR1 hq1 => ?_)
 obtain ⟨rfl, hq1⟩ := hq1
 refine wp_seq (hq1 c2 s2 B G1 a1 w1 hR1 _ fun e2 S2 a2 w2 G2 hA2 hR2 hq2 => ?_)
 obtain ⟨rfl, hq2⟩ := hq2
 obtain ⟨G3, hR3, hA3⟩ := hq2 B G2 a2 w2 hR2
 refine wp_Read3 hg ho ho' hF hout s3 s4 hR3 fun p5 p4 e3 S3 a3 w3 G4 hA4 hR4 hq4 => ?_
 have hA : Adv G w G4 w3 := ((hA1.trans hA2).trans hA3).trans hA4
 have f5' : fn.results.toList = [.cell 4 35] := f5
 have hend : ∀ (G4 : Gh) (w3 : World), Adv G w G4 w3 → ∀ (w' : World) (G' : Gh) (s' : AS) (a' : Act) (n' : Nat), Adv G4 w3 G' w' → Rel n' B G' s' a' w' → s'.M 900001 = some (.cells g) → s'.M 900002 = some (.cells o') → s'.M 1900001 = some (.note (.ptr 900001 0) (q3u (G.β 900001))) → s'.M 1900002 = some (.note (.ptr 900002 0) (q3u (G.β 900002))) → R (.returned (.int .i64 (q41 b a e))) w' :=
  fun G4 w3 hA w' G' s' a' n' hA' hR' q1 q2 q3 q4 => hfin _ w' G' s' a' n' (hA.trans hA') hR' ⟨fun p hp => by
   simp only [List.mem_cons, List.not_mem_nil, or_false] at hp
   rcases hp with rfl | rfl
   ·exact q1
   ·exact q2, fun p hp => by
   simp only [List.mem_cons, List.not_mem_nil, or_false] at hp
   rcases hp with rfl | rfl
   ·exact ⟨1900001, q3⟩
   ·exact ⟨1900002, q4⟩⟩ ⟨_, rfl, rfl, .int _ _⟩
 cases e3 with
 | normal => exact hq4.elim
 | exit _ => exact hq4.elim
 | ret =>
  obtain ⟨he, hM, hT4⟩ := hq4
  subst he
  have hds : (Act.sh a3 [⟨.fn (.func 130) #[p5, p4], #[]⟩]).defers = [⟨.fn (.func 130) #[p5, p4], #[]⟩] := by simp [Act.sh, hR4.defers]
  show Leaves _ fn a3.tmps R (Act.sh a3 _).defers .returning w3
  rw [hds]
  exact qcc hb f5' hR4 hM hT4 .niliface (.inl ⟨rfl, rfl, rfl, rfl⟩) (hend G4 w3 hA)
 | pan x =>
  obtain ⟨he, rfl, hM, hT4⟩ := hq4
  intro v' hv'
  have hds : (Act.sh a3 [⟨.fn (.func 130) #[p5, p4], #[]⟩]).defers = [⟨.fn (.func 130) #[p5, p4], #[]⟩] := by simp [Act.sh, hR4.defers]
  show Leaves _ fn a3.tmps R (Act.sh a3 _).defers (.panicking [{ v := v', recovered := false }]) w3
  rw [hds]
  exact qcc hb f5' hR4 hM hT4 hv' (.inr ⟨rfl, rfl, he⟩) (hend G4 w3 hA)

def z6t : List SOp := [zO 3 (.box 109 (.tmp 1)),zO 4 (.alloc 25),zO 5 (.assign (.const (.bool false)))]
instance : Live z6t := ⟨[0,1]⟩
def z6s : List SOp := [zO 6 (.alloc 25)]
instance : Live z6s := ⟨[0,3,4]⟩
def z6r : List SOp := [zM 8 0,zO 9 (.makeFunc (.func 103) #[] #[.tmp 3,.tmp 6]),zO 10 (.call ⟨.value (.func 102),#[.tmp 8,.tmp 9],#[28,141]⟩),zG 7 10]
instance : Live z6r := ⟨[0,3,4,6]⟩
def qna : List SOp := [zL 11 25 6,zM 12 7,zO 13 (.binOp .eql 35 (.tmp 12) (.const (.int .i64 0)) 35),⟨none,.store 25 (.tmp 4) (.tmp 11),none⟩,zG 5 13]
instance : Live qna := ⟨[4,6,7]⟩
def t_k59 : SC :=
 (.seq (.ops false z6t) (.seq (.ops false z6s) (.seq (.ops false z6r) (.seq (.ops false qna) .ret))))
theorem it_k59 : FnIs Tryz.prog 59 14 [.cell 4 25, .tmp 5] t_k59 := ⟨Tryz.f59, _, Tryz.func59, rfl, rfl, rfl, rfl, by kernel_rfl⟩

def qyg : List SOp := [zL 4 109 1,zM 5 0,zO 6 (.call ⟨.value (.tmp 4),#[.tmp 5],#[140]⟩),⟨none,.store 25 (.tmp 2) (.tmp 6),none⟩]
instance : Live qyg := ⟨[0,1,2]⟩
def t_k103 : SC :=
 (.ops false qyg)
theorem it_k103 : FnIs Tryz.prog 103 7 [] t_k103 := ⟨Tryz.f103, _, Tryz.func103, rfl, rfl, rfl, rfl, by kernel_rfl⟩

def z6i : List SOp := [zO 3 (.box 112 (.tmp 1)),zO 4 (.assign (.const (.slice none 0 0))),zO 5 (.assign (.const (.bool false)))]
instance : Live z6i := ⟨[0,1]⟩
def z6h : List SOp := [zO 6 (.alloc 26)]
instance : Live z6h := ⟨[0,3]⟩
def z6g : List SOp := [zM 8 0,zO 9 (.makeFunc (.func 107) #[] #[.tmp 3,.tmp 6]),zO 10 (.call ⟨.value (.func 102),#[.tmp 8,.tmp 9],#[28,141]⟩),zG 7 10]
instance : Live z6g := ⟨[0,3,6]⟩
def qn8 : List SOp := [zL 11 26 6,zM 12 7,zO 13 (.binOp .eql 35 (.tmp 12) (.const (.int .i64 0)) 35),zG 4 11,zG 5 13]
instance : Live qn8 := ⟨[6,7]⟩
def t_k61 : SC :=
 (.seq (.ops false z6i) (.seq (.ops false z6h) (.seq (.ops false z6g) (.seq (.ops false qn8) .ret))))
theorem it_k61 : FnIs Tryz.prog 61 14 [.tmp 4, .tmp 5] t_k61 := ⟨Tryz.f61, _, Tryz.func61, rfl, rfl, rfl, rfl, by kernel_rfl⟩

def qxv : List SOp := [zL 4 112 1,zM 5 0,zO 6 (.call ⟨.value (.tmp 4),#[.tmp 5],#[140]⟩),⟨none,.store 26 (.tmp 2) (.tmp 6),none⟩]
instance : Live qxv := ⟨[0,1,2]⟩
def t_k107 : SC :=
 (.ops false qxv)
theorem it_k107 : FnIs Tryz.prog 107 7 [] t_k107 := ⟨Tryz.f107, _, Tryz.func107, rfl, rfl, rfl, rfl, by kernel_rfl⟩

def z5t : List SOp := [zO 3 (.box 117 (.tmp 1)),zO 4 (.assign (.const (.slice none 0 0))),zO 5 (.assign (.const (.bool false)))]
instance : Live z5t := ⟨[0,1]⟩
def z5s : List SOp := [zO 6 (.alloc 27)]
instance : Live z5s := ⟨[0,3]⟩
def z5r : List SOp := [zM 8 0,zO 9 (.makeFunc (.func 111) #[] #[.tmp 3,.tmp 6]),zO 10 (.call ⟨.value (.func 102),#[.tmp 8,.tmp 9],#[28,141]⟩),zG 7 10]
instance : Live z5r := ⟨[0,3,6]⟩
def qn7 : List SOp := [zL 11 27 6,zM 12 7,zO 13 (.binOp .eql 35 (.tmp 12) (.const (.int .i64 0)) 35),zG 4 11,zG 5 13]
instance : Live qn7 := ⟨[6,7]⟩
def t_k65 : SC :=
 (.seq (.ops false z5t) (.seq (.ops false z5s) (.seq (.ops false z5r) (.seq (.ops false qn7) .ret))))
theorem it_k65 : FnIs Tryz.prog 65 14 [.tmp 4, .tmp 5] t_k65 := ⟨Tryz.f65, _, Tryz.func65, rfl, rfl, rfl, rfl, by kernel_rfl⟩

def qxf : List SOp := [zL 4 117 1,zM 5 0,zO 6 (.call ⟨.value (.tmp 4),#[.tmp 5],#[140]⟩),⟨none,.store 27 (.tmp 2) (.tmp 6),none⟩]
instance : Live qxf := ⟨[0,1,2]⟩
def t_k111 : SC :=
 (.ops false qxf)
theorem it_k111 : FnIs Tryz.prog 111 7 [] t_k111 := ⟨Tryz.f111, _, Tryz.func111, rfl, rfl, rfl, rfl, by kernel_rfl⟩

def rdE {α : Type} : Rs α → Nat
 | .ok _ => 0
 | .error (e, _) => e
def rdA {α : Type} : Rs α → Nat
 | .ok (_, a) => a
 | .error (_, a) => a
def rdO {α : Type} (r : Rs α) (o : List AVal) (f : α → List AVal) : List AVal :=
 match r with
 | .ok (x, _) => f x
 | .error _ => o
def z2z {α : Type} : Rs α → Out
 | .ok _ => .ret (.tup [])
 | .error _ => .pan gup
theorem z31 {b : Bs} {a e : Nat} {g o : List AVal} : ∀ p ∈ rdM b a e g o, p.1 < q5r := fun p hp => by
 simp only [rdM, List.mem_cons, List.not_mem_nil, or_false] at hp
 rcases hp with rfl | rfl | rfl <;> simp [q5r]
theorem z30 {b : Bs} {a e : Nat} {g o : List AVal} (hg : g.all q0n = true) (ho : o.all q0n = true) : ∀ p ∈ rdM b a e g o, ∀ x ∈ p.2, q0n x = true := fun p hp x hx => by
 simp only [rdM, List.mem_cons, List.not_mem_nil, or_false] at hp
 rcases hp with rfl | rfl | rfl
 ·exact List.all_eq_true.1 (q2j b a e) x hx
 ·exact List.all_eq_true.1 hg x hx
 ·exact List.all_eq_true.1 ho x hx
theorem q9e {b : Bs} {a e a0 e0 : Nat} {g o g0 o0 : List AVal} {β : Nat → Nat} {s : AS} (h0 : s.M 900000 = some (.cells (rdC b a e))) (h1 : s.M 900001 = some (.cells g)) (h2 : s.M 900002 = some (.cells o))
 (n0 : s.M 1900000 = some (.note (.ptr 900000 0) (q3u (β 900000)))) (n1 : s.M 1900001 = some (.note (.ptr 900001 0) (q3u (β 900001)))) (n2 : s.M 1900002 = some (.note (.ptr 900002 0) (q3u (β 900002)))) : FinM (rdM b a0 e0 g0 o0) (rdM b a e g o) β s := by
 refine ⟨fun p hp => ?_, fun p hp => ?_⟩
 ·simp only [rdM, List.mem_cons, List.not_mem_nil, or_false] at hp
  rcases hp with rfl | rfl | rfl <;> assumption
 ·simp only [rdM, List.mem_cons, List.not_mem_nil, or_false] at hp
  rcases hp with rfl | rfl | rfl
  ·exact ⟨_, n0⟩
  ·exact ⟨_, n1⟩
  ·exact ⟨_, n2⟩
theorem qn3 {b : Bs} {a e : Nat} {g o : List AVal} {β : Nat → Nat} : lnt (rdM b a e g o) β = [(900000, .cells (rdC b a e)), (1900000, .note (.ptr 900000 0) (q3u (β 900000))), (900001, .cells g), (1900001, .note (.ptr 900001 0) (q3u (β 900001))), (900002, .cells o), (1900002, .note (.ptr 900002 0) (q3u (β 900002)))] := by
 simp only [lnt, rdM, q5r, List.flatMap_cons, List.flatMap_nil, List.cons_append, List.nil_append, List.append_nil, Nat.reduceAdd]
def z0s (p : Pst) : List AVal := [.sl 1 (q04 p.vec), .sl 3 (q0j p.cloud)]
theorem qfi (p : Pst) : (z0s p).all q0n = true := by simp [z0s, q0n, AVal.stb, q02, q03]
def qo5 (l : List Ent) : List AVal := [.sl 4 (q0l l)]
def qn1 (l : List Rec) : List AVal := [.sl 3 (q1j l)]
theorem qo7 (b : Bs) (hb : b.length ≤ 900000000000) : EvM (En Tryz.prog rfl).P 103 [.ptr 900000 0, .ptr 900001 0, .ptr 900002 0] (rdM b 0 0 [.fn 60 []] [.nil, .nil]) (z2z (q1r b 0)) (rdM b (rdA (q1r b 0)) (rdE (q1r b 0)) [.fn 60 []] (rdO (q1r b 0) [.nil, .nil] z0s)) := by
 have he := qe8 b 0 hb (Nat.zero_le _)
 refine EvM.of_body it_k103 (by simp) (fun k => by rw [q42, q42]) z31 (z30 rfl ?_) fun β => ?_
 ·cases q1r b 0 with
  | ok q => exact qfi _
  | error q => rfl
 rw [qn3]
 refine Run.start ?_
 unfold t_k103
 (focus (have hF := @q06; (repeat' (first | refine go1 (k:=?_) | with_reducible refine Ny.of ?_ ?_ | (refine Hyp.of ?_; intro hc; (try simp only [hc]); (try simp only [Bh] at hc)))); all_goals clear hF))
 cases hr : q1r b 0 with
 | ok q =>
  obtain ⟨x, a⟩ := q
  rw [hr] at he
  refine q50 900000 900000 (f := 60) (by with_unfolding_all rfl) (by with_unfolding_all rfl) (by with_unfolding_all rfl) (by with_unfolding_all rfl) (by with_unfolding_all rfl) (q2j b 0 0) (q2j b a 0) he.1 he.2 ?_
  dsimp only [AS.put]
  (focus (have hF := (aI @q06 @zdf); (repeat' (first | refine go1 (k:=?_) | with_reducible refine Ny.of ?_ ?_ | (refine Hyp.of ?_; intro hc; (try simp only [hc]); (try simp only [Bh] at hc)))); all_goals clear hF))
  exact ⟨[], rfl, rfl, ⟨[], trivial, rfl⟩, q9e rfl rfl rfl rfl rfl rfl⟩
 | error q =>
  obtain ⟨e, a⟩ := q
  rw [hr] at he
  exact q94 900000 900000 (f := 60) (by with_unfolding_all rfl) (by with_unfolding_all rfl) (by with_unfolding_all rfl) (by with_unfolding_all rfl) (by with_unfolding_all rfl) (q2j b 0 0) (q2j b a e) (v := gup) rfl he ⟨by show (AVal.iface _ _).kin _ = true; simp only [AVal.kin, qa5, q42]; rfl, rfl, q9e rfl rfl rfl rfl rfl rfl⟩
theorem qls (b : Bs) (hb : b.length ≤ 900000000000) : EvM (En Tryz.prog rfl).P 107 [.ptr 900000 0, .ptr 900001 0, .ptr 900002 0] (rdM b 0 0 [.fn 62 []] [.nil]) (z2z (q0c b 0)) (rdM b (rdA (q0c b 0)) (rdE (q0c b 0)) [.fn 62 []] (rdO (q0c b 0) [.nil] qo5)) := by
 have he := qg4 b 0 hb (Nat.zero_le _)
 refine EvM.of_body it_k107 (by simp) (fun k => by rw [q42, q42]) z31 (z30 rfl ?_) fun β => ?_
 ·cases q0c b 0 with
  | ok q => exact by simp [rdO, qo5, q0n, AVal.stb, q0d]
  | error q => rfl
 rw [qn3]
 refine Run.start ?_
 unfold t_k107
 (focus (have hF := @q06; (repeat' (first | refine go1 (k:=?_) | with_reducible refine Ny.of ?_ ?_ | (refine Hyp.of ?_; intro hc; (try simp only [hc]); (try simp only [Bh] at hc)))); all_goals clear hF))
 cases hr : q0c b 0 with
 | ok q =>
  obtain ⟨x, a⟩ := q
  rw [hr] at he
  refine q50 900000 900000 (f := 62) (by with_unfolding_all rfl) (by with_unfolding_all rfl) (by with_unfolding_all rfl) (by with_unfolding_all rfl) (by with_unfolding_all rfl) (q2j b 0 0) (q2j b a 0) he.1 he.2 ?_
  dsimp only [AS.put]
  (focus (have hF := @q06; (repeat' (first | refine go1 (k:=?_) | with_reducible refine Ny.of ?_ ?_ | (refine Hyp.of ?_; intro hc; (try simp only [hc]); (try simp only [Bh] at hc)))); all_goals clear hF))
  exact ⟨[], rfl, rfl, ⟨[], trivial, rfl⟩, q9e rfl rfl rfl rfl rfl rfl⟩
 | error q =>
  obtain ⟨e, a⟩ := q
  rw [hr] at he
  exact q94 900000 900000 (f := 62) (by with_unfolding_all rfl) (by with_unfolding_all rfl) (by with_unfolding_all rfl) (by with_unfolding_all rfl) (by with_unfolding_all rfl) (q2j b 0 0) (q2j b a e) (v := gup) rfl he ⟨by show (AVal.iface _ _).kin _ = true; simp only [AVal.kin, qa5, q42]; rfl, rfl, q9e rfl rfl rfl rfl rfl rfl⟩
theorem qg7 (b : Bs) (hb : b.length ≤ 900000000000) : EvM (En Tryz.prog rfl).P 111 [.ptr 900000 0, .ptr 900001 0, .ptr 900002 0] (rdM b 0 0 [.fn 66 []] [.nil]) (z2z (q08 b 0)) (rdM b (rdA (q08 b 0)) (rdE (q08 b 0)) [.fn 66 []] (rdO (q08 b 0) [.nil] qn1)) := by
 have he := qg3 b 0 hb (Nat.zero_le _)
 refine EvM.of_body it_k111 (by simp) (fun k => by rw [q42, q42]) z31 (z30 rfl ?_) fun β => ?_
 ·cases q08 b 0 with
  | ok q => exact by simp [rdO, qn1, q0n, AVal.stb, q0f]
  | error q => rfl
 rw [qn3]
 refine Run.start ?_
 unfold t_k111
 (focus (have hF := @q06; (repeat' (first | refine go1 (k:=?_) | with_reducible refine Ny.of ?_ ?_ | (refine Hyp.of ?_; intro hc; (try simp only [hc]); (try simp only [Bh] at hc)))); all_goals clear hF))
 cases hr : q08 b 0 with
 | ok q =>
  obtain ⟨x, a⟩ := q
  rw [hr] at he
  refine q50 900000 900000 (f := 66) (by with_unfolding_all rfl) (by with_unfolding_all rfl) (by with_unfolding_all rfl) (by with_unfolding_all rfl) (by with_unfolding_all rfl) (q2j b 0 0) (q2j b a 0) he.1 he.2 ?_
  dsimp only [AS.put]
  (focus (have hF := @q06; (repeat' (first | refine go1 (k:=?_) | with_reducible refine Ny.of ?_ ?_ | (refine Hyp.of ?_; intro hc; (try simp only [hc]); (try simp only [Bh] at hc)))); all_goals clear hF))
  exact ⟨[], rfl, rfl, ⟨[], trivial, rfl⟩, q9e rfl rfl rfl rfl rfl rfl⟩
 | error q =>
  obtain ⟨e, a⟩ := q
  rw [hr] at he
  exact q94 900000 900000 (f := 66) (by with_unfolding_all rfl) (by with_unfolding_all rfl) (by with_unfolding_all rfl) (by with_unfolding_all rfl) (by with_unfolding_all rfl) (q2j b 0 0) (q2j b a e) (v := gup) rfl he ⟨by show (AVal.iface _ _).kin _ = true; simp only [AVal.kin, qa5, q42]; rfl, rfl, q9e rfl rfl rfl rfl rfl rfl⟩

theorem Wk.cells_nil {n : Nat} {T : q19} {M : Mem} {k : Nat} {cs ds : List AVal} (hk : M k = some (.cells cs)) (h : qhf cs ds) : Wk n ⟨T, M⟩ ⟨T, upd M k (some (.cells ds))⟩ := by
 intro B G a w hR
 obtain ⟨c, el, b1, b2, b3, b4, b5⟩ := hR.mem k _ hk
 have hD : ∀ j e, Dm M j e → Dm (upd M k (some (.cells ds))) j e := fun j e => q3b (by rw [hk]; trivial)
 have hw : ∀ b, b < w.heap.size → ¬ B b → G.ow b = none → w.heap[b]? = w.heap[b]? ∧ ¬ B b ∧ G.ow b = none := fun b _ hn ho => ⟨rfl, hn, ho⟩
 refine ⟨G, hR.update (.refl G w) k (.cells ds) (by show qml (M k) _; rw [hk]; trivial) (fun _ _ _ => ⟨rfl, rfl⟩) (fun b key _ _ ho _ => ⟨rfl, ho⟩) (fun b hb => hR.ol b hb) ?_, .refl G w⟩
 refine ⟨c, el, b1, b2, b3, by rw [b4, qap h], fun i y hy => ?_⟩
 obtain ⟨x, hx, hs⟩ := qaq h hy
 obtain ⟨u, hu, hr⟩ := b5 i x hx
 refine ⟨u, hu, ?_⟩
 rcases hs with rfl | ⟨rfl, sz, rfl⟩
 ·cases x with
  | own sz' xs' => exact OwnAt.mono hD (fun _ _ _ => ⟨rfl, rfl⟩) hw (fun b _ hb2 hb3 => ⟨rfl, hb2, hb3⟩) hr
  | hole => trivial
  | _ => exact VR.mono hD (fun _ _ _ => ⟨rfl, rfl⟩) hw hr
 ·have hr : VR (Dm M) G B w .nil u := hr
  cases hr
  exact .slnil sz
theorem sub2 : qhf [.nil, .nil] [.sl 1 [], .sl 3 []] := ⟨.inr ⟨rfl, 1, rfl⟩, .inr ⟨rfl, 3, rfl⟩, trivial⟩
def WkQ (n : Nat) (Q : Ex → AS → Prop) : Ex → AS → Prop
 | .pan x, s => Q (.pan x) s
 | e, s => ∃ s2, Wk n s s2 ∧ Q e s2
theorem AW.wkEnd {E : Env} {n : Nat} {Q : Ex → AS → Prop} {s : AS} {x : SC} (h : AW E n x (WkQ n Q) s) : AW E n x Q s := fun c hc B G a w hR Q' hP =>
 h c hc B G a w hR Q' fun e s1 a' w' G' hA hR' hq => by
  cases e with
  | pan x => exact hP (.pan x) s1 a' w' G' hA hR' hq
  | normal => obtain ⟨s2, hw, hq2⟩ := hq; obtain ⟨G2, h2, a2⟩ := hw B G' a' w' hR'; exact hP .normal s2 a' w' G2 (hA.trans a2) h2 hq2
  | ret => obtain ⟨s2, hw, hq2⟩ := hq; obtain ⟨G2, h2, a2⟩ := hw B G' a' w' hR'; exact hP .ret s2 a' w' G2 (hA.trans a2) h2 hq2
  | exit id => obtain ⟨s2, hw, hq2⟩ := hq; obtain ⟨G2, h2, a2⟩ := hw B G' a' w' hR'; exact hP (.exit id) s2 a' w' G2 (hA.trans a2) h2 hq2

def odd (n : Nat) : Bool := decide (n % 2 = 1)
theorem odd_iff (n : Nat) : odd n = true ↔ n % 2 = 1 := by simp [odd]
theorem odd_succ (n : Nat) : odd (n + 1) = !odd n := by
 unfold odd
 rcases Nat.mod_two_eq_zero_or_one n with h | h
 ·have : (n + 1) % 2 = 1 := by omega
  simp [h, this]
 ·have : (n + 1) % 2 = 0 := by omega
  simp [h, this]
structure CbI (a b : List Int) (f : Bool → Bool → Bool) (i j : Nat) (v : Bool) (t : List Int) : Prop where
 hi : i ≤ a.length
 hj : j ≤ b.length
 sa : ∀ x ∈ t, ∀ y ∈ a.drop i, x < y
 sb : ∀ x ∈ t, ∀ y ∈ b.drop j, x < y
 ab : ∀ x ∈ a.take i, ∀ y ∈ b.drop j, x < y
 ba : ∀ x ∈ b.take j, ∀ y ∈ a.drop i, x < y
 rise : t.Pairwise (fun x y => x < y)
 val : v = f (odd i) (odd j)
 len : odd t.length = v
 le : t.length ≤ i + j
 mem : ∀ m, odd (cnt t m) = f (odd (cnt (a.take i) m)) (odd (cnt (b.take j) m))
theorem CbI.start {a b : List Int} {f : Bool → Bool → Bool} (hf : f false false = false) : CbI a b f 0 0 false [] := by
 refine ⟨Nat.zero_le _, Nat.zero_le _, by simp, by simp, by simp, by simp, .nil, by simp [odd, hf], rfl, Nat.le_refl _, fun m => ?_⟩
 simp [q5v, odd, hf]
theorem CbI.step {a b : List Int} {f : Bool → Bool → Bool} (hra : a.Pairwise (fun x y => x < y)) (hrb : b.Pairwise (fun x y => x < y)) {i j : Nat} {v : Bool} {t : List Int} (h : CbI a b f i j v t) {x : Int} {i' j' : Nat}
 (ha : (i' = i + 1 ∧ a[i]? = some x) ∨ (i' = i ∧ ∀ y ∈ a.drop i, x < y)) (hb : (j' = j + 1 ∧ b[j]? = some x) ∨ (j' = j ∧ ∀ y ∈ b.drop j, x < y)) (hx : i' = i + 1 ∨ j' = j + 1) :
 CbI a b f i' j' (f (odd i') (odd j')) (if f (odd i') (odd j') = v then t else t ++ [x]) := by
 have key : ∀ (l : List Int) (k k' : Nat), l.Pairwise (fun x y => x < y) → k ≤ l.length → ((k' = k + 1 ∧ l[k]? = some x) ∨ (k' = k ∧ ∀ y ∈ l.drop k, x < y)) →
  k' ≤ l.length ∧ (∀ y ∈ l.drop k', x < y) ∧ (∀ y ∈ l.take k', y ∈ l.take k ∨ y = x) ∧ (∀ y ∈ l.drop k', y ∈ l.drop k) ∧ (∀ m, m < x → cnt (l.take k') m = cnt (l.take k) m) ∧ (l.take k').length = k' := by
  intro l k k' hr hk hc
  rcases hc with ⟨rfl, hg⟩ | ⟨rfl, hg⟩
  ·obtain ⟨hlt, he⟩ := List.getElem?_eq_some_iff.1 hg
   have hd : l.drop k = x :: l.drop (k + 1) := by rw [List.drop_eq_getElem_cons hlt, he]
   have ht : l.take (k + 1) = l.take k ++ [x] := by rw [List.take_add_one, hg]; rfl
   have hp : (x :: l.drop (k + 1)).Pairwise (fun x y => x < y) := by rw [← hd]; exact hr.drop
   refine ⟨hlt, fun y hy => (List.pairwise_cons.1 hp).1 y hy, fun y hy => ?_, fun y hy => by rw [hd]; exact List.mem_cons_of_mem _ hy, fun m hm => ?_, by rw [List.length_take]; omega⟩
   ·rw [ht] at hy
    simpa using hy
   ·rw [ht, q77, q1v, if_neg (by omega), q5v]; rfl
  ·exact ⟨hk, hg, fun y hy => .inl hy, fun y hy => hy, fun _ _ => rfl, by rw [List.length_take]; omega⟩
 obtain ⟨a1, a2, a3, a4, a5, a6⟩ := key a i i' hra h.hi ha
 obtain ⟨b1, b2, b3, b4, b5, b6⟩ := key b j j' hrb h.hj hb
 have hxin : (x ∈ a.drop i) ∨ (x ∈ b.drop j) := by
  rcases hx with e | e
  ·rcases ha with ⟨_, hg⟩ | ⟨e2, _⟩
   ·obtain ⟨hlt, he⟩ := List.getElem?_eq_some_iff.1 hg
    exact .inl (by rw [List.drop_eq_getElem_cons hlt, he]; exact List.mem_cons_self)
   ·omega
  ·rcases hb with ⟨_, hg⟩ | ⟨e2, _⟩
   ·obtain ⟨hlt, he⟩ := List.getElem?_eq_some_iff.1 hg
    exact .inr (by rw [List.drop_eq_getElem_cons hlt, he]; exact List.mem_cons_self)
   ·omega
 have tx : ∀ y ∈ t, y < x := fun y hy => by
  rcases hxin with e | e
  ·exact h.sa y hy x e
  ·exact h.sb y hy x e
 have ax : ∀ y ∈ a.take i, y < x := fun y hy => by
  rcases hxin with e | e
  ·have h1 := hra
   rw [← List.take_append_drop i a, List.pairwise_append] at h1
   exact h1.2.2 y hy x e
  ·exact h.ab y hy x e
 have bx : ∀ y ∈ b.take j, y < x := fun y hy => by
  rcases hxin with e | e
  ·exact h.ba y hy x e
  ·have h1 := hrb
   rw [← List.take_append_drop j b, List.pairwise_append] at h1
   exact h1.2.2 y hy x e
 have ax' : ∀ y ∈ a.take i', y ≤ x := fun y hy => by
  rcases a3 y hy with e | e
  ·have := ax y e; omega
  ·omega
 have bx' : ∀ y ∈ b.take j', y ≤ x := fun y hy => by
  rcases b3 y hy with e | e
  ·have := bx y e; omega
  ·omega
 have tx' : ∀ y ∈ (if f (odd i') (odd j') = v then t else t ++ [x]), y ≤ x := fun y hy => by
  split at hy
  ·have := tx y hy; omega
  ·rcases List.mem_append.1 hy with e | e
   ·have := tx y e; omega
   ·simp at e; omega
 have hlen : odd (if f (odd i') (odd j') = v then t else t ++ [x]).length = f (odd i') (odd j') := by
  by_cases e : f (odd i') (odd j') = v
  ·rw [if_pos e, h.len, e]
  ·rw [if_neg e, List.length_append]
   show odd (t.length + 1) = _
   rw [odd_succ, h.len]
   revert e
   cases v <;> cases f (odd i') (odd j') <;> simp
 refine ⟨a1, b1, fun y hy z hz => ?_, fun y hy z hz => ?_, fun y hy z hz => ?_, fun y hy z hz => ?_, ?_, rfl, hlen, ?_, fun m => ?_⟩
 ·have := tx' y hy; have := a2 z hz; omega
 ·have := tx' y hy; have := b2 z hz; omega
 ·have := ax' y hy; have := b2 z hz; omega
 ·have := bx' y hy; have := a2 z hz; omega
 ·split
  ·exact h.rise
  ·exact qbw h.rise tx
 ·have h1 := h.le
  have h2 : i + j + 1 ≤ i' + j' := by omega
  split
  ·omega
  ·simp only [List.length_append, List.length_cons, List.length_nil]; omega
 ·rcases Int.lt_or_le m x with hm | hm
  ·rw [a5 m hm, b5 m hm, ← h.mem m]
   congr 1
   split
   ·rfl
   ·rw [q77, q1v, if_neg (by omega), q5v]; rfl
  ·rw [qcw (fun y hy => Int.le_trans (ax' y hy) hm), qcw (fun y hy => Int.le_trans (bx' y hy) hm), qcw (fun y hy => Int.le_trans (tx' y hy) hm), a6, b6, hlen]
theorem CbI.done {a b : List Int} {f : Bool → Bool → Bool} {v : Bool} {t : List Int} (h : CbI a b f a.length b.length v t) (hf : f false false = false) {p q : Int → Prop} (ha : Turns p a) (hb : Turns q b) (r : Int → Prop)
 (hr : ∀ m, r m ↔ f (odd (cnt a m)) (odd (cnt b m)) = true) : Turns r t := by
 refine ⟨h.rise, ?_, fun m => ?_⟩
 ·have h1 := h.val
  have e1 : odd a.length = false := by have := ha.even; simp [odd]; omega
  have e2 : odd b.length = false := by have := hb.even; simp [odd]; omega
  rw [e1, e2, hf] at h1
  have := h.len
  rw [h1] at this
  simp [odd] at this
  omega
 ·rw [hr, ← odd_iff, h.mem m, List.take_length, List.take_length]

structure CbS where
 i : Nat
 j : Nat
 v : Bool
 t : List Int

def z96 : List SOp := [zO 1 (.box 88 (.tmp 0)),zO 2 (.alloc 25)]
instance : Live z96 := ⟨[0]⟩
def z95 : List SOp := [zO 3 (.alloc 25)]
instance : Live z95 := ⟨[1,2]⟩
def z94 : List SOp := [zO 8 (.makeSlice 22 (.const (.int .i64 16)) (.const (.int .i64 16))),zG 4 8]
instance : Live z94 := ⟨[1,2,3]⟩
def z93 : List SOp := [zO 5 (.assign (.const (.int .i64 0)))]
instance : Live z93 := ⟨[1,2,3,4]⟩
def z92 : List SOp := [zO 6 (.assign (.const (.int .i64 0)))]
instance : Live z92 := ⟨[1,2,3,4,5]⟩
def z91 : List SOp := [zM 9 6,zO 10 (.binOp .lss 3 (.tmp 9) (.const (.int .i64 16)) 3)]
instance : Live z91 := ⟨[1,2,3,4,5,6]⟩
def z90 : List SOp := [zO 7 (.assign (.const (.int .i64 0)))]
instance : Live z90 := ⟨[1,2,3,4,5,6]⟩
def z8z : List SOp := [zM 13 7,zO 14 (.binOp .add 3 (.tmp 13) (.const (.int .i64 1)) 3),zM 15 6,zF 16 88 1 0,zI 17 86 16 15,zL 18 22 17,zO 19 (.call ⟨.builtin .len,#[.tmp 18],#[22]⟩),zO 20 (.binOp .lss 3 (.tmp 14) (.tmp 19) 3)]
instance : Live z8z := ⟨[1,2,3,4,5,6,7]⟩
def z8y : List SOp := [zM 23 6,zF 24 88 1 0,zI 25 86 24 23,zL 26 22 25,zM 27 7,zI 28 22 26 27,zL 29 3 28,zO 30 (.binOp .eql 3 (.tmp 29) (.const (.int .i64 1)) 3)]
instance : Live z8y := ⟨[1,2,3,4,5,6,7]⟩
def qr0 : List SOp := [zM 31 4,zM 32 6,zM 33 6,zF 34 88 1 0,zI 35 86 34 33,zL 36 22 35,zM 37 7,zO 38 (.binOp .add 3 (.tmp 37) (.const (.int .i64 1)) 3),zI 39 22 36 38,zL 40 3 39,zO 41 (.binOp .sub 3 (.tmp 40) (.const (.int .i64 1)) 3),zI 42 22 31 32,⟨none,.store 3 (.tmp 42) (.tmp 41),none⟩]
instance : Live qr0 := ⟨[1,2,3,4,6,7]⟩
def qqz : List SOp := [zM 43 6,zO 44 (.binOp .add 3 (.tmp 43) (.const (.int .i64 1)) 3),zG 5 44]
instance : Live qqz := ⟨[1,2,3,4,6,7]⟩
def qfa : List SOp := [zF 45 25 3 1,zL 46 23 45,zM 47 6,zM 48 6,zF 49 88 1 0,zI 50 86 49 48,zL 51 22 50,zM 52 7,zI 53 22 51 52,zL 54 3 53,zM 55 6,zF 56 88 1 0,zI 57 86 56 55,zL 58 22 57,zM 59 7,zO 60 (.binOp .add 3 (.tmp 59) (.const (.int .i64 1)) 3),zI 61 22 58 60,zL 62 3 61,zO 63 (.binOp .sub 3 (.tmp 62) (.const (.int .i64 1)) 3),zO 64 (.build 82 #[(0,.tmp 47),(1,.tmp 54),(2,.tmp 63)]),zO 65 (.buildSlice 23 1 #[(0,.tmp 64)]),zO 66 (.call ⟨.builtin .append,#[.tmp 46,.tmp 65],#[23,23]⟩),zF 67 25 3 1,⟨none,.store 23 (.tmp 67) (.tmp 66),none⟩]
instance : Live qfa := ⟨[1,2,3,4,5,6,7]⟩
instance : Rd qfa := ⟨fun j => j == 1⟩
def qqy : List SOp := [zM 21 7,zO 22 (.binOp .add 3 (.tmp 21) (.const (.int .i64 2)) 3),zG 7 22]
instance : Live qqy := ⟨[1,2,3,4,5,6,7]⟩
def qqx : List SOp := [zM 11 6,zO 12 (.binOp .add 3 (.tmp 11) (.const (.int .i64 1)) 3),zG 6 12]
instance : Live qqx := ⟨[1,2,3,4,5,6]⟩
def qqw : List SOp := [zM 68 4,zM 69 5,zO 70 (.slice 22 (.tmp 68) none (some (.tmp 69)) none),zF 71 25 3 0,⟨none,.store 22 (.tmp 71) (.tmp 70),none⟩]
instance : Live qqw := ⟨[2,3,4,5]⟩
def qqv : List SOp := [zL 72 25 3,⟨none,.store 25 (.tmp 2) (.tmp 72),none⟩]
instance : Live qqv := ⟨[2,3]⟩
def qpa : SC :=
 (.seq (.seq (.ops false z8z) (.cond (.tmp 20) .skip (.exit 2))) (.seq (.block 3 (.seq (.ops false z8y) (.cond (.tmp 30) (.seq (.ops false qr0) (.ops false qqz)) (.opsW [46] qfa)))) (.ops false qqy)))
def qpb : SC :=
 (.seq (.seq (.ops false z91) (.cond (.tmp 10) .skip (.exit 0))) (.seq (.block 1 (.seq (.ops false z90) (.block 2 (.loop qpa)))) (.ops false qqx)))
def t_k43 : SC :=
 (.seq (.ops false z96) (.seq (.ops false z95) (.seq (.ops false z94) (.seq (.ops false z93) (.seq (.seq (.ops false z92) (.block 0 (.loop qpb))) (.seq (.ops false qqw) (.seq (.ops false qqv) .ret)))))))
theorem it_k43 : FnIs Tryz.prog 43 73 [.cell 2 25] t_k43 := ⟨Tryz.f43, _, Tryz.func43, rfl, rfl, rfl, rfl, by kernel_rfl⟩

def qmf (t : Tab) (r c : Nat) : List Sn := q11 t r ++ ((q1h ((q16 (t.getD r [])).take c)).2).map (q3e r)
theorem z2s (t : Tab) (r : Nat) : qmf t r 0 = q11 t r := by simp [qmf, q1h]
theorem rowF_all (t : Tab) (r : Nat) : qmf t r (q16 (t.getD r [])).length = q11 t (r + 1) := by
 unfold qmf
 rw [q4r, List.take_length]
 rfl
theorem z0l {t : Tab} {r : Nat} {x : Rn} (hx : (q16 (t.getD r []))[0]? = some x) (h : x.1 = 1) : qmf t r 1 = qmf t r 0 := by
 unfold qmf
 rw [List.take_add_one, hx]
 simp [q1h, h]
theorem z2t {t : Tab} {r c : Nat} {x : Rn} (hx : (q16 (t.getD r []))[c]? = some x) (h : x.1 ≠ 1) : qmf t r (c + 1) = qmf t r c ++ [((r : Int), x.1, x.2)] := by
 unfold qmf
 rw [List.take_add_one, hx, List.append_assoc]
 congr 1
 cases c with
 | zero => simp [q1h, h, q3e]
 | succ c =>
  cases hm : q16 (t.getD r []) with
  | nil => rw [hm] at hx; simp at hx
  | cons y l =>
   rw [hm] at hx
   simp only [List.take_succ_cons, List.cons_append, q1h]
   simp only [Option.toList]
   split <;> simp [q3e]
theorem rowF_len (t : Tab) (r c : Nat) : (qmf t r c).length ≤ (q11 t r).length + (q16 (t.getD r [])).length := by
 have h1 := q9k ((q16 (t.getD r [])).take c)
 unfold qmf
 rw [List.length_append, List.length_map]
 rw [List.length_take] at h1
 omega
theorem qoq {m : List Rn} {c : Nat} {x : Rn} (h : m[c]? = some x) : (q32 m)[2 * c]? = some x.1 ∧ (q32 m)[2 * c + 1]? = some (x.2 + 1) := by
 induction m generalizing c with
 | nil => simp at h
 | cons y m ih =>
  rw [q4k]
  cases c with
  | zero => simp at h; subst h; exact ⟨rfl, rfl⟩
  | succ c =>
   have := ih (c := c) (by simpa using h)
   exact ⟨by simpa [Nat.mul_add] using this.1, by simpa [Nat.mul_add] using this.2⟩
theorem zdx {m : List Rn} (h : Can m) {c : Nat} {x : Rn} (hx : m[c + 1]? = some x) : x.1 ≠ 1 := by
 cases m with
 | nil => simp at hx
 | cons y m =>
  have hy := (Can.cons_iff.1 h)
  have hm : x ∈ m := List.mem_of_getElem? (by simpa using hx)
  have h1 := hy.2.1 x hm
  have h2 := hy.1
  unfold qmy at h1
  unfold okR at h2
  omega
theorem z26 {t : Tab} {r : Nat} (hr : r < 16) (h : q3c t r = 0) : qa0 t (r + 1) = qa0 t r := by
 unfold qa0
 rw [qcd, h, List.append_assoc, show 16 - r = (16 - (r + 1)) + 1 by omega, List.replicate_succ]
 rfl
def szF (t : Tab) (r : Nat) : Nat → Nat
 | 0 => q22 t r
 | _ + 1 => q22 t (r + 1)
def vcF (t : Tab) (r : Nat) : Nat → List Int
 | 0 => qa0 t r
 | _ + 1 => qa0 t (r + 1)
theorem ev_k43 (t : Tab) {n : Nat} (ht : TabLe t n) (hn : n ≤ 50000000) : Ev (En Tryz.prog rfl).P 43 [.agg (q15 (t.map q1f))] (.ret (q17 (q52 t))) := by
 refine Ev.of_body it_k43 (by simp) (Run.start ?_)
 unfold t_k43
 have h16 : (q15 (t.map q1f)).length = 16 := by simp [q15, ht.1]
 have hone := q75 (t.map q1f)
 have hst := q4h (t.map q1f)
 (focus (have hF := (aI @h16 @hone); (repeat' (first | refine go1 (k:=?_) | with_reducible refine Ny.of ?_ ?_ | (refine Hyp.of ?_; intro hc; (try simp only [hc]); (try simp only [Bh] at hc)))); all_goals clear hF))
 refine Run.wk (Wk.own_cells (k := 3) (cs' := [.nil, .own 3 []]) rfl rfl ?_) ?_
 ·intro i x y hx hy
  match i with
  | 0 => simp at hx hy; subst hx; subst hy; exact .inl rfl
  | 1 => simp at hx hy; subst hx; subst hy; exact .inr ⟨rfl, 3, rfl⟩
  | i + 2 => simp at hx
 refine Run.while (σ := Nat) (fun r => ⟨tms [(1, .ptr 1 0), (2, .ptr 2 0), (3, .ptr 3 0), (4, .os 8 0), (5, .int .i64 (q22 t r)), (6, .int .i64 r)], mms [(1, .cells (q15 (t.map q1f))), (2, .cells [.nil, .nil]), (3, .cells [.nil, .own 3 (q0j (q11 t r))]), (8, .arr 0 1 (q04 (qa0 t r)))]⟩)
  (fun r => r ≤ 16) (fun r => 16 - r) 0 (have hW := @hst; q0z) (Nat.zero_le _) ?_
 intro r hr
 have g0 : (q04 (qa0 t r)).length = 16 := by rw [q0h, qan t hr]
 have hsz := q6w t r
 unfold qpb
 by_cases hlt : r < 16
 ·have hrt : r < t.length := by rw [ht.1]; exact hlt
  have hq := ht.2 r
  have g1 : (q15 (t.map q1f))[r]? = some (.sl 1 (q04 (q32 (q16 (t.getD r []))))) := by
   rw [qeb (by rw [List.length_map]; exact hrt)]
   simp [List.getD_eq_getElem?_getD, hrt, q1f]
  have hml := q4n (t.getD r [])
  have hcan := q2f (t.getD r [])
  have hcl := q9t ht r
  have hcl2 : r * n ≤ 16 * n := Nat.mul_le_mul_right n hr
  have f1 := z2s t r
  have f2 := rowF_all t r
  have f3 := fun c x => @z2t t r c x
  have f4 := fun x => @z0l t r x
  have f5 := rowF_len t r
  have hlead : q3c t r = (q1h (q16 (t.getD r []))).1 := rfl
  have hs1 := q4e t r
  have hv1 := qon t hlt
  have hv2 := qoo t hlt
  have hl0 := qe2 hcan
  generalize hmr : q16 (t.getD r []) = m at g1 hml hcan f2 f3 f4 f5 hlead hl0
  have g2 : (q04 (q32 m)).length = 2 * m.length := by rw [q0h, qdo]
  have hz0 : (q1h m).1 = 0 → q22 t (r + 1) = q22 t r ∧ qa0 t (r + 1) = qa0 t r := fun h => ⟨by rw [hs1, hlead, h]; rfl, z26 hlt (by rw [hlead, h])⟩
  (focus (have hF := (aI @h16 (aI @hone @g0)); (repeat' (first | refine go1 (k:=?_) | with_reducible refine Ny.of ?_ ?_ | (refine Hyp.of ?_; intro hc; (try simp only [hc]); (try simp only [Bh] at hc)))); all_goals clear hF))
  refine Run.while (σ := Nat) (fun c => ⟨tms [(1, .ptr 1 0), (2, .ptr 2 0), (3, .ptr 3 0), (4, .os 8 0), (5, .int .i64 (szF t r c)), (6, .int .i64 r), (7, .int .i64 (2 * c : Nat))], mms [(1, .cells (q15 (t.map q1f))), (2, .cells [.nil, .nil]), (3, .cells [.nil, .own 3 (q0j (qmf t r c))]), (8, .arr 0 1 (q04 (vcF t r c)))]⟩)
   (fun c => c ≤ m.length) (fun c => m.length - c) 0 (have hW := (aI @hst @f1); q0z) (Nat.zero_le _) ?_
  intro c hc
  have gv : (q04 (vcF t r c)).length = 16 := by
   rw [q0h]
   cases c with
   | zero => exact qan t hr
   | succ c => exact qan t hlt
  have hsz2 : szF t r c ≤ r + 1 := by
   cases c with
   | zero => show q22 t r ≤ _; omega
   | succ c => exact q6w t (r + 1)
  unfold qpa
  by_cases hcl3 : c < m.length
  ·obtain ⟨x, hx⟩ : ∃ x, m[c]? = some x := ⟨m[c], by simp [hcl3]⟩
   have ⟨k1, k2⟩ := qoq hx
   have k1' : (q04 (q32 m))[2 * c]? = some (.int .i64 x.1) := q0v k1
   have k2' : (q04 (q32 m))[2 * c + 1]? = some (.int .i64 (x.2 + 1)) := q0v k2
   have hxr := hcan.2 x (List.mem_of_getElem? hx)
   unfold okR at hxr
   have hfl := f5 c
   have e8 : ((2 * c : Nat) : Int) + 1 = ((2 * c + 1 : Nat) : Int) := by omega
   have e9 : ((2 * c : Nat) : Int) + 2 = ((2 * (c + 1) : Nat) : Int) := by omega
   have e7 : IntKind.i64.wrap (x.2 + 1 - 1) = x.2 := by rw [q0e (by omega)]; omega
   by_cases h1 : x.1 = 1
   ·have hc0 : c = 0 := by
     cases c with
     | zero => rfl
     | succ c => exact absurd h1 (zdx hcan hx)
    have h5 : q3c t r = x.2 := by
     subst hc0
     rw [hlead]
     cases m with
     | nil => simp at hx
     | cons y m => simp at hx; subst hx; rw [q72 h1]
    have h6 : qmf t r (c + 1) = qmf t r c := by subst hc0; exact f4 x hx h1
    have h8 : szF t r (c + 1) = r + 1 := by show q22 t (r + 1) = r + 1; rw [hs1, if_pos (by omega)]
    rw [h5] at hv1
    have h9 : (q04 (vcF t r c)).set r (.int .i64 x.2) = q04 (vcF t r (c + 1)) := by subst hc0; exact hv1
    have h10 : (q04 (vcF t r c))[r]? = some (.int .i64 0) := by subst hc0; exact hv2
    generalize szF t r c = sz at hsz2 ⊢
    (focus (have hF := (aI (aI (aI @h16 (aI @hone @gv)) (aI @g1 (aI @g2 @k1'))) (aI (aI @k2' (aI @h9 @h10)) (aI (aI @e7 @e8) (aI @e9 @h1)))); (repeat' (first | refine go1 (k:=?_) | with_reducible refine Ny.of ?_ ?_ | (refine Hyp.of ?_; intro hc; (try simp only [hc]); (try simp only [Bh] at hc)))); all_goals clear hF))
    (refine Fin.nextW (c + 1) ?_ (have hW := (aI (aI @hst @h6) (aI @h8 @h9)); q0z); (try dsimp only))
    omega
   ·have h6 := f3 c x hx h1
    have h8 : szF t r (c + 1) = szF t r c ∧ vcF t r (c + 1) = vcF t r c := by
     cases c with
     | zero =>
      refine hz0 ?_
      cases m with
      | nil => simp at hx
      | cons y m => simp at hx; subst hx; rw [q8m h1]
     | succ c => exact ⟨rfl, rfl⟩
    obtain ⟨h8, h9⟩ := h8
    generalize qmf t r c = cl at h6 hfl ⊢
    have k3 := q1i cl
    (focus (have hF := (aI (aI (aI @h16 (aI @hone @gv)) (aI @g1 (aI @g2 @k1'))) (aI (aI @k2' (aI @e7 @e8)) (aI @e9 (aI @k3 @q74)))); (repeat' (first | refine go1 (k:=?_) | with_reducible refine Ny.of ?_ ?_ | (refine Hyp.of ?_; intro hc; (try simp only [hc]); (try simp only [Bh] at hc)))); all_goals clear hF))
    ((with_reducible apply toW); refine stW (fun j => j == 1) (k:=?_))
    (focus (have hF := (aI (aI (aI @h16 (aI @hone @gv)) (aI @g1 (aI @g2 @k1'))) (aI (aI @k2' (aI @e7 @e8)) (aI @e9 (aI @k3 @q74)))); (repeat' (first | refine go1 (k:=?_) | with_reducible refine Ny.of ?_ ?_ | (refine Hyp.of ?_; intro hc; (try simp only [hc]); (try simp only [Bh] at hc)))); all_goals clear hF))
    (refine Fin.nextW (c + 1) ?_ (have hW := (aI (aI @hst @h6) (aI @h8 @h9)); q0z); (try dsimp only))
    omega
  ·have hce : c = m.length := by omega
   subst hce
   rw [f2]
   have h8 : szF t r m.length = q22 t (r + 1) ∧ vcF t r m.length = qa0 t (r + 1) := by
    cases m with
    | nil => have := hz0 rfl; exact ⟨this.1.symm, this.2.symm⟩
    | cons y m => exact ⟨rfl, rfl⟩
   rw [h8.1, h8.2] at *
   (focus (have hF := (aI (aI @h16 @hone) (aI @gv (aI @g1 @g2))); (repeat' (first | refine go1 (k:=?_) | with_reducible refine Ny.of ?_ ?_ | (refine Hyp.of ?_; intro hc; (try simp only [hc]); (try simp only [Bh] at hc)))); all_goals clear hF))
   (refine Fin.nextW (r + 1) ?_ (have hW := @hst; q0z); (try dsimp only))
   omega
 ·have hre : r = 16 := by omega
  subst hre
  have hv : qa0 t 16 = q1l t 16 := by simp [qa0]
  rw [hv] at g0 ⊢
  have hll := q24 t 16
  have hlz : ((q1l t 16).take (q22 t 16)).length ≤ 16 := by rw [List.length_take]; omega
  have hres : q52 t = ⟨(q1l t 16).take (q22 t 16), q11 t 16⟩ := rfl
  rw [hres]
  refine Run.wk (Wk.freeze (k := 3) (cs := [.nil, .own 3 (q0j (q11 t 16))]) rfl) ?_
  refine Run.wk (s' := ⟨tms [(2, .ptr 2 0), (3, .ptr 3 0), (4, .os 8 0), (5, .int .i64 (q22 t 16)), (6, .int .i64 16)], mms [(2, .cells [.nil, .nil]), (3, .cells [.nil, .sl 3 (q0j (q11 t 16))]), (8, .arr 0 1 (q04 (q1l t 16)))]⟩) (have hW := @hst; q0z) ?_
  (focus (have hF := (aI @g0 @q5i); (repeat' (first | refine go1 (k:=?_) | with_reducible refine Ny.of ?_ ?_ | (refine Hyp.of ?_; intro hc; (try simp only [hc]); (try simp only [Bh] at hc)))); all_goals clear hF))
  exact Fin.all rfl (by simp [q0o, AVal.stb, q02, q03, fzc, q7n]) rfl

section
open Go.ChangeShapes Go.WideShapes Go.ChangeAt Go.RowKit
def VR0 (w : World) (x : AVal) (v : Value) : Prop := ∀ G : Gh, (∀ b, G.ow b = none) → VR (Dm NoM) G (fun _ => False) w x v
structure Opens (P : Program) (t : TypeId) (α : Type) (ok : α → Prop) (c : α → List AVal) (wt : α → Nat) : Prop where
 run : ∀ {H : Type} (enc : TypeId × Value → H) (w : World) (fuel : Nat) (cs : List Value) (d : DataW H) (ps : List MemPlace),
  DataW.trod enc P w 0 (fun _ => true) true fuel t cs = some (d, ps) →
  ∃ x : α, ok x ∧ wt x ≤ Rows.uptoBulk d ∧ cs.length = (c x).length ∧ ∀ (n : Nat) (y : AVal) (v : Value), (c x)[n]? = some y → cs[n]? = some v → VR0 w y v
section
variable {P : Program} {t : TypeId}
def qft (n : Int) : Prop := -9223372036854775808 ≤ n ∧ n ≤ 9223372036854775807
theorem Opens.int (ht : P.underlying t = some (.int .i64)) : Opens P t Int qft (fun n => [.int .i64 n]) (fun _ => 1) := by
 refine ⟨fun {H} enc w fuel cs d ps h => ?_⟩
 obtain ⟨n, rfl, hx, hw⟩ := DataW.trod_int ht h
 have hd : d = .lit (.int .i64 n) := congrArg Prod.fst hx
 subst hd
 refine ⟨n, bounds_i64 hw, by simp [Rows.uptoBulk], rfl, fun i y v hy hv G hG => ?_⟩
 match i with
 | 0 => simp at hy hv; subst hy; subst hv; exact .int _ _
 | i + 1 => simp at hy
theorem Opens.bool (ht : P.underlying t = some .bool) : Opens P t Bool (fun _ => True) (fun n => [.bool n]) (fun _ => 1) := by
 refine ⟨fun {H} enc w fuel cs d ps h => ?_⟩
 obtain ⟨n, rfl, hx⟩ := DataW.trod_bool ht h
 have hd : d = .lit (.bool n) := congrArg Prod.fst hx
 subst hd
 refine ⟨n, trivial, by simp [Rows.uptoBulk], rfl, fun i y v hy hv G hG => ?_⟩
 match i with
 | 0 => simp at hy hv; subst hy; subst hv; exact .bool _
 | i + 1 => simp at hy
theorem Opens.string (ht : P.underlying t = some .string) : Opens P t ByteArray (fun _ => True) (fun s => [.str s]) (fun s => s.size + 1) := by
 refine ⟨fun {H} enc w fuel cs d ps h => ?_⟩
 obtain ⟨n, rfl, hx, hs⟩ := DataW.trod_string ht h
 have hd : d = .lit (.string n.data.toList) := congrArg Prod.fst hx
 subst hd
 refine ⟨n, trivial, ?_, rfl, fun i y v hy hv G hG => ?_⟩
 ·simp only [Rows.uptoBulk, Array.length_toList]
  exact Nat.le_refl _
 ·match i with
  | 0 => simp at hy hv; subst hy; subst hv; exact .str _
  | i + 1 => simp at hy
theorem z00 {H : Type} {α : Type} {wt : α → Nat} : ∀ (es : List (DataW H × List MemPlace)) (l : List α), l.length = es.length → (∀ (i : Nat) x e, l[i]? = some x → es[i]? = some e → wt x ≤ Rows.uptoBulk e.1) → (l.map wt).sum ≤ Rows.uptoBulkAll (es.map (·.1))
 | [], [], _, _ => Nat.le_refl _
 | e :: es, x :: l, hl, h => by
  have h1 := h 0 x e rfl rfl
  have h2 := z00 es l (by simpa using hl) fun i y u hy hu => h (i + 1) y u (by simpa using hy) (by simpa using hu)
  simp only [List.map_cons, List.sum_cons, Rows.uptoBulkAll]
  omega
 | [], _ :: _, hl, _ => by simp at hl
 | _ :: _, [], hl, _ => by simp at hl
theorem addr_add (b off i j : Nat) : ((⟨b, off, none⟩ : Addr).add i).add j = ⟨b, off + i + j, none⟩ := by
 unfold Addr.add
 split <;> split <;> simp_all
def wtL {α : Type} (wt : α → Nat) (l : List α) : Nat := (l.map wt).sum + 1
theorem Opens.slice {e : TypeId} {α : Type} {ok : α → Prop} {c : α → List AVal} {wt : α → Nat} {k : Nat} {mk : α → AVal} (ht : P.underlying t = some (.slice e)) (he : Opens P e α ok c wt) (hcell : P.cellsOf e = k) (hk0 : 0 < k)
 (hmk : ∀ x, (mk x).cells = c x) (hk : ∀ x, (c x).length = k) (hone : ∀ x, ∀ y ∈ c x, y.one = true) : Opens P t (List α) (fun l => ∀ x ∈ l, ok x) (fun l => [.sl k (l.map mk)]) (wtL wt) := by
 refine ⟨fun {H} enc w fuel cs d ps h => ?_⟩
 rcases DataW.trod_slice ht h with ⟨rfl, hx⟩ | ⟨a, len, cap, elems, rest, m, _, rfl, hx, hb, hl, hm, hlen, hel, _, _⟩
 ·have hd : d = .nil := congrArg Prod.fst hx
  subst hd
  refine ⟨[], by simp, by simp [wtL, Rows.uptoBulk], rfl, fun i y v hy hv G hG => ?_⟩
  match i with
  | 0 => simp at hy hv; subst hy; subst hv; exact .slnil k
  | i + 1 => simp at hy
 ·have hd : d = .slice (elems.map (·.1)) (rest.map (·.1)) := congrArg Prod.fst hx
  subst hd
  obtain ⟨b, off, sp⟩ := a
  rcases Nat.eq_zero_or_pos len with h0 | h0
  ·subst h0
   refine ⟨[], by simp, by simp [wtL, Rows.uptoBulk], rfl, fun i y v hy hv G hG => ?_⟩
   match i with
   | 0 => simp at hy hv; subst hy; subst hv; exact .slemp k _ cap
   | i + 1 => simp at hy
  have hspot : sp = none := by
   have h1 := hel 0 h0
   rw [List.getElem?_eq_getElem (by omega), Option.bind_eq_some_iff] at h1
   obtain ⟨cs', h2, h3⟩ := h1
   rw [hcell] at h2
   obtain ⟨_, h4, h5⟩ := World.cells?_some h2
   have h6 := h5 0 hk0
   rw [List.getElem?_eq_getElem (by omega)] at h6
   simp only [Nat.zero_mul, Addr.add, if_true, World.cell?] at h6
   cases sp with
   | none => rfl
   | some q => split at h6 <;> simp at h6
  subst hspot
  rw [hcell] at hel
  have each : ∀ i : _root_.Fin len, ∃ x : α, ok x ∧ (∀ e, elems[i.1]? = some e → wt x ≤ Rows.uptoBulk e.1) ∧ ∀ (j : Nat) (y : AVal), (c x)[j]? = some y → ∃ v, w.cell? ⟨b, off + i.1 * k + j, none⟩ = some v ∧ VR0 w y v := by
   intro i
   have h1 := hel i.1 i.2
   have hi : i.1 < elems.length := by rw [hlen]; exact i.2
   rw [List.getElem?_eq_getElem hi, Option.bind_eq_some_iff] at h1
   obtain ⟨cs', h2, h3⟩ := h1
   obtain ⟨_, h4, h5⟩ := World.cells?_some h2
   obtain ⟨x, ho, hw, hlx, hv⟩ := he.run enc w m cs' elems[i.1].1 elems[i.1].2 h3
   refine ⟨x, ho, fun e he => ?_, fun j y hy => ?_⟩
   ·rw [List.getElem?_eq_getElem hi] at he
    cases he
    exact hw
   ·have hj : j < k := by
     rw [← hk x]
     rcases Nat.lt_or_ge j (c x).length with h | h
     ·exact h
     ·rw [List.getElem?_eq_none h] at hy; cases hy
    have h6 := h5 j hj
    rw [addr_add] at h6
    have hjl : j < cs'.length := by omega
    rw [List.getElem?_eq_getElem hjl] at h6
    exact ⟨_, h6, hv j y _ hy (List.getElem?_eq_getElem hjl)⟩
  let l : List α := List.ofFn fun i : _root_.Fin len => (each i).choose
  have hll : l.length = len := by simp [l]
  have hget : ∀ (i : Nat) (hi : i < len), l[i]? = some (each ⟨i, hi⟩).choose := fun i hi => by simp [l, hi]
  refine ⟨l, fun x hx => ?_, ?_, rfl, fun i y v hy hv G hG => ?_⟩
  ·obtain ⟨i, rfl⟩ := (List.mem_ofFn).1 hx
   exact (each i).choose_spec.1
  ·have := z00 (wt := wt) elems l (by omega) fun i x e hx he => by
    have hi : i < len := by
     rcases Nat.lt_or_ge i len with h | h
     ·exact h
     ·rw [List.getElem?_eq_none (by omega)] at hx; cases hx
    rw [hget i hi] at hx
    cases hx
    exact (each ⟨i, hi⟩).choose_spec.2.1 e he
   simp only [wtL, Rows.uptoBulk]
   omega
  ·match i with
   | i + 1 => simp at hy
   | 0 =>
    simp only [List.getElem?_cons_zero, Option.some.injEq] at hy hv
    subst hy; subst hv
    have hsz : ∀ x ∈ l.map mk, x.cells.length = k := by
     intro x hx
     obtain ⟨z, _, rfl⟩ := List.mem_map.1 hx
     rw [hmk, hk]
    have cellv : ∀ (n : Nat) (x : AVal), (flat (l.map mk))[n]? = some x → ∃ v, w.cell? ⟨b, off + n, none⟩ = some v ∧ VR0 w x v := by
     intro n x hx
     have hn : n < len * k := by
      have h1 := q0q hsz
      rw [List.length_map, hll] at h1
      rcases Nat.lt_or_ge n (len * k) with h | h
      ·exact h
      ·rw [List.getElem?_eq_none (by omega)] at hx; cases hx
     have h1 : n / k < len := Nat.div_lt_of_lt_mul (by rw [Nat.mul_comm]; exact hn)
     have h2 : n % k < k := Nat.mod_lt _ hk0
     have h3 := q9p (sz := k) (xs := l.map mk) (i := n / k) (j := n % k) (x := mk (each ⟨n / k, h1⟩).choose) hsz (by rw [List.getElem?_map, hget _ h1]; rfl) h2
     have e : n / k * k + n % k = n := by rw [Nat.mul_comm]; exact Nat.div_add_mod n k
     rw [e, hmk] at h3
     rw [hx] at h3
     obtain ⟨v, hv, hr⟩ := (each ⟨n / k, h1⟩).choose_spec.2.2 (n % k) x h3.symm
     refine ⟨v, ?_, hr⟩
     rw [← hv]
     congr 2
     simp only
     omega
    have e0 : (l.map mk).length = len := by simp [hll]
    have hsl : VR (Dm NoM) G (fun _ => False) w (.sl k (l.map mk)) (.slice (some ⟨b, off, none⟩) (l.map mk).length cap) := by
     refine .sl k (l.map mk) b off cap (fun n => (w.cell? ⟨b, off + n, none⟩).getD undef) (by omega) (fun _ => ⟨fun h => h, hG b⟩) (fun x hx => ?_) hsz (fun n x hx => ?_) (fun n x hx => ?_)
     ·obtain ⟨z, hz, hx⟩ := List.mem_flatMap.1 hx
      obtain ⟨q, _, rfl⟩ := List.mem_map.1 hz
      rw [hmk] at hx
      exact hone q x hx
     ·obtain ⟨v, hv, _⟩ := cellv n x hx
      rw [hv]; rfl
     ·obtain ⟨v, hv, hr⟩ := cellv n x hx
      simp only [hv, Option.getD_some]
      exact hr G hG
    rw [e0] at hsl
    exact hsl
def OpensF (P : Program) (fs : List Field) (off tot : Nat) (α : Type) (ok : α → Prop) (c : α → List AVal) (wt : α → Nat) : Prop :=
 (∀ x, (c x).length = tot) ∧
 ∀ {H : Type} (enc : TypeId × Value → H) (w : World) (m : Nat) (cs : List Value) (xs : List (DataW H × List MemPlace)), xs.length = fs.length → off + tot ≤ cs.length →
  (∀ (i : Nat) (f : Field), fs[i]? = some f → DataW.trod enc P w 0 (fun _ => true) true m f.type ((cs.drop f.offset).take (P.cellsOf f.type)) = xs[i]?) →
  ∃ x : α, ok x ∧ wt x ≤ Rows.uptoBulkAll (xs.map (·.1)) ∧ ∀ (n : Nat) (y : AVal) (v : Value), (c x)[n]? = some y → cs[off + n]? = some v → VR0 w y v
theorem OpensF.nil (off : Nat) : OpensF P [] off 0 Unit (fun _ => True) (fun _ => []) (fun _ => 0) :=
 ⟨fun _ => rfl, fun enc w m cs xs hl _ _ => ⟨(), trivial, Nat.zero_le _, fun n y v hy => by simp at hy⟩⟩
theorem OpensF.cons {f : Field} {fs : List Field} {off k tot : Nat} {α β : Type} {ok : α → Prop} {ok' : β → Prop} {c : α → List AVal} {c' : β → List AVal} {wt : α → Nat} {wt' : β → Nat}
 (h1 : Opens P f.type α ok c wt) (hk : ∀ x, (c x).length = k) (hc : P.cellsOf f.type = k) (ho : f.offset = off) (h2 : OpensF P fs (off + k) tot β ok' c' wt') :
 OpensF P (f :: fs) off (k + tot) (α × β) (fun x => ok x.1 ∧ ok' x.2) (fun x => c x.1 ++ c' x.2) (fun x => wt x.1 + wt' x.2) := by
 refine ⟨fun x => by rw [List.length_append, hk, h2.1], fun {H} enc w m cs xs hl hlen hx => ?_⟩
 cases xs with
 | nil => simp at hl
 | cons x0 xs =>
  have hx0 := hx 0 f rfl
  simp only [List.getElem?_cons_zero] at hx0
  rw [ho, hc] at hx0
  obtain ⟨x, a1, a2, a3, a4⟩ := h1.run enc w m _ x0.1 x0.2 hx0
  obtain ⟨y, b1, b2, b3⟩ := h2.2 enc w m cs xs (by simpa using hl) (by omega) (fun i g hg => by simpa using hx (i + 1) g (by simpa using hg))
  refine ⟨(x, y), ⟨a1, b1⟩, ?_, fun n z v hz hv => ?_⟩
  ·simp only [List.map_cons, Rows.uptoBulkAll]
   omega
  ·rcases Nat.lt_or_ge n k with hn | hn
   ·rw [List.getElem?_append_left (by rw [hk]; exact hn)] at hz
    refine a4 n z v hz ?_
    rw [List.getElem?_take, if_pos hn, List.getElem?_drop]
    exact hv
   ·rw [List.getElem?_append_right (by rw [hk]; exact hn), hk] at hz
    refine b3 (n - k) z v hz ?_
    rw [show off + k + (n - k) = off + n by omega]
    exact hv
theorem Opens.struct {fs : Array Field} {tot : Nat} {α : Type} {ok : α → Prop} {c : α → List AVal} {wt : α → Nat} (ht : P.underlying t = some (.struct fs)) (hc : P.cellsOf t = tot) (h : OpensF P fs.toList 0 tot α ok c wt) :
 Opens P t α ok c (fun x => wt x + 1) := by
 refine ⟨fun {H} enc w fuel cs d ps hd => ?_⟩
 obtain ⟨xs, n, _, hx, hl, hxl, hf⟩ := DataW.trod_struct ht hd
 have hd : d = .agg (xs.map (·.1)) := congrArg Prod.fst hx
 subst hd
 obtain ⟨x, h1, h2, h3⟩ := h.2 enc w n cs xs (by simpa using hxl) (by omega) (fun i f hi => hf i f (by simpa using hi))
 refine ⟨x, h1, by simp only [Rows.uptoBulk]; omega, by rw [h.1, hl, hc], fun i y v hy hv => h3 i y v hy (by simpa using hv)⟩
theorem Opens.map {α β : Type} {ok : α → Prop} {c : α → List AVal} {wt : α → Nat} {ok' : β → Prop} {c' : β → List AVal} {wt' : β → Nat} (h : Opens P t α ok c wt) (g : α → β) (h1 : ∀ x, ok x → ok' (g x)) (h2 : ∀ x, c' (g x) = c x) (h3 : ∀ x, wt' (g x) ≤ wt x) :
 Opens P t β ok' c' wt' := by
 refine ⟨fun {H} enc w fuel cs d ps hd => ?_⟩
 obtain ⟨x, a1, a2, a3, a4⟩ := h.run enc w fuel cs d ps hd
 exact ⟨g x, h1 x a1, Nat.le_trans (h3 x) a2, by rw [h2]; exact a3, by rw [h2]; exact a4⟩
end
section
variable {P : Program} {t : TypeId}
def ze3 (P : Program) (t : TypeId) (α : Type) (ok : α → Prop) (mk : α → AVal) (wt : α → Nat) : Prop :=
 ∀ {H : Type} (enc : TypeId × Value → H) (w : World) (base fuel : Nat) (v : Value) (d : DataW H) (ps : List MemPlace), Value.okWide P w .any base t v →
  DataW.trod enc P w 0 (fun _ => true) true fuel t v.cells.toList = some (d, ps) → ∃ x : α, ok x ∧ wt x ≤ Rows.uptoBulk d ∧ VR0 w (mk x) v
theorem Opens.agg {α : Type} {ok : α → Prop} {c : α → List AVal} {wt : α → Nat} {fs : Array Field} (h : Opens P t α ok c wt) (ht : P.underlying t = some (.struct fs)) : ze3 P t α ok (fun x => .agg (c x)) wt := by
 intro H enc w base fuel v d ps hok hd
 unfold Value.okWide at hok
 rw [ht] at hok
 obtain ⟨cs, rfl, hsz, _⟩ := hok
 obtain ⟨x, x1, x2, x3, x4⟩ := h.run enc w fuel cs.toList d ps (by simpa [Value.cells] using hd)
 exact ⟨x, x1, x2, fun G hG => .agg _ _ (by simpa using x3) fun n z u hz hu => x4 n z u hz (by simpa using hu) G hG⟩
theorem Opens.one {α : Type} {ok : α → Prop} {mk : α → AVal} {wt : α → Nat} {u : TypeDesc} (h : Opens P t α ok (fun x => [mk x]) wt) (ht : P.underlying t = some u) (hu : (match u with | .struct _ | .array _ _ => False | _ => True)) : ze3 P t α ok mk wt := by
 intro H enc w base fuel v d ps hok hd
 have hv : v.cells.toList = [v] := by
  cases v <;> first | rfl | skip
  unfold Value.okWide at hok
  rw [ht] at hok
  cases u <;> first | exact hu.elim | (simp [Cell.okWide, Cell.ok, ht] at hok; done)
 rw [hv] at hd
 obtain ⟨x, x1, x2, x3, x4⟩ := h.run enc w fuel [v] d ps hd
 exact ⟨x, x1, x2, x4 0 (mk x) v rfl rfl⟩
def OpensA (P : Program) (ts : List TypeId) (α : Type) (ok : α → Prop) (l : α → List AVal) (wt : α → Nat) : Prop :=
 ∀ {H : Type} (enc : TypeId × Value → H) (w : World) (base : Nat) (vs : List Value) (ds : List (DataW H)) (ps : List MemPlace), (∀ (j : Nat) t v, ts[j]? = some t → vs[j]? = some v → Value.okWide P w .any base t v) →
  DataW.TrodAll enc P w 0 (fun _ => true) true ts vs ds ps → ∃ x : α, ok x ∧ wt x ≤ Rows.uptoBulkAll ds ∧ vs.length = (l x).length ∧ ∀ (n : Nat) (y : AVal) (v : Value), (l x)[n]? = some y → vs[n]? = some v → VR0 w y v
theorem OpensA.nil : OpensA P [] Unit (fun _ => True) (fun _ => []) (fun _ => 0) := by
 intro H enc w base vs ds ps _ h
 obtain ⟨rfl, rfl, rfl⟩ := trodAll_nil h
 exact ⟨(), trivial, Nat.zero_le _, rfl, fun n y v hy => by simp at hy⟩
theorem OpensA.cons {ts : List TypeId} {α β : Type} {ok : α → Prop} {ok' : β → Prop} {mk : α → AVal} {l : β → List AVal} {wt : α → Nat} {wt' : β → Nat} (h1 : ze3 P t α ok mk wt) (h2 : OpensA P ts β ok' l wt') :
 OpensA P (t :: ts) (α × β) (fun x => ok x.1 ∧ ok' x.2) (fun x => mk x.1 :: l x.2) (fun x => wt x.1 + wt' x.2) := by
 intro H enc w base vs ds ps hok h
 obtain ⟨v, vs', d, ds', p, q, rfl, rfl, rfl, ⟨fuel, hd⟩, hr⟩ := trodAll_cons h
 obtain ⟨x, x1, x2, x3⟩ := h1 enc w base fuel v d p (hok 0 t v rfl rfl) hd
 obtain ⟨y, y1, y2, y3, y4⟩ := h2 enc w base vs' ds' q (fun j t' v' ht hv => hok (j + 1) t' v' (by simpa using ht) (by simpa using hv)) hr
 refine ⟨(x, y), ⟨x1, y1⟩, ?_, by simpa using y3, fun n z u hz hu => ?_⟩
 ·simp only [Rows.uptoBulkAll]
  omega
 ·match n with
  | 0 => simp at hz hu; subst hz; subst hu; exact x3
  | n + 1 => exact y4 n z u (by simpa using hz) (by simpa using hu)
theorem OpensA.map {ts : List TypeId} {α β : Type} {ok : α → Prop} {ok' : β → Prop} {l : α → List AVal} {l' : β → List AVal} {wt : α → Nat} {wt' : β → Nat} (h : OpensA P ts α ok l wt) (g : α → β) (h1 : ∀ x, ok x → ok' (g x)) (h2 : ∀ x, l' (g x) = l x) (h3 : ∀ x, wt' (g x) ≤ wt x) :
 OpensA P ts β ok' l' wt' := by
 intro H enc w base vs ds ps hok ht
 obtain ⟨x, x1, x2, x3, x4⟩ := h enc w base vs ds ps hok ht
 exact ⟨g x, h1 x x1, Nat.le_trans (h3 x) x2, by rw [h2]; exact x3, by rw [h2]; exact x4⟩
end
theorem qm7 {H : Type} {enc : TypeId × Value → H} {P : Program} (hl : laidOutB P = true) {W W' : World} (hb : Below W.heap.size W W') : ∀ {ts : List TypeId} {vs : List Value} {ds : List (DataW H)} {ps : List MemPlace}, (∀ t ∈ ts, P.readableRec t = true ∧ t < P.types.size) →
 DataW.TrodAll enc P W 0 (fun _ => true) true ts vs ds ps → (∀ x ∈ ps, x.block < W.heap.size) → DataW.TrodAll enc P W' 0 (fun b => decide (b < W.heap.size)) true ts vs ds ps
 | [], vs, ds, ps, _, h, _ => by
  obtain ⟨rfl, rfl, rfl⟩ := trodAll_nil h
  exact trodAll_mk0
 | t :: ts, vs, ds, ps, hr, h, hlt => by
  obtain ⟨v, vs', d, ds', p, q, rfl, rfl, rfl, hd, hrest⟩ := trodAll_cons h
  have h1 := hr t (by simp)
  exact trodAll_cons_mk (Below.trod hl h1.1 h1.2 hd hb fun x hx => hlt x (by simp [hx])) (qm7 hl hb (fun t' ht' => hr t' (by simp [ht'])) hrest fun x hx => hlt x (by simp [hx]))
theorem qlv {P : Program} {f : FuncId} {fn : Func} {α : Type} {ok : α → Prop} {l : α → List AVal} {wt : α → Nat} {s : ChangeSpec} (hfn : P.funcs[f]? = some fn) (hr : fn.resultTypes = #[4]) (hb : P.underlying 4 = some .bool)
 (hl : laidOutB P = true) (hre : ∀ t ∈ fn.params.toList, P.readableRec t = true ∧ t < P.types.size) (hvars : s.vars = [])
 (hsfn : ∀ (H : Type) (ds : List (DataW H)), ds.length = fn.params.size → s.fn H ds = { results := [.lit (.bool true)], args := ds })
 (ho : OpensA P fn.params.toList α ok l wt) (hEv : ∀ x, ok x → wt x ≤ 1048576 → Ev P f (l x) (.ret (.bool true)))
 (H : Type) (enc : TypeId × Value → H) (W : World) (base : Nat) (args : Array Value) (ds gs : List (DataW H)) (before : List MemPlace)
 (hval : ∀ (j : Nat) t v, fn.params[j]? = some t → args[j]? = some v → Value.okWide P W .any base t v)
 (hW : DataW.Whole enc P fn.params.toList s.vars false W args.toList ds gs before) (hk : Rows.uptoSmall H (ds ++ gs) = true) :
 Calls P f args W fun e W' => ∃ v, e = .returned v ∧ s.post enc P fn false true false false W args v W' := by
 have hW' := hW
 obtain ⟨p, q, hA, hV, rfl, hfz, hnd⟩ := hW
 rw [hvars] at hV
 obtain ⟨rfl, rfl⟩ := trodVars_none hV
 obtain ⟨x, x1, x2, x3, x4⟩ := ho enc W base args.toList ds p (fun j t v ht hv => hval j t v (by simpa using ht) (by simpa using hv)) hA
 have hlen : ds.length = fn.params.size := by
  have : ∀ (ts : List TypeId) (vs : List Value) (ds : List (DataW H)) (ps : List MemPlace), DataW.TrodAll enc P W 0 (fun _ => true) true ts vs ds ps → ds.length = ts.length := by
   intro ts
   induction ts with
   | nil => intro vs ds ps h; obtain ⟨_, rfl, _⟩ := trodAll_nil h; rfl
   | cons t ts ih =>
    intro vs ds ps h
    obtain ⟨v, vs', d, ds', p, q, rfl, rfl, rfl, _, hr⟩ := trodAll_cons h
    simp [ih _ _ _ hr]
  simpa using this _ _ _ _ hA
 have hsmall : Rows.uptoBulkAll ds ≤ 1048576 := by
  have : Rows.uptoBulkAll (ds ++ []) ≤ 1048576 := of_decide_eq_true hk
  simpa using this
 have hcall := (hEv x x1 (by omega)).2 (fun _ => False) W args ⟨fun _ => 0, fun _ _ => .int .i64 0, fun _ => none, fun _ _ => rfl⟩ (fun _ => rfl) (by simpa using x3) (fun i y v hy hv => x4 i y v hy (by simpa using hv) _ (fun _ => rfl)) (fun _ h => h.elim)
 refine hcall.mono ?_
 rintro e W' ⟨G', v', hG', hAdv, he, hr'⟩
 cases hr'
 subst he
 have hbel : Below W.heap.size W W' := ⟨hAdv.os.1, hAdv.tape, hAdv.output, hAdv.size, fun b hb => (hAdv.keep b hb rfl).1⟩
 have hlt : ∀ z ∈ p, z.block < W.heap.size := fun z hz => by simpa using hW'.lt z (by simpa using hz)
 refine ⟨.bool true, rfl, ds, [], p ++ [], [], p, [], hW', ?_, ?_, ?_, hbel.frame _, fun h => by cases h⟩
 ·rw [hr, List.append_nil, hsfn H ds hlen]
  exact trodAll_cons_mk (p' := []) (shut_bool hb _) trodAll_mk0
 ·rw [List.append_nil, hsfn H ds hlen]
  exact qm7 hl hbel hre hA hlt
 ·rw [hvars, List.append_nil, hsfn H ds hlen]
  rfl
theorem qcu {P : Program} {f : FuncId} {fn : Func} {t : TypeId} {fs : Array Field} {α : Type} {ok : α → Prop} {c : α → List AVal} {wt : α → Nat} {s : ChangeSpec} (hfn : P.funcs[f]? = some fn) (hp : fn.params = #[t]) (hr : fn.resultTypes = #[4]) (hb : P.underlying 4 = some .bool)
 (ht : P.underlying t = some (.struct fs)) (hl : laidOutB P = true) (hre : P.readableRec t = true) (hrow : t < P.types.size) (hvars : s.vars = [])
 (hsfn : ∀ (H : Type) (d : DataW H), s.fn H [d] = { results := [.lit (.bool true)], args := [d] })
 (ho : Opens P t α ok c wt) (hEv : ∀ x, ok x → wt x ≤ 1048576 → Ev P f [.agg (c x)] (.ret (.bool true)))
 (H : Type) (enc : TypeId × Value → H) (W : World) (base : Nat) (args : Array Value) (ds gs : List (DataW H)) (before : List MemPlace)
 (hval : ∀ (j : Nat) t v, fn.params[j]? = some t → args[j]? = some v → Value.okWide P W .any base t v)
 (hW : DataW.Whole enc P fn.params.toList s.vars false W args.toList ds gs before) (hk : Rows.uptoSmall H (ds ++ gs) = true) :
 Calls P f args W fun e W' => ∃ v, e = .returned v ∧ s.post enc P fn false true false false W args v W' :=
 qlv (α := α × Unit) (l := fun x => [.agg (c x.1)]) (wt := fun x => wt x.1 + 0) hfn hr hb hl (by rw [hp]; intro t' h'; simp at h'; subst h'; exact ⟨hre, hrow⟩) hvars
  (fun H ds h => by
   rw [hp] at h
   match ds, h with
   | [d], _ => exact hsfn H d)
  (by rw [hp]; exact OpensA.cons (ho.agg ht) OpensA.nil) (ok := fun x => ok x.1 ∧ True) (fun (x : α × Unit) (hx : ok x.1 ∧ True) hw => hEv x.1 hx.1 hw) H enc W base args ds gs before hval hW hk
end
theorem q3x : Tryz.prog.cellsOf 3 = 1 := by kernel_rfl
theorem z1g : Tryz.prog.cellsOf 22 = 1 := by kernel_rfl
theorem qoc : Tryz.prog.cellsOf 23 = 1 := by kernel_rfl
theorem qeh : Tryz.prog.cellsOf 82 = 3 := by kernel_rfl
theorem qd0 : Tryz.prog.cellsOf 43 = 2 := by kernel_rfl
theorem q4i : Tryz.prog.cellsOf 25 = 2 := by kernel_rfl
theorem qa4 : Opens Tryz.prog 3 Int qft (fun n => [.int .i64 n]) (fun _ => 1) := Opens.int Tryz.underlying3
theorem op_ints : Opens Tryz.prog 22 (List Int) (fun l => ∀ x ∈ l, qft x) (fun l => [.sl 1 (q04 l)]) (wtL fun _ => 1) :=
 Opens.slice (mk := encI) Tryz.underlying22 qa4 q3x (by decide) (fun _ => rfl) (fun _ => rfl) (fun x y hy => by simp at hy; subst hy; rfl)
def okS (s : Sn) : Prop := qft s.1 ∧ qft s.2.1 ∧ qft s.2.2
theorem op_Span : Opens Tryz.prog 82 Sn okS (fun s => [.int .i64 s.1, .int .i64 s.2.1, .int .i64 s.2.2]) (fun _ => 1) :=
 (Opens.struct Tryz.underlying82 qeh (OpensF.cons (k := 1) qa4 (fun _ => rfl) q3x rfl (OpensF.cons (k := 1) qa4 (fun _ => rfl) q3x rfl (OpensF.cons (k := 1) qa4 (fun _ => rfl) q3x rfl (OpensF.nil _))))).map
  (fun x => (x.1, x.2.1, x.2.2.1)) (fun x h => ⟨h.1, h.2.1, h.2.2.1⟩) (fun _ => rfl) (fun _ => Nat.le_add_left _ _)
theorem op_spans : Opens Tryz.prog 23 (List Sn) (fun l => ∀ x ∈ l, okS x) (fun l => [.sl 3 (q0j l)]) (wtL fun _ => 1) :=
 Opens.slice (mk := encS) Tryz.underlying23 op_Span
  qeh (by decide) (fun _ => rfl) (fun _ => rfl) (fun x y hy => by simp at hy; rcases hy with rfl | rfl | rfl <;> rfl)
def okD (s : Rn) : Prop := qft s.1 ∧ qft s.2
theorem op_Dot : Opens Tryz.prog 43 Rn okD (fun x => [.int .i64 x.1, .int .i64 x.2]) (fun _ => 1) :=
 (Opens.struct Tryz.underlying43 qd0 (OpensF.cons (k := 1) qa4 (fun _ => rfl) q3x rfl (OpensF.cons (k := 1) qa4 (fun _ => rfl) q3x rfl (OpensF.nil _)))).map
  (fun x => (x.1, x.2.1)) (fun x h => ⟨h.1, h.2.1⟩) (fun _ => rfl) (fun _ => Nat.le_add_left _ _)
def okP (p : Pst) : Prop := (∀ x ∈ p.vec, qft x) ∧ ∀ s ∈ p.cloud, okS s
theorem q7o {α : Type} (l : List α) : wtL (fun _ => 1) l = l.length + 1 := by
 unfold wtL
 induction l with
 | nil => rfl
 | cons x l ih => simp only [List.map_cons, List.sum_cons, List.length_cons]; omega
theorem qc1 : Opens Tryz.prog 25 Pst okP (fun p => [.sl 1 (q04 p.vec), .sl 3 (q0j p.cloud)]) wt :=
 (Opens.struct Tryz.underlying25 q4i (OpensF.cons (k := 1) op_ints (fun _ => rfl) z1g rfl (OpensF.cons (k := 1) op_spans (fun _ => rfl) qoc rfl (OpensF.nil _)))).map (fun x => ⟨x.1, x.2.1⟩) (fun x h => ⟨h.1, h.2.1⟩) (fun _ => rfl)
  (fun x => by show x.1.length + x.2.1.length ≤ wtL (fun _ => 1) x.1 + (wtL (fun _ => 1) x.2.1 + 0) + 1; rw [q7o, q7o]; omega)
structure Cas where
 a : Pst
 b : Pst
 c : Pst
 ds : List Rn
 rep : Int
 most : Int
theorem own : ownKnob Tryz.prog.godebug = none := by kernel_rfl


def bothR (x y : Rn) : Rn := (max x.1 y.1, min x.2 y.2)
def one0 (r : Rn) : List Rn := if r.1 ≤ r.2 then [r] else []
def meetR : List Rn → List Rn → List Rn
 | [], _ => []
 | _ :: _, [] => []
 | x :: l, y :: m => one0 (bothR x y) ++ if x.2 < y.2 then meetR l (y :: m) else meetR (x :: l) m
termination_by l m => l.length + m.length
structure MtS where
 i : Nat
 j : Nat
 o : List Rn
def qdy : Int → List Rn → List Rn
 | k, [] => one0 (k, 1000000000)
 | k, r :: l => (if k < r.1 then [(k, r.1 - 1)] else []) ++ qdy (r.2 + 1) l
def othersR (l : List Rn) : List Rn := qdy 1 l
structure OtS where
 i : Nat
 k : Int
 o : List Rn

def minusR (a b : List Rn) : List Rn := meetR (q16 a) (q16 (othersR (q16 b)))

def qw5 : List SOp := [zO 1 (.box 25 (.tmp 0)),zO 2 (.assign (.const (.bool false)))]
instance : Live qw5 := ⟨[0]⟩
def qw4 : List SOp := [zL 3 25 1,zO 4 (.call ⟨.value (.func 144),#[.tmp 3],#[25]⟩),zO 5 (.binOp .eql 3 (.tmp 4) (.const (.int .i64 0)) 3),zG 2 5]
instance : Live qw4 := ⟨[1]⟩
def t_k127 : SC :=
 (.seq (.ops false qw5) (.seq (.ops false qw4) .ret))
theorem it_k127 : FnIs Tryz.prog 127 6 [.tmp 2] t_k127 := ⟨Tryz.f127, _, Tryz.func127, rfl, rfl, rfl, rfl, by kernel_rfl⟩

def WithP (t u : Tab) : Prop := ∀ r, r < 16 → minusR (t.getD r []) (u.getD r []) = []
open Classical in
noncomputable def withinP (p q : Pst) : Bool := decide (WithP (q1o [p]) (q1o [q]))
theorem ev_k127 (p : Pst) (hp : wt p ≤ 50000000) : Ev (En Tryz.prog rfl).P 127 [q17 p] (.ret (.bool (decide (q88 p = 0)))) := by
 refine Ev.of_body it_k127 (by simp) (Run.start ?_)
 unfold t_k127 q17
 (focus (have hF := True.intro; (repeat' (first | refine go1 (k:=?_) | with_reducible refine Ny.of ?_ ?_ | (refine Hyp.of ?_; intro hc; (try simp only [hc]); (try simp only [Bh] at hc)))); all_goals clear hF))
 refine q01 [q17 p] (he := ev_k144 p hp) (k:=?_)
 (focus (have hF := True.intro; (repeat' (first | refine go1 (k:=?_) | with_reducible refine Ny.of ?_ ?_ | (refine Hyp.of ?_; intro hc; (try simp only [hc]); (try simp only [Bh] at hc)))); all_goals clear hF))
 exact Fin.tmp' rfl rfl

def NewQ (t : Tmp) (cs : List AVal) : Ex → AS → Prop
 | .ret, s => ∃ k, s.T t = .ptr k 0 ∧ s.M k = some (.cells cs) ∧ q0o cs = true
 | _, _ => False
theorem qmz {P : Program} {fn : Func} {t : Tmp} (hrs : fn.results.toList = [.tmp t]) (tm : Array Value) (w : World) : (results fn tm).run P w = .ok (tm.getD t undef) w := by
 have hm : (fn.results.mapM (fun r => match r with | .tmp t => pure (tm.getD t undef) | .cell c t => do loadVar t (← asAddr (tm.getD c undef)) : ResultVar → Sem Value)).run P w = .ok #[tm.getD t undef] w := by
  rw [Array.mapM_eq_mapM_toList, hrs]
  simp only [Sem.run_map, List.mapM_cons, List.mapM_nil, Sem.run_bind, Sem.run_pure, Result.andThen]
 unfold results
 simp only [Sem.run_bind]
 refine Eq.trans (congrArg (fun r => Result.andThen r _) hm) ?_
 simp [Result.andThen]
theorem EvNew.of_body {E : Env} {f : FuncId} {n : Nat} {t : Tmp} {sc : SC} (hf : FnIs E.P f n [.tmp t] sc) {args cs : List AVal} (hl : args.length ≤ n)
 (h : AW E n sc (NewQ t cs) ⟨q5f args, NoM⟩) : EvNew E.P f args cs := by
 obtain ⟨fn, c, h1, h2, h3, rfl, hrs, h6⟩ := hf
 refine ⟨⟨fn, h1, h2, by simp [h3]⟩, fun B w vs G hG hsz hv hB => ?_⟩
 refine calls_of_wp h1 h3 ?_
 have hR : Rel fn.ntmps B G ⟨q5f args, NoM⟩ { tmps := vs ++ Array.replicate (fn.ntmps - vs.size) undef, defers := [] } w := by
  refine ⟨by simp; omega, rfl, fun t => ?_, fun k blk hk => by simp [NoM] at hk, fun b hb => ⟨hB b hb, hG b⟩, fun b hb => absurd (hG b) hb⟩
  simp only [q5f]
  cases ht : args[t]? with
  | none => exact .undef _
  | some x =>
   have hlt : t < vs.size := by
    rw [hsz]
    rcases Nat.lt_or_ge t args.length with h' | h'
    ·exact h'
    ·rw [List.getElem?_eq_none h'] at ht; cases ht
   have : (vs ++ Array.replicate (fn.ntmps - vs.size) undef).getD t undef = vs[t] := by
    rw [Array.getD_eq_getD_getElem?, Array.getElem?_append_left hlt]
    simp [hlt]
   simp only [Option.getD_some, this]
   exact hv t x _ ht (by simp [hlt])
 refine h c h6 B G _ w hR _ fun e s a' w' G' hA hR' hq => ?_
 cases e with
 | normal => exact hq.elim
 | exit id => exact hq.elim
 | pan x => exact hq.elim
 | ret =>
  obtain ⟨k, q1, q2, q3⟩ := hq
  have hx := hR'.temps t
  rw [q1] at hx
  have e1 : a'.tmps.getD t undef = .pointer (some ⟨G'.β k, 0, none⟩) := by
   generalize a'.tmps.getD t undef = tv at hx
   cases hx
   rfl
  obtain ⟨cc, el, b1, b2, b3, b4, b5⟩ := hR'.mem k _ q2
  let G2 : Gh := { G' with ow := fun b => if b = G'.β k then G'.ow b else none }
  have g2 : ∀ b, G'.ow b = none → G2.ow b = none := fun b hb => by simp only [G2]; split <;> first | exact hb | rfl
  have hge : w.heap.size ≤ G'.β k := by
   rcases Nat.lt_or_ge (G'.β k) w.heap.size with h' | h'
   ·have := (hA.keep _ h' (hG _)).2
    rw [b1] at this
    cases this
   ·exact h'
  refine ⟨hR'.defers, _, qmz hrs a'.tmps w', G2, G'.β k, cc, el, hge, hR'.ol _ (by rw [b1]; simp), by simp only [G2, if_true]; rw [b1]; simp,
   ⟨hA.os, hA.tape, hA.output, hA.size, fun b hb ho => ⟨(hA.keep b hb ho).1, g2 b (hA.keep b hb ho).2⟩⟩, by rw [e1], b3, b4, fun i x hx => ?_⟩
  obtain ⟨u, hu, hcr⟩ := b5 i x hx
  have hst : x.stb = true := q4a q3 hx
  refine ⟨u, hu, ?_⟩
  have hvr : VR (Dm s.M) G' B w' x u := by
   cases x <;> first | exact hcr | (simp [AVal.stb] at hst; done)
  exact hvr.stable (fun b _ hn ho => ⟨rfl, hn, g2 b ho⟩) hst



def zbo : List SOp := [zO 1 (.box 25 (.tmp 0)),zO 2 (.alloc 25)]
instance : Live zbo := ⟨[0]⟩
def zbn : List SOp := [zL 3 25 1,zO 4 (.call ⟨.value (.func 44),#[.tmp 3],#[25]⟩),zO 5 (.call ⟨.value (.func 43),#[.tmp 4],#[88]⟩),⟨none,.store 25 (.tmp 2) (.tmp 5),none⟩]
instance : Live zbn := ⟨[1,2]⟩
def t_k11 : SC :=
 (.seq (.ops false zbo) (.seq (.ops false zbn) .ret))
theorem it_k11 : FnIs Tryz.prog 11 6 [.cell 2 25] t_k11 := ⟨Tryz.f11, _, Tryz.func11, rfl, rfl, rfl, rfl, by kernel_rfl⟩

theorem ev_k44 (p : Pst) (hw : wt p ≤ 800000000) : Ev (En Tryz.prog rfl).P 44 [q17 p] (.ret (.agg (q15 (ql1 [p])))) :=
 zd4 p (ql1 [p]) (zc9 [p]) (ev_k88 [p] (by simp) (by simpa using hw))
theorem z1b (K : Nat → Bool) (M : Mem) (t : List (List Int)) : (q15 t).map (fzc K M) = q15 t := by
 unfold q15
 rw [List.map_map]
 rfl
theorem qle (p : Pst) (hw : wt p ≤ 40000000) : Ev (En Tryz.prog rfl).P 11 [q17 p] (.ret (q17 (q0r p))) := by
 have c1 := ev_k44 p (by omega)
 have c2 := ev_k43 (q1o [p]) (n := wt p) (by simpa using q35 [p]) (by omega)
 refine Ev.of_body it_k11 (by simp) (Run.start ?_)
 unfold t_k11 q17
 have hS := q4h
 have hL := z1b
 (focus (have hF := True.intro; (repeat' (first | refine go1 (k:=?_) | with_reducible refine Ny.of ?_ ?_ | (refine Hyp.of ?_; intro hc; (try simp only [hc]); (try simp only [Bh] at hc)))); all_goals clear hF))
 refine q01 [q17 p] (he := c1) (k:=?_)
 (focus (have hF := True.intro; (repeat' (first | refine go1 (k:=?_) | with_reducible refine Ny.of ?_ ?_ | (refine Hyp.of ?_; intro hc; (try simp only [hc]); (try simp only [Bh] at hc)))); all_goals clear hF))
 refine q01 [.agg (q15 (ql1 [p]))] (he := c2) (k:=?_)
 unfold q0r q17
 (focus (have hF := True.intro; (repeat' (first | refine go1 (k:=?_) | with_reducible refine Ny.of ?_ ?_ | (refine Hyp.of ?_; intro hc; (try simp only [hc]); (try simp only [Bh] at hc)))); all_goals clear hF))
 exact Fin.all rfl (by simp [q0o, AVal.stb, q02, q03, fzc, q7n]) rfl

def qw1 : List SOp := [zO 2 (.box 25 (.tmp 0)),zO 3 (.box 25 (.tmp 1)),zO 4 (.assign (.const (.int .i64 0)))]
instance : Live qw1 := ⟨[0,1]⟩
def qw0 : List SOp := [zL 10 25 2,zO 11 (.call ⟨.value (.func 89),#[.tmp 10],#[25]⟩),zL 12 25 3,zO 13 (.call ⟨.value (.func 89),#[.tmp 12],#[25]⟩),zO 5 (.alloc 25),zO 6 (.alloc 25),⟨none,.store 25 (.tmp 5) (.tmp 11),none⟩,⟨none,.store 25 (.tmp 6) (.tmp 13),none⟩]
instance : Live qw0 := ⟨[2,3]⟩
def qvz : List SOp := [zO 14 (.move (.const (.int .i64 0)))]
instance : Live qvz := ⟨[5,6]⟩
def qvy : List SOp := [zO 15 (.binOp .lss 3 (.tmp 14) (.const (.int .i64 16)) 3)]
instance : Live qvy := ⟨[5,6,14]⟩
def qvx : List SOp := [zM 16 14,zG 7 16]
instance : Live qvx := ⟨[5,6,14]⟩
def qvw : List SOp := [zO 8 (.assign (.const (.int .i64 0))),zO 9 (.assign (.const (.int .i64 0)))]
instance : Live qvw := ⟨[5,6,7,14]⟩
def qvv : List SOp := [zM 17 7,zF 18 25 5 0,zL 19 22 18,zO 20 (.call ⟨.builtin .len,#[.tmp 19],#[22]⟩),zO 21 (.binOp .lss 3 (.tmp 17) (.tmp 20) 3)]
instance : Live qvv := ⟨[5,6,7,8,9,14]⟩
def qvu : List SOp := [zF 22 25 5 0,zL 23 22 22,zM 24 7,zI 25 22 23 24,zL 26 3 25,zG 8 26]
instance : Live qvu := ⟨[5,6,7,9,14]⟩
def qvt : List SOp := [zM 27 7,zF 28 25 6 0,zL 29 22 28,zO 30 (.call ⟨.builtin .len,#[.tmp 29],#[22]⟩),zO 31 (.binOp .lss 3 (.tmp 27) (.tmp 30) 3)]
instance : Live qvt := ⟨[5,6,7,8,9,14]⟩
def qj1 : List SOp := [zF 32 25 6 0,zL 33 22 32,zM 34 7,zI 35 22 33 34,zL 36 3 35,zG 9 36]
instance : Live qj1 := ⟨[5,6,7,8,14]⟩
def qj0 : List SOp := [zM 37 8,zM 38 9,zO 39 (.binOp .neq 3 (.tmp 37) (.tmp 38) 3)]
instance : Live qj0 := ⟨[5,6,8,9,14]⟩
def qiz : List SOp := [zM 40 8,zM 41 9,zO 42 (.call ⟨.value (.func 146),#[.tmp 40,.tmp 41],#[3,3]⟩),zG 4 42]
instance : Live qiz := ⟨[8,9]⟩
def qiy : List SOp := [zO 43 (.binOp .add 3 (.tmp 14) (.const (.int .i64 1)) 3),zM 14 43]
instance : Live qiy := ⟨[5,6,14]⟩
def qix : List SOp := [zF 44 25 5 1,zL 45 23 44,zF 46 25 6 1,zL 47 23 46,zO 48 (.call ⟨.value (.func 147),#[.tmp 45,.tmp 47,.func 148],#[23,23,185]⟩),zG 4 48]
instance : Live qix := ⟨[5,6]⟩
def qh5 : SC :=
 (.seq (.ops false qvy) (.seq (.cond (.tmp 15) .skip (.exit 0)) (.seq (.block 1 (.seq (.ops false qvx) (.seq (.ops false qvw) (.seq (.seq (.ops false qvv) (.cond (.tmp 21) (.ops false qvu) .skip)) (.seq (.seq (.ops false qvt) (.cond (.tmp 31) (.ops false qj1) .skip)) (.seq (.ops false qj0) (.cond (.tmp 39) (.seq (.ops false qiz) .ret) .skip))))))) (.ops false qiy))))
def t_k129 : SC :=
 (.seq (.ops false qw1) (.seq (.ops true qw0) (.seq (.seq (.ops false qvz) (.block 0 (.loop qh5))) (.seq (.ops false qix) .ret))))
theorem it_k129 : FnIs Tryz.prog 129 49 [.tmp 4] t_k129 := ⟨Tryz.f129, _, Tryz.func129, rfl, rfl, rfl, rfl, by kernel_rfl⟩

theorem ev_k129 (p q : Pst) (hp : wt p ≤ 50000000) (hq : wt q ≤ 50000000) : Ev (En Tryz.prog rfl).P 129 [q17 p, q17 q] (.ret (.int .i64 (cmpP p q))) := by
 refine Ev.of_body it_k129 (by simp) (Run.start ?_)
 unfold t_k129 q17
 have c1 := zd2 p (by omega)
 have c2 := zd2 q (by omega)
 have h1 := q4v p
 have h2 := q4v q
 have hr : cmpP p q = q7e (qmi (q0r p)) (qmi (q0r q)) := rfl
 rw [hr]
 (focus (have hF := True.intro; (repeat' (first | refine go1 (k:=?_) | with_reducible refine Ny.of ?_ ?_ | (refine Hyp.of ?_; intro hc; (try simp only [hc]); (try simp only [Bh] at hc)))); all_goals clear hF))
 refine q01 [q17 p] (he := c1) (k:=?_)
 (focus (have hF := True.intro; (repeat' (first | refine go1 (k:=?_) | with_reducible refine Ny.of ?_ ?_ | (refine Hyp.of ?_; intro hc; (try simp only [hc]); (try simp only [Bh] at hc)))); all_goals clear hF))
 refine q01 [q17 q] (he := c2) (k:=?_)
 clear c1 c2 hr
 generalize q0r p = x at h1 ⊢
 generalize q0r q = y at h2 ⊢
 unfold q17
 have hw1 : x.vec.length + x.cloud.length = wt x := rfl
 have hw2 : y.vec.length + y.cloud.length = wt y := rfl
 have e1 := q0h x.vec
 have e2 := q0h y.vec
 (focus (have hF := (aI @e1 @e2); (repeat' (first | refine go1 (k:=?_) | with_reducible refine Ny.of ?_ ?_ | (refine Hyp.of ?_; intro hc; (try simp only [hc]); (try simp only [Bh] at hc)))); all_goals clear hF))
 refine Run.while (σ := Nat) (fun i => ⟨tms [(5, .ptr 5 0), (6, .ptr 6 0), (14, .int .i64 (i : Int))], mms [(5, .cells [.sl 1 (q04 x.vec), .sl 3 (q0j x.cloud)]), (6, .cells [.sl 1 (q04 y.vec), .sl 3 (q0j y.cloud)])]⟩) (fun i => i ≤ 16 ∧ ∀ j, j < i → vv x j = vv y j) (fun i => 16 - i) 0 (have hW := (aI @q02 @q03); q0z) ⟨Nat.zero_le _, fun j hj => absurd hj (Nat.not_lt_zero _)⟩ ?_
 rintro i ⟨hi, hp⟩
 unfold qh5
 by_cases hlt : i < 16
 ·have hne : vv x i ≠ vv y i → q7e (qmi x) (qmi y) = q67 (vv x i) (vv y i) := fun hn =>
   qnu (z0e x) (z0e y) i _ _ _ _ (q4s x hlt) (q4s y hlt) (fun j hj => by rw [q4s x (by omega), q4s y (by omega), hp j hj]) hn
  have heq : vv x i = vv y i → ∀ j, j < i + 1 → vv x j = vv y j := fun he j hj => by
   by_cases e : j = i
   ·rw [e]; exact he
   ·exact hp j (by omega)
  have k1 := qg2 (vv x i) (vv y i)
  unfold vv at hne heq k1
  by_cases hx : i < x.vec.length
  ·have g1 : (q04 x.vec)[i]? = some (.int .i64 (q26 x.vec i)) := q0v (by unfold q26; rw [List.getD_eq_getElem?_getD, List.getElem?_eq_getElem hx]; rfl)
   simp only [if_pos hx] at hne heq k1
   by_cases hy : i < y.vec.length
   ·have g2 : (q04 y.vec)[i]? = some (.int .i64 (q26 y.vec i)) := q0v (by unfold q26; rw [List.getD_eq_getElem?_getD, List.getElem?_eq_getElem hy]; rfl)
    simp only [if_pos hy] at hne heq k1
    (focus (have hF := (aI (aI @e1 @e2) (aI @g1 @g2)); (repeat' (first | refine go1 (k:=?_) | with_reducible refine Ny.of ?_ ?_ | (refine Hyp.of ?_; intro hc; (try simp only [hc]); (try simp only [Bh] at hc)))); all_goals clear hF))
    ·rw [hne hc]
     refine q01 [.int .i64 (q26 x.vec i), .int .i64 (q26 y.vec i)] (he := k1) (k:=?_)
     (focus (have hF := True.intro; (repeat' (first | refine go1 (k:=?_) | with_reducible refine Ny.of ?_ ?_ | (refine Hyp.of ?_; intro hc; (try simp only [hc]); (try simp only [Bh] at hc)))); all_goals clear hF))
     exact Fin.tmp' rfl rfl
    ·have h := heq hc
     (refine Fin.nextW (i + 1) ?_ (have hW := (aI @q02 @q03); q0z); (try dsimp only))
     exact ⟨⟨hlt, h⟩, by omega⟩
   ·simp only [if_neg hy] at hne heq k1
    (focus (have hF := (aI @e1 (aI @e2 @g1)); (repeat' (first | refine go1 (k:=?_) | with_reducible refine Ny.of ?_ ?_ | (refine Hyp.of ?_; intro hc; (try simp only [hc]); (try simp only [Bh] at hc)))); all_goals clear hF))
    ·rw [hne hc]
     refine q01 [.int .i64 (q26 x.vec i), .int .i64 0] (he := k1) (k:=?_)
     (focus (have hF := True.intro; (repeat' (first | refine go1 (k:=?_) | with_reducible refine Ny.of ?_ ?_ | (refine Hyp.of ?_; intro hc; (try simp only [hc]); (try simp only [Bh] at hc)))); all_goals clear hF))
     exact Fin.tmp' rfl rfl
    ·have h := heq hc
     (refine Fin.nextW (i + 1) ?_ (have hW := (aI @q02 @q03); q0z); (try dsimp only))
     exact ⟨⟨hlt, h⟩, by omega⟩
  ·simp only [if_neg hx] at hne heq k1
   by_cases hy : i < y.vec.length
   ·have g2 : (q04 y.vec)[i]? = some (.int .i64 (q26 y.vec i)) := q0v (by unfold q26; rw [List.getD_eq_getElem?_getD, List.getElem?_eq_getElem hy]; rfl)
    simp only [if_pos hy] at hne heq k1
    (focus (have hF := (aI @e1 (aI @e2 @g2)); (repeat' (first | refine go1 (k:=?_) | with_reducible refine Ny.of ?_ ?_ | (refine Hyp.of ?_; intro hc; (try simp only [hc]); (try simp only [Bh] at hc)))); all_goals clear hF))
    ·rw [hne hc]
     refine q01 [.int .i64 0, .int .i64 (q26 y.vec i)] (he := k1) (k:=?_)
     (focus (have hF := True.intro; (repeat' (first | refine go1 (k:=?_) | with_reducible refine Ny.of ?_ ?_ | (refine Hyp.of ?_; intro hc; (try simp only [hc]); (try simp only [Bh] at hc)))); all_goals clear hF))
     exact Fin.tmp' rfl rfl
    ·have h := heq hc
     (refine Fin.nextW (i + 1) ?_ (have hW := (aI @q02 @q03); q0z); (try dsimp only))
     exact ⟨⟨hlt, h⟩, by omega⟩
   ·simp only [if_neg hy] at hne heq k1
    (focus (have hF := (aI @e1 @e2); (repeat' (first | refine go1 (k:=?_) | with_reducible refine Ny.of ?_ ?_ | (refine Hyp.of ?_; intro hc; (try simp only [hc]); (try simp only [Bh] at hc)))); all_goals clear hF))
    have h := heq trivial
    (refine Fin.nextW (i + 1) ?_ (have hW := (aI @q02 @q03); q0z); (try dsimp only))
    exact ⟨⟨hlt, h⟩, by omega⟩
 ·have hv : z0e x = z0e y := by
   unfold z0e
   exact List.map_congr_left fun j hj => hp j (by rw [List.mem_range] at hj; omega)
  have k2 := q7f x.cloud y.cloud (by omega) (by omega)
  have hk : q7e (qmi x) (qmi y) = qgi x.cloud y.cloud := by
   unfold qmi
   rw [hv, qfr, qcx]
  rw [hk]
  (focus (have hF := (aI @e1 @e2); (repeat' (first | refine go1 (k:=?_) | with_reducible refine Ny.of ?_ ?_ | (refine Hyp.of ?_; intro hc; (try simp only [hc]); (try simp only [Bh] at hc)))); all_goals clear hF))
  refine q01 [.sl 3 (q0j x.cloud), .sl 3 (q0j y.cloud), .fn 148 []] (he := k2) (k:=?_)
  (focus (have hF := (aI @e1 @e2); (repeat' (first | refine go1 (k:=?_) | with_reducible refine Ny.of ?_ ?_ | (refine Hyp.of ?_; intro hc; (try simp only [hc]); (try simp only [Bh] at hc)))); all_goals clear hF))
  exact Fin.tmp' rfl rfl


theorem bool_eq {a b : Bool} (h : a = true ↔ b = true) : a = b := by cases a <;> cases b <;> simp_all


def qux : List SOp := [zO 1 (.box 25 (.tmp 0)),zO 2 (.assign (.const (.int .i64 0)))]
instance : Live qux := ⟨[0]⟩
def quw : List SOp := [zL 7 25 1,zO 8 (.call ⟨.value (.func 44),#[.tmp 7],#[25]⟩),zO 3 (.alloc 88),⟨none,.store 88 (.tmp 3) (.tmp 8),none⟩]
instance : Live quw := ⟨[1]⟩
def quv : List SOp := [zO 4 (.assign (.const (.int .i64 0)))]
instance : Live quv := ⟨[3]⟩
def quu : List SOp := [zO 5 (.assign (.const (.int .i64 0)))]
instance : Live quu := ⟨[3,4]⟩
def qut : List SOp := [zM 9 5,zO 10 (.binOp .lss 3 (.tmp 9) (.const (.int .i64 16)) 3)]
instance : Live qut := ⟨[3,4,5]⟩
def qus : List SOp := [zO 6 (.assign (.const (.int .i64 0)))]
instance : Live qus := ⟨[3,4,5]⟩
def qur : List SOp := [zM 13 6,zO 14 (.binOp .add 3 (.tmp 13) (.const (.int .i64 1)) 3),zM 15 5,zF 16 88 3 0,zI 17 86 16 15,zL 18 22 17,zO 19 (.call ⟨.builtin .len,#[.tmp 18],#[22]⟩),zO 20 (.binOp .lss 3 (.tmp 14) (.tmp 19) 3)]
instance : Live qur := ⟨[3,4,5,6]⟩
def quq : List SOp := [zM 23 4,zM 24 5,zF 25 88 3 0,zI 26 86 25 24,zL 27 22 26,zM 28 6,zO 29 (.binOp .add 3 (.tmp 28) (.const (.int .i64 1)) 3),zI 30 22 27 29,zL 31 3 30,zM 32 5,zF 33 88 3 0,zI 34 86 33 32,zL 35 22 34,zM 36 6,zI 37 22 35 36,zL 38 3 37,zO 39 (.binOp .sub 3 (.tmp 31) (.tmp 38) 3),zO 40 (.binOp .add 3 (.tmp 23) (.tmp 39) 3),zG 4 40]
instance : Live quq := ⟨[3,4,5,6]⟩
def qup : List SOp := [zM 21 6,zO 22 (.binOp .add 3 (.tmp 21) (.const (.int .i64 2)) 3),zG 6 22]
instance : Live qup := ⟨[3,4,5,6]⟩
def qin : List SOp := [zM 11 5,zO 12 (.binOp .add 3 (.tmp 11) (.const (.int .i64 1)) 3),zG 5 12]
instance : Live qin := ⟨[3,4,5]⟩
def qim : List SOp := [zM 41 4,zG 2 41]
instance : Live qim := ⟨[4]⟩
def qh2 : SC :=
 (.seq (.seq (.ops false qur) (.cond (.tmp 20) .skip (.exit 2))) (.seq (.block 3 (.ops true quq)) (.ops false qup)))
def qh3 : SC :=
 (.seq (.seq (.ops false qut) (.cond (.tmp 10) .skip (.exit 0))) (.seq (.block 1 (.seq (.ops false qus) (.block 2 (.loop qh2)))) (.ops false qin)))
def t_k135 : SC :=
 (.seq (.ops false qux) (.seq (.ops false quw) (.seq (.ops false quv) (.seq (.seq (.ops false quu) (.block 0 (.loop qh3))) (.seq (.ops false qim) .ret)))))
theorem it_k135 : FnIs Tryz.prog 135 42 [.tmp 2] t_k135 := ⟨Tryz.f135, _, Tryz.func135, rfl, rfl, rfl, rfl, by kernel_rfl⟩

def qxq : List SOp := [zO 1 (.box 25 (.tmp 0)),zO 2 (.assign (.const (.bool false)))]
instance : Live qxq := ⟨[0]⟩
def qxp : List SOp := [zL 3 25 1,zO 4 (.call ⟨.value (.func 135),#[.tmp 3],#[25]⟩),zO 5 (.binOp .eql 3 (.tmp 4) (.const (.int .i64 0)) 3),zG 2 5]
instance : Live qxp := ⟨[1]⟩
def t_k109 : SC :=
 (.seq (.ops false qxq) (.seq (.ops false qxp) .ret))
theorem it_k109 : FnIs Tryz.prog 109 6 [.tmp 2] t_k109 := ⟨Tryz.f109, _, Tryz.func109, rfl, rfl, rfl, rfl, by kernel_rfl⟩

def qun : List SOp := [zO 4 (.assign (.const (.int .i64 0)))]
instance : Live qun := ⟨[0,1]⟩
def qum : List SOp := [zM 5 0,zM 6 1,zO 7 (.binOp .lss 3 (.tmp 5) (.tmp 6) 3)]
instance : Live qum := ⟨[0,1]⟩
def qul : List SOp := [zO 4 (.assign (.const (.int .i64 (-1))))]
instance : Live qul := ⟨[]⟩
def quk : List SOp := [zM 8 0,zM 9 1,zO 10 (.binOp .gtr 3 (.tmp 8) (.tmp 9) 3)]
instance : Live quk := ⟨[0,1]⟩
def quj : List SOp := [zO 4 (.assign (.const (.int .i64 1)))]
instance : Live quj := ⟨[]⟩
def qui : List SOp := [zO 4 (.assign (.const (.int .i64 0)))]
instance : Live qui := ⟨[]⟩
def t_k136 : SC :=
 (.seq (.ops false qun) (.seq (.seq (.ops false qum) (.cond (.tmp 7) (.seq (.ops false qul) .ret) .skip)) (.seq (.seq (.ops false quk) (.cond (.tmp 10) (.seq (.ops false quj) .ret) .skip)) (.seq (.ops false qui) .ret))))
theorem it_k136 : FnIs Tryz.prog 136 11 [.tmp 4] t_k136 := ⟨Tryz.f136, _, Tryz.func136, rfl, rfl, rfl, rfl, by kernel_rfl⟩

def qxo : List SOp := [zO 2 (.box 25 (.tmp 0)),zO 3 (.box 25 (.tmp 1)),zO 4 (.assign (.const (.int .i64 0)))]
instance : Live qxo := ⟨[0,1]⟩
def qxn : List SOp := [zL 11 25 2,zO 12 (.call ⟨.value (.func 11),#[.tmp 11],#[25]⟩),⟨none,.store 25 (.tmp 2) (.tmp 12),none⟩]
instance : Live qxn := ⟨[2,3]⟩
def qxm : List SOp := [zL 13 25 3,zO 14 (.call ⟨.value (.func 11),#[.tmp 13],#[25]⟩),⟨none,.store 25 (.tmp 3) (.tmp 14),none⟩]
instance : Live qxm := ⟨[2,3]⟩
def qxl : List SOp := [zO 5 (.assign (.const (.int .i64 0)))]
instance : Live qxl := ⟨[2,3]⟩
def qxk : List SOp := [zM 15 5,zO 16 (.binOp .lss 3 (.tmp 15) (.const (.int .i64 16)) 3)]
instance : Live qxk := ⟨[2,3,5]⟩
def qxj : List SOp := [zO 6 (.assign (.const (.int .i64 0))),zO 7 (.assign (.const (.int .i64 0)))]
instance : Live qxj := ⟨[2,3,5]⟩
def qxi : List SOp := [zM 19 5,zF 20 25 2 0,zL 21 22 20,zO 22 (.call ⟨.builtin .len,#[.tmp 21],#[22]⟩),zO 23 (.binOp .lss 3 (.tmp 19) (.tmp 22) 3)]
instance : Live qxi := ⟨[2,3,5,6,7]⟩
def qxh : List SOp := [zF 24 25 2 0,zL 25 22 24,zM 26 5,zI 27 22 25 26,zL 28 3 27,zG 6 28]
instance : Live qxh := ⟨[2,3,5,7]⟩
def qxg : List SOp := [zM 29 5,zF 30 25 3 0,zL 31 22 30,zO 32 (.call ⟨.builtin .len,#[.tmp 31],#[22]⟩),zO 33 (.binOp .lss 3 (.tmp 29) (.tmp 32) 3)]
instance : Live qxg := ⟨[2,3,5,6,7]⟩
def qke : List SOp := [zF 34 25 3 0,zL 35 22 34,zM 36 5,zI 37 22 35 36,zL 38 3 37,zG 7 38]
instance : Live qke := ⟨[2,3,5,6]⟩
def qkd : List SOp := [zM 39 6,zM 40 7,zO 41 (.binOp .neq 3 (.tmp 39) (.tmp 40) 3)]
instance : Live qkd := ⟨[2,3,5,6,7]⟩
def qkc : List SOp := [zM 42 6,zM 43 7,zO 44 (.call ⟨.value (.func 136),#[.tmp 42,.tmp 43],#[3,3]⟩),zG 4 44]
instance : Live qkc := ⟨[6,7]⟩
def qkb : List SOp := [zM 17 5,zO 18 (.binOp .add 3 (.tmp 17) (.const (.int .i64 1)) 3),zG 5 18]
instance : Live qkb := ⟨[2,3,5]⟩
def qka : List SOp := [zO 8 (.assign (.const (.int .i64 0)))]
instance : Live qka := ⟨[2,3]⟩
def qk9 : List SOp := [zM 45 8,zF 46 25 2 1,zL 47 23 46,zO 48 (.call ⟨.builtin .len,#[.tmp 47],#[23]⟩),zO 49 (.binOp .lss 3 (.tmp 45) (.tmp 48) 3),zM 50 49,⟨some 51,.move (.tmp 8),some ((some 50),true)⟩,⟨some 52,.fieldAddr 25 (.tmp 3) 1,some ((some 50),true)⟩,⟨some 53,.load 23 (.tmp 52),some ((some 50),true)⟩,⟨some 54,.call ⟨.builtin .len,#[.tmp 53],#[23]⟩,some ((some 50),true)⟩,⟨some 55,.binOp .lss 3 (.tmp 51) (.tmp 54) 3,some ((some 50),true)⟩,zO 56 (.pick (.tmp 50) (.tmp 55) (.const (.bool false)))]
instance : Live qk9 := ⟨[2,3,8]⟩
def qbq : List SOp := [zF 59 25 2 1,zL 60 23 59,zM 61 8,zI 62 23 60 61,zL 63 82 62,zF 64 25 3 1,zL 65 23 64,zM 66 8,zI 67 23 65 66,zL 68 82 67,zO 9 (.alloc 82),zO 10 (.alloc 82),⟨none,.store 82 (.tmp 9) (.tmp 63),none⟩,⟨none,.store 82 (.tmp 10) (.tmp 68),none⟩]
instance : Live qbq := ⟨[2,3,8]⟩
instance : Rd qbq := ⟨fun j => j == 2 || j == 3⟩
def qk8 : List SOp := [zF 69 82 9 0,zL 70 3 69,zF 71 82 10 0,zL 72 3 71,zO 73 (.binOp .neq 3 (.tmp 70) (.tmp 72) 3)]
instance : Live qk8 := ⟨[2,3,8,9,10]⟩
def qk7 : List SOp := [zF 74 82 9 0,zL 75 3 74,zF 76 82 10 0,zL 77 3 76,zO 78 (.call ⟨.value (.func 136),#[.tmp 75,.tmp 77],#[3,3]⟩),zG 4 78]
instance : Live qk7 := ⟨[9,10]⟩
def qk6 : List SOp := [zF 79 82 9 1,zL 80 3 79,zF 81 82 10 1,zL 82 3 81,zO 83 (.binOp .neq 3 (.tmp 80) (.tmp 82) 3)]
instance : Live qk6 := ⟨[2,3,8,9,10]⟩
def qk5 : List SOp := [zF 84 82 9 1,zL 85 3 84,zF 86 82 10 1,zL 87 3 86,zO 88 (.call ⟨.value (.func 136),#[.tmp 85,.tmp 87],#[3,3]⟩),zG 4 88]
instance : Live qk5 := ⟨[9,10]⟩
def qk4 : List SOp := [zF 89 82 9 2,zL 90 3 89,zF 91 82 10 2,zL 92 3 91,zO 93 (.binOp .neq 3 (.tmp 90) (.tmp 92) 3)]
instance : Live qk4 := ⟨[2,3,8,9,10]⟩
def qk3 : List SOp := [zF 94 82 9 2,zL 95 3 94,zF 96 82 10 2,zL 97 3 96,zO 98 (.call ⟨.value (.func 136),#[.tmp 95,.tmp 97],#[3,3]⟩),zG 4 98]
instance : Live qk3 := ⟨[9,10]⟩
def qk2 : List SOp := [zM 57 8,zO 58 (.binOp .add 3 (.tmp 57) (.const (.int .i64 1)) 3),zG 8 58]
instance : Live qk2 := ⟨[2,3,8]⟩
def qk1 : List SOp := [zF 99 25 2 1,zL 100 23 99,zO 101 (.call ⟨.builtin .len,#[.tmp 100],#[23]⟩),zF 102 25 3 1,zL 103 23 102,zO 104 (.call ⟨.builtin .len,#[.tmp 103],#[23]⟩),zO 105 (.call ⟨.value (.func 136),#[.tmp 101,.tmp 104],#[3,3]⟩),zG 4 105]
instance : Live qk1 := ⟨[2,3]⟩
def qhc : SC :=
 (.seq (.seq (.ops false qxk) (.cond (.tmp 16) .skip (.exit 0))) (.seq (.block 1 (.seq (.ops false qxj) (.seq (.seq (.ops false qxi) (.cond (.tmp 23) (.ops false qxh) .skip)) (.seq (.seq (.ops false qxg) (.cond (.tmp 33) (.ops false qke) .skip)) (.seq (.ops false qkd) (.cond (.tmp 41) (.seq (.ops false qkc) .ret) .skip)))))) (.ops false qkb)))
def qhb : SC :=
 (.seq (.seq (.ops false qk9) (.cond (.tmp 56) .skip (.exit 2))) (.seq (.block 3 (.seq (.opsW [] qbq) (.seq (.seq (.ops false qk8) (.cond (.tmp 73) (.seq (.ops false qk7) .ret) .skip)) (.seq (.seq (.ops false qk6) (.cond (.tmp 83) (.seq (.ops false qk5) .ret) .skip)) (.seq (.ops false qk4) (.cond (.tmp 93) (.seq (.ops false qk3) .ret) .skip)))))) (.ops false qk2)))
def t_k110 : SC :=
 (.seq (.ops false qxo) (.seq (.ops false qxn) (.seq (.ops false qxm) (.seq (.seq (.ops false qxl) (.block 0 (.loop qhc))) (.seq (.seq (.ops false qka) (.block 2 (.loop qhb))) (.seq (.ops false qk1) .ret))))))
theorem it_k110 : FnIs Tryz.prog 110 106 [.tmp 4] t_k110 := ⟨Tryz.f110, _, Tryz.func110, rfl, rfl, rfl, rfl, by kernel_rfl⟩


theorem ev_k135 (p : Pst) (hw : wt p ≤ 50000000) : Ev (En Tryz.prog rfl).P 135 [q17 p] (.ret (.int .i64 (q88 p))) := by
 have c1 := ev_k44 p (by omega)
 refine Ev.of_body it_k135 (by simp) (Run.start ?_)
 unfold t_k135 q17
 have ht : TabLe (q1o [p]) (wt p) := by simpa using q35 [p]
 have hS := q4h
 have hm : ql1 [p] = (q1o [p]).map q1f := rfl
 have hp : q88 p = q21 (q1o [p]) 16 := rfl
 rw [hm] at c1
 rw [hp]
 have h16 : (q15 ((q1o [p]).map q1f)).length = 16 := by simp [q15, ht.1]
 have hone := q75 ((q1o [p]).map q1f)
 have hst := q4h ((q1o [p]).map q1f)
 (focus (have hF := True.intro; (repeat' (first | refine go1 (k:=?_) | with_reducible refine Ny.of ?_ ?_ | (refine Hyp.of ?_; intro hc; (try simp only [hc]); (try simp only [Bh] at hc)))); all_goals clear hF))
 refine q01 [q17 p] (he := c1) (k:=?_)
 clear c1 hm hp
 generalize q1o [p] = t at ht h16 hone hst ⊢
 (focus (have hF := (aI @h16 @hone); (repeat' (first | refine go1 (k:=?_) | with_reducible refine Ny.of ?_ ?_ | (refine Hyp.of ?_; intro hc; (try simp only [hc]); (try simp only [Bh] at hc)))); all_goals clear hF))
 refine Run.while (σ := Nat) (fun r => ⟨tms [(3, .ptr 3 0), (4, .int .i64 (q21 t r)), (5, .int .i64 (r : Int))], mms [(3, .cells (q15 (t.map q1f)))]⟩)
  (fun r => r ≤ 16) (fun r => 16 - r) 0 (have hW := @hst; q0z) (Nat.zero_le _) ?_
 intro r hr
 unfold qh3
 by_cases hlt : r < 16
 ·have hrt : r < t.length := by rw [ht.1]; exact hlt
  have hq := ht.2 r
  have g1 : (q15 (t.map q1f))[r]? = some (.sl 1 (q04 (q32 (q16 (t.getD r []))))) := by
   rw [qeb (by rw [List.length_map]; exact hrt)]
   simp [List.getD_eq_getElem?_getD, hrt, q1f]
  have hml := q4n (t.getD r [])
  have hcan := q2f (t.getD r [])
  have hb := q5o ht r
  have hr16 : (r : Int) * (1000000000 * (wt p : Int)) ≤ 16 * (1000000000 * (wt p : Int)) := Int.mul_le_mul_of_nonneg_right (by omega) (by omega)
  have hnx := q6a t r
  unfold qex at hnx
  generalize q16 (t.getD r []) = m at g1 hml hcan hnx
  have g2 : (q04 (q32 m)).length = 2 * m.length := by rw [q0h, qdo]
  (focus (have hF := (aI @h16 @hone); (repeat' (first | refine go1 (k:=?_) | with_reducible refine Ny.of ?_ ?_ | (refine Hyp.of ?_; intro hc; (try simp only [hc]); (try simp only [Bh] at hc)))); all_goals clear hF))
  refine Run.while (σ := Nat) (fun c => ⟨tms [(3, .ptr 3 0), (4, .int .i64 ((m.take c).foldl q1c (q21 t r))), (5, .int .i64 (r : Int)), (6, .int .i64 ((2 * c : Nat) : Int))], mms [(3, .cells (q15 (t.map q1f)))]⟩)
   (fun c => c ≤ m.length) (fun c => m.length - c) 0 (have hW := @hst; q0z) (Nat.zero_le _) ?_
  intro c hc
  unfold qh2
  by_cases hcl : c < m.length
  ·obtain ⟨x, hx⟩ : ∃ x, m[c]? = some x := ⟨m[c], by simp [hcl]⟩
   have ⟨k1, k2⟩ := qoq hx
   have k1' : (q04 (q32 m))[2 * c]? = some (.int .i64 x.1) := q0v k1
   have k2' : (q04 (q32 m))[2 * c + 1]? = some (.int .i64 (x.2 + 1)) := q0v k2
   have hxr := hcan.2 x (List.mem_of_getElem? hx)
   unfold okR at hxr
   have e8 : ((2 * c : Nat) : Int) + 1 = ((2 * c + 1 : Nat) : Int) := by omega
   have e9 : ((2 * c : Nat) : Int) + 2 = ((2 * (c + 1) : Nat) : Int) := by omega
   have hf : (m.take (c + 1)).foldl q1c (q21 t r) = (m.take c).foldl q1c (q21 t r) + (x.2 + 1 - x.1) := by
    rw [q3h q1c _ m hx]
    unfold q1c
    omega
   have hb2 := q7r (m := m.take c) (fun y hy => by have := hcan.2 y (List.mem_of_mem_take hy); unfold okR at this; omega) (q21 t r)
   have hb3 : (m.take c).length ≤ m.length := by rw [List.length_take]; omega
   generalize (m.take c).foldl q1c (q21 t r) = a at hf hb2 ⊢
   (focus (have hF := (aI (aI (aI @h16 @hone) (aI @g1 @g2)) (aI (aI @k1' @k2') (aI @e8 @e9))); (repeat' (first | refine go1 (k:=?_) | with_reducible refine Ny.of ?_ ?_ | (refine Hyp.of ?_; intro hc; (try simp only [hc]); (try simp only [Bh] at hc)))); all_goals clear hF))
   (refine Fin.nextW (c + 1) ?_ (have hW := (aI @hst @hf); q0z); (try dsimp only))
   omega
  ·have hce : (m.take c).foldl q1c (q21 t r) = q21 t (r + 1) := by
    rw [show c = m.length by omega, List.take_length, qdd, hnx]
   rw [hce]
   (focus (have hF := (aI (aI @h16 @hone) (aI @g1 @g2)); (repeat' (first | refine go1 (k:=?_) | with_reducible refine Ny.of ?_ ?_ | (refine Hyp.of ?_; intro hc; (try simp only [hc]); (try simp only [Bh] at hc)))); all_goals clear hF))
   (refine Fin.nextW (r + 1) ?_ (have hW := @hst; q0z); (try dsimp only))
   omega
 ·rw [show r = 16 by omega]
  (focus (have hF := @h16; (repeat' (first | refine go1 (k:=?_) | with_reducible refine Ny.of ?_ ?_ | (refine Hyp.of ?_; intro hc; (try simp only [hc]); (try simp only [Bh] at hc)))); all_goals clear hF))
  exact Fin.tmp' rfl rfl
theorem ev_k109 (p : Pst) (hp : wt p ≤ 50000000) : Ev (En Tryz.prog rfl).P 109 [q17 p] (.ret (.bool (decide (q88 p = 0)))) := by
 refine Ev.of_body it_k109 (by simp) (Run.start ?_)
 unfold t_k109 q17
 (focus (have hF := True.intro; (repeat' (first | refine go1 (k:=?_) | with_reducible refine Ny.of ?_ ?_ | (refine Hyp.of ?_; intro hc; (try simp only [hc]); (try simp only [Bh] at hc)))); all_goals clear hF))
 refine q01 [q17 p] (he := ev_k135 p hp) (k:=?_)
 (focus (have hF := True.intro; (repeat' (first | refine go1 (k:=?_) | with_reducible refine Ny.of ?_ ?_ | (refine Hyp.of ?_; intro hc; (try simp only [hc]); (try simp only [Bh] at hc)))); all_goals clear hF))
 exact Fin.tmp' rfl rfl
theorem qcl (a b : Int) : Ev (En Tryz.prog rfl).P 136 [.int .i64 a, .int .i64 b] (.ret (.int .i64 (q67 a b))) := by
 refine Ev.of_body it_k136 (by simp) (Run.start ?_)
 unfold t_k136
 by_cases h1 : a < b
 ·rw [show q67 a b = -1 from if_pos h1]
  (focus (have hF := True.intro; (repeat' (first | refine go1 (k:=?_) | with_reducible refine Ny.of ?_ ?_ | (refine Hyp.of ?_; intro hc; (try simp only [hc]); (try simp only [Bh] at hc)))); all_goals clear hF))
  exact Fin.tmp' rfl rfl
 ·by_cases h2 : b < a
  ·rw [show q67 a b = 1 by unfold q67; rw [if_neg h1, if_pos h2]]
   (focus (have hF := True.intro; (repeat' (first | refine go1 (k:=?_) | with_reducible refine Ny.of ?_ ?_ | (refine Hyp.of ?_; intro hc; (try simp only [hc]); (try simp only [Bh] at hc)))); all_goals clear hF))
   exact Fin.tmp' rfl rfl
  ·rw [show q67 a b = 0 by unfold q67; rw [if_neg h1, if_neg h2]]
   (focus (have hF := True.intro; (repeat' (first | refine go1 (k:=?_) | with_reducible refine Ny.of ?_ ?_ | (refine Hyp.of ?_; intro hc; (try simp only [hc]); (try simp only [Bh] at hc)))); all_goals clear hF))
   exact Fin.tmp' rfl rfl

theorem cmpS_def (s t : Sn) : cmpS s t = if q67 s.1 t.1 = 0 then (if q67 s.2.1 t.2.1 = 0 then q67 s.2.2 t.2.2 else q67 s.2.1 t.2.1) else q67 s.1 t.1 := by
 unfold cmpS
 simp only [orI]
 split
 ·split
  ·split
   ·rename_i h; exact h.symm
   ·rfl
  ·rfl
 ·rfl
theorem q5j {a b : Int} : q67 a b = 0 ↔ a = b := by
 unfold q67
 split
 ·constructor
  ·intro h; simp at h
  ·intro h; omega
 ·split
  ·constructor
   ·intro h; simp at h
   ·intro h; omega
  ·constructor
   ·intro _; omega
   ·intro _; rfl
theorem ev_k110 (p q : Pst) (hp : wt p ≤ 30000000) (hq : wt q ≤ 30000000) : Ev (En Tryz.prog rfl).P 110 [q17 p, q17 q] (.ret (.int .i64 (cmpP p q))) := by
 refine Ev.of_body it_k110 (by simp) (Run.start ?_)
 unfold t_k110 q17
 have c1 := qle p (by omega)
 have c2 := qle q (by omega)
 have h1 := q4v p
 have h2 := q4v q
 have hr : cmpP p q = q7e (qmi (q0r p)) (qmi (q0r q)) := rfl
 rw [hr]
 (focus (have hF := True.intro; (repeat' (first | refine go1 (k:=?_) | with_reducible refine Ny.of ?_ ?_ | (refine Hyp.of ?_; intro hc; (try simp only [hc]); (try simp only [Bh] at hc)))); all_goals clear hF))
 refine q01 [q17 p] (he := c1) (k:=?_)
 unfold q17
 (focus (have hF := True.intro; (repeat' (first | refine go1 (k:=?_) | with_reducible refine Ny.of ?_ ?_ | (refine Hyp.of ?_; intro hc; (try simp only [hc]); (try simp only [Bh] at hc)))); all_goals clear hF))
 refine q01 [q17 q] (he := c2) (k:=?_)
 clear c1 c2 hr
 generalize q0r p = x at h1 ⊢
 generalize q0r q = y at h2 ⊢
 unfold q17
 have hw1 : x.vec.length + x.cloud.length = wt x := rfl
 have hw2 : y.vec.length + y.cloud.length = wt y := rfl
 have e1 := q0h x.vec
 have e2 := q0h y.vec
 have e3 := q1i x.cloud
 have e4 := q1i y.cloud
 (focus (have hF := (aI @e1 @e2); (repeat' (first | refine go1 (k:=?_) | with_reducible refine Ny.of ?_ ?_ | (refine Hyp.of ?_; intro hc; (try simp only [hc]); (try simp only [Bh] at hc)))); all_goals clear hF))
 refine Run.while (σ := Nat) (fun i => ⟨tms [(2, .ptr 2 0), (3, .ptr 3 0), (5, .int .i64 (i : Int))], mms [(2, .cells [.sl 1 (q04 x.vec), .sl 3 (q0j x.cloud)]), (3, .cells [.sl 1 (q04 y.vec), .sl 3 (q0j y.cloud)])]⟩) (fun i => i ≤ 16 ∧ ∀ j, j < i → vv x j = vv y j) (fun i => 16 - i) 0 (have hW := (aI @q02 @q03); q0z) ⟨Nat.zero_le _, fun j hj => absurd hj (Nat.not_lt_zero _)⟩ ?_
 rintro i ⟨hi, hp⟩
 unfold qhc
 by_cases hlt : i < 16
 ·have hne : vv x i ≠ vv y i → q7e (qmi x) (qmi y) = q67 (vv x i) (vv y i) := fun hn =>
   qnu (z0e x) (z0e y) i _ _ _ _ (q4s x hlt) (q4s y hlt) (fun j hj => by rw [q4s x (by omega), q4s y (by omega), hp j hj]) hn
  have heq : vv x i = vv y i → ∀ j, j < i + 1 → vv x j = vv y j := fun he j hj => by
   by_cases e : j = i
   ·rw [e]; exact he
   ·exact hp j (by omega)
  have k1 := qcl (vv x i) (vv y i)
  unfold vv at hne heq k1
  by_cases hx : i < x.vec.length
  ·have g1 : (q04 x.vec)[i]? = some (.int .i64 (q26 x.vec i)) := q0v (by unfold q26; rw [List.getD_eq_getElem?_getD, List.getElem?_eq_getElem hx]; rfl)
   simp only [if_pos hx] at hne heq k1
   by_cases hy : i < y.vec.length
   ·have g2 : (q04 y.vec)[i]? = some (.int .i64 (q26 y.vec i)) := q0v (by unfold q26; rw [List.getD_eq_getElem?_getD, List.getElem?_eq_getElem hy]; rfl)
    simp only [if_pos hy] at hne heq k1
    (focus (have hF := (aI (aI @e1 @e2) (aI @g1 @g2)); (repeat' (first | refine go1 (k:=?_) | with_reducible refine Ny.of ?_ ?_ | (refine Hyp.of ?_; intro hc; (try simp only [hc]); (try simp only [Bh] at hc)))); all_goals clear hF))
    ·rw [hne hc]
     refine q01 [.int .i64 (q26 x.vec i), .int .i64 (q26 y.vec i)] (he := k1) (k:=?_)
     (focus (have hF := True.intro; (repeat' (first | refine go1 (k:=?_) | with_reducible refine Ny.of ?_ ?_ | (refine Hyp.of ?_; intro hc; (try simp only [hc]); (try simp only [Bh] at hc)))); all_goals clear hF))
     exact Fin.tmp' rfl rfl
    ·have h := heq hc
     (refine Fin.nextW (i + 1) ?_ (have hW := (aI @q02 @q03); q0z); (try dsimp only))
     exact ⟨⟨hlt, h⟩, by omega⟩
   ·simp only [if_neg hy] at hne heq k1
    (focus (have hF := (aI @e1 (aI @e2 @g1)); (repeat' (first | refine go1 (k:=?_) | with_reducible refine Ny.of ?_ ?_ | (refine Hyp.of ?_; intro hc; (try simp only [hc]); (try simp only [Bh] at hc)))); all_goals clear hF))
    ·rw [hne hc]
     refine q01 [.int .i64 (q26 x.vec i), .int .i64 0] (he := k1) (k:=?_)
     (focus (have hF := True.intro; (repeat' (first | refine go1 (k:=?_) | with_reducible refine Ny.of ?_ ?_ | (refine Hyp.of ?_; intro hc; (try simp only [hc]); (try simp only [Bh] at hc)))); all_goals clear hF))
     exact Fin.tmp' rfl rfl
    ·have h := heq hc
     (refine Fin.nextW (i + 1) ?_ (have hW := (aI @q02 @q03); q0z); (try dsimp only))
     exact ⟨⟨hlt, h⟩, by omega⟩
  ·simp only [if_neg hx] at hne heq k1
   by_cases hy : i < y.vec.length
   ·have g2 : (q04 y.vec)[i]? = some (.int .i64 (q26 y.vec i)) := q0v (by unfold q26; rw [List.getD_eq_getElem?_getD, List.getElem?_eq_getElem hy]; rfl)
    simp only [if_pos hy] at hne heq k1
    (focus (have hF := (aI @e1 (aI @e2 @g2)); (repeat' (first | refine go1 (k:=?_) | with_reducible refine Ny.of ?_ ?_ | (refine Hyp.of ?_; intro hc; (try simp only [hc]); (try simp only [Bh] at hc)))); all_goals clear hF))
    ·rw [hne hc]
     refine q01 [.int .i64 0, .int .i64 (q26 y.vec i)] (he := k1) (k:=?_)
     (focus (have hF := True.intro; (repeat' (first | refine go1 (k:=?_) | with_reducible refine Ny.of ?_ ?_ | (refine Hyp.of ?_; intro hc; (try simp only [hc]); (try simp only [Bh] at hc)))); all_goals clear hF))
     exact Fin.tmp' rfl rfl
    ·have h := heq hc
     (refine Fin.nextW (i + 1) ?_ (have hW := (aI @q02 @q03); q0z); (try dsimp only))
     exact ⟨⟨hlt, h⟩, by omega⟩
   ·simp only [if_neg hy] at hne heq k1
    (focus (have hF := (aI @e1 @e2); (repeat' (first | refine go1 (k:=?_) | with_reducible refine Ny.of ?_ ?_ | (refine Hyp.of ?_; intro hc; (try simp only [hc]); (try simp only [Bh] at hc)))); all_goals clear hF))
    have h := heq trivial
    (refine Fin.nextW (i + 1) ?_ (have hW := (aI @q02 @q03); q0z); (try dsimp only))
    exact ⟨⟨hlt, h⟩, by omega⟩
 ·have hv : z0e x = z0e y := by
   unfold z0e
   exact List.map_congr_left fun j hj => hp j (by rw [List.mem_range] at hj; omega)
  have hk : q7e (qmi x) (qmi y) = qgi x.cloud y.cloud := by
   unfold qmi
   rw [hv, qfr, qcx]
  rw [hk]
  (focus (have hF := (aI @e1 @e2); (repeat' (first | refine go1 (k:=?_) | with_reducible refine Ny.of ?_ ?_ | (refine Hyp.of ?_; intro hc; (try simp only [hc]); (try simp only [Bh] at hc)))); all_goals clear hF))
  refine Run.while (σ := Nat) (fun i => ⟨tms [(2, .ptr 2 0), (3, .ptr 3 0), (8, .int .i64 (i : Int))], mms [(2, .cells [.sl 1 (q04 x.vec), .sl 3 (q0j x.cloud)]), (3, .cells [.sl 1 (q04 y.vec), .sl 3 (q0j y.cloud)])]⟩) (fun i => i ≤ x.cloud.length ∧ i ≤ y.cloud.length ∧ qgi (x.cloud.drop i) (y.cloud.drop i) = qgi x.cloud y.cloud) (fun i => x.cloud.length - i) 0 (have hW := (aI @q02 @q03); q0z) ⟨Nat.zero_le _, Nat.zero_le _, by rw [List.drop_zero, List.drop_zero]⟩ ?_
  clear hlt hi hp
  rintro i ⟨hi, hi2, hp⟩
  unfold qhb
  by_cases hlt : i < x.cloud.length ∧ i < y.cloud.length
  ·obtain ⟨hla, hlb⟩ := hlt
   obtain ⟨s, hs⟩ : ∃ s, x.cloud[i]? = some s := ⟨x.cloud[i], by simp [hla]⟩
   obtain ⟨t, ht⟩ : ∃ t, y.cloud[i]? = some t := ⟨y.cloud[i], by simp [hlb]⟩
   have g1 := q27 hs
   have g2 := q27 ht
   obtain ⟨_, hxa⟩ := List.getElem?_eq_some_iff.1 hs
   obtain ⟨_, hyb⟩ := List.getElem?_eq_some_iff.1 ht
   have hd : qgi x.cloud y.cloud = if cmpS s t = 0 then qgi (x.cloud.drop (i + 1)) (y.cloud.drop (i + 1)) else cmpS s t := by
    rw [← hp, List.drop_eq_getElem_cons hla, List.drop_eq_getElem_cons hlb, hxa, hyb]
    rfl
   rw [cmpS_def] at hd
   have k1 := qcl s.1 t.1
   have k2 := qcl s.2.1 t.2.1
   have k3 := qcl s.2.2 t.2.2
   unfold encS at g1 g2
   by_cases q1 : s.1 = t.1
   ·rw [if_pos (q5j.2 q1)] at hd
    by_cases q2 : s.2.1 = t.2.1
    ·rw [if_pos (q5j.2 q2)] at hd
     by_cases q3 : s.2.2 = t.2.2
     ·rw [if_pos (q5j.2 q3)] at hd
      (focus (have hF := (aI (aI (aI @e1 @e2) (aI @e3 @e4)) (aI (aI @g1 @g2) (aI @q1 (aI @q2 @q3)))); (repeat' (first | refine go2 (k:=?_) | with_reducible refine Ny.of ?_ ?_ | (refine Hyp.of ?_; intro hc; (try simp only [hc]); (try simp only [Bh] at hc)))); all_goals clear hF))
      (refine Fin.nextW (i + 1) ?_ (have hW := (aI @q02 @q03); q0z); (try dsimp only))
      exact ⟨⟨hla, hlb, hd.symm⟩, by omega⟩
     ·rw [if_neg (fun h => q3 (q5j.1 h))] at hd
      rw [hd]
      (focus (have hF := (aI (aI (aI @e1 @e2) (aI @e3 @e4)) (aI (aI @g1 @g2) (aI @q1 (aI @q2 @q3)))); (repeat' (first | refine go2 (k:=?_) | with_reducible refine Ny.of ?_ ?_ | (refine Hyp.of ?_; intro hc; (try simp only [hc]); (try simp only [Bh] at hc)))); all_goals clear hF))
      refine q01 [.int .i64 s.2.2, .int .i64 t.2.2] (he := k3) (k:=?_)
      (focus (have hF := True.intro; (repeat' (first | refine go1 (k:=?_) | with_reducible refine Ny.of ?_ ?_ | (refine Hyp.of ?_; intro hc; (try simp only [hc]); (try simp only [Bh] at hc)))); all_goals clear hF))
      exact Fin.tmp' rfl rfl
    ·have hd2 : ¬ q67 s.2.1 t.2.1 = 0 := fun h => q2 (q5j.1 h)
     rw [if_neg hd2, if_neg hd2] at hd
     rw [hd]
     (focus (have hF := (aI (aI (aI @e1 @e2) (aI @e3 @e4)) (aI (aI @g1 @g2) (aI @q1 @q2))); (repeat' (first | refine go2 (k:=?_) | with_reducible refine Ny.of ?_ ?_ | (refine Hyp.of ?_; intro hc; (try simp only [hc]); (try simp only [Bh] at hc)))); all_goals clear hF))
     refine q01 [.int .i64 s.2.1, .int .i64 t.2.1] (he := k2) (k:=?_)
     (focus (have hF := True.intro; (repeat' (first | refine go1 (k:=?_) | with_reducible refine Ny.of ?_ ?_ | (refine Hyp.of ?_; intro hc; (try simp only [hc]); (try simp only [Bh] at hc)))); all_goals clear hF))
     exact Fin.tmp' rfl rfl
   ·have hd2 : ¬ q67 s.1 t.1 = 0 := fun h => q1 (q5j.1 h)
    rw [if_neg hd2, if_neg hd2] at hd
    rw [hd]
    (focus (have hF := (aI (aI @e1 (aI @e2 @e3)) (aI (aI @e4 @g1) (aI @g2 @q1))); (repeat' (first | refine go2 (k:=?_) | with_reducible refine Ny.of ?_ ?_ | (refine Hyp.of ?_; intro hc; (try simp only [hc]); (try simp only [Bh] at hc)))); all_goals clear hF))
    refine q01 [.int .i64 s.1, .int .i64 t.1] (he := k1) (k:=?_)
    (focus (have hF := True.intro; (repeat' (first | refine go1 (k:=?_) | with_reducible refine Ny.of ?_ ?_ | (refine Hyp.of ?_; intro hc; (try simp only [hc]); (try simp only [Bh] at hc)))); all_goals clear hF))
    exact Fin.tmp' rfl rfl
  ·have hd : qgi x.cloud y.cloud = q67 (x.cloud.length : Int) (y.cloud.length : Int) := by
    rw [← hp]
    by_cases ha : i < x.cloud.length
    ·have hb : ¬ i < y.cloud.length := fun h => hlt ⟨ha, h⟩
     rw [List.drop_eq_getElem_cons ha, List.drop_eq_nil_of_le (show y.cloud.length ≤ i by omega)]
     unfold q67
     rw [if_neg (by omega), if_pos (by omega)]
     rfl
    ·by_cases hb : i < y.cloud.length
     ·rw [List.drop_eq_nil_of_le (show x.cloud.length ≤ i by omega), List.drop_eq_getElem_cons hb]
      unfold q67
      rw [if_pos (by omega)]
      rfl
     ·rw [List.drop_eq_nil_of_le (show x.cloud.length ≤ i by omega), List.drop_eq_nil_of_le (show y.cloud.length ≤ i by omega)]
      unfold q67
      rw [if_neg (by omega), if_neg (by omega)]
      rfl
   rw [hd]
   have k1 := qcl (x.cloud.length : Int) (y.cloud.length : Int)
   by_cases ha : i < x.cloud.length
   ·have hb : ¬ i < y.cloud.length := fun h => hlt ⟨ha, h⟩
    (focus (have hF := (aI (aI @e1 @e2) (aI @e3 @e4)); (repeat' (first | refine go1 (k:=?_) | with_reducible refine Ny.of ?_ ?_ | (refine Hyp.of ?_; intro hc; (try simp only [hc]); (try simp only [Bh] at hc)))); all_goals clear hF))
    refine q01 [.int .i64 (x.cloud.length : Int), .int .i64 (y.cloud.length : Int)] (he := k1) (k:=?_)
    (focus (have hF := True.intro; (repeat' (first | refine go1 (k:=?_) | with_reducible refine Ny.of ?_ ?_ | (refine Hyp.of ?_; intro hc; (try simp only [hc]); (try simp only [Bh] at hc)))); all_goals clear hF))
    exact Fin.tmp' rfl rfl
   ·(focus (have hF := (aI (aI @e1 @e2) (aI @e3 @e4)); (repeat' (first | refine go1 (k:=?_) | with_reducible refine Ny.of ?_ ?_ | (refine Hyp.of ?_; intro hc; (try simp only [hc]); (try simp only [Bh] at hc)))); all_goals clear hF))
    refine q01 [.int .i64 (x.cloud.length : Int), .int .i64 (y.cloud.length : Int)] (he := k1) (k:=?_)
    (focus (have hF := True.intro; (repeat' (first | refine go1 (k:=?_) | with_reducible refine Ny.of ?_ ?_ | (refine Hyp.of ?_; intro hc; (try simp only [hc]); (try simp only [Bh] at hc)))); all_goals clear hF))
    exact Fin.tmp' rfl rfl

def qtb : List SOp := [zO 4 (.assign (.const (.int .i64 0)))]
instance : Live qtb := ⟨[0,1]⟩
def qta : List SOp := [zM 5 0,zM 6 1,zO 7 (.call ⟨.value (.func 156),#[.tmp 5,.tmp 6],#[9,9]⟩),zG 4 7]
instance : Live qta := ⟨[0,1]⟩
def t_k145 : SC :=
 (.seq (.ops false qtb) (.seq (.ops false qta) .ret))
theorem it_k145 : FnIs Tryz.prog 145 8 [.tmp 4] t_k145 := ⟨Tryz.f145, _, Tryz.func145, rfl, rfl, rfl, rfl, by kernel_rfl⟩

def qw3 : List SOp := [zO 4 (.assign (.const (.int .i64 0)))]
instance : Live qw3 := ⟨[0,1]⟩
def qw2 : List SOp := [zM 5 0,zM 6 1,zO 7 (.call ⟨.value (.func 145),#[.tmp 5,.tmp 6],#[9,9]⟩),zG 4 7]
instance : Live qw2 := ⟨[0,1]⟩
def t_k128 : SC :=
 (.seq (.ops false qw3) (.seq (.ops false qw2) .ret))
theorem it_k128 : FnIs Tryz.prog 128 8 [.tmp 4] t_k128 := ⟨Tryz.f128, _, Tryz.func128, rfl, rfl, rfl, rfl, by kernel_rfl⟩

def qyo : List SOp := [zO 2 (.box 84 (.tmp 0)),zO 3 (.box 84 (.tmp 1)),zO 4 (.assign (.const (.int .i64 0)))]
instance : Live qyo := ⟨[0,1]⟩
def qyn : List SOp := [zF 6 84 2 0,zL 7 9 6,zF 8 84 3 0,zL 9 9 8,zO 10 (.call ⟨.value (.func 128),#[.tmp 7,.tmp 9],#[9,9]⟩),zG 5 10]
instance : Live qyn := ⟨[2,3]⟩
def qym : List SOp := [zM 11 5,zO 12 (.binOp .neq 3 (.tmp 11) (.const (.int .i64 0)) 3)]
instance : Live qym := ⟨[2,3,5]⟩
def qyl : List SOp := [zM 13 5,zG 4 13]
instance : Live qyl := ⟨[5]⟩
def qyk : List SOp := [zF 14 84 2 1,zL 15 25 14,zF 16 84 3 1,zL 17 25 16,zO 18 (.call ⟨.value (.func 129),#[.tmp 15,.tmp 17],#[25,25]⟩),zG 4 18]
instance : Live qyk := ⟨[2,3]⟩
def t_k101 : SC :=
 (.seq (.ops false qyo) (.seq (.seq (.ops false qyn) (.seq (.ops false qym) (.cond (.tmp 12) (.seq (.ops false qyl) .ret) .skip))) (.seq (.ops false qyk) .ret)))
theorem it_k101 : FnIs Tryz.prog 101 19 [.tmp 4] t_k101 := ⟨Tryz.f101, _, Tryz.func101, rfl, rfl, rfl, rfl, by kernel_rfl⟩

def z5z : List SOp := [zO 2 (.box 84 (.tmp 0)),zO 3 (.box 84 (.tmp 1)),zO 4 (.assign (.const (.int .i64 0)))]
instance : Live z5z := ⟨[0,1]⟩
def z5y : List SOp := [zF 5 84 2 0,zL 6 9 5,zF 7 84 3 0,zL 8 9 7,zO 9 (.binOp .lss 9 (.tmp 6) (.tmp 8) 9)]
instance : Live z5y := ⟨[2,3]⟩
def z5x : List SOp := [zO 4 (.assign (.const (.int .i64 (-1))))]
instance : Live z5x := ⟨[]⟩
def z5w : List SOp := [zF 10 84 2 0,zL 11 9 10,zF 12 84 3 0,zL 13 9 12,zO 14 (.binOp .gtr 9 (.tmp 11) (.tmp 13) 9)]
instance : Live z5w := ⟨[2,3]⟩
def z5v : List SOp := [zO 4 (.assign (.const (.int .i64 1)))]
instance : Live z5v := ⟨[]⟩
def z5u : List SOp := [zF 15 84 2 1,zL 16 25 15,zF 17 84 3 1,zL 18 25 17,zO 19 (.call ⟨.value (.func 110),#[.tmp 16,.tmp 18],#[25,25]⟩),zG 4 19]
instance : Live z5u := ⟨[2,3]⟩
def t_k64 : SC :=
 (.seq (.ops false z5z) (.seq (.seq (.ops false z5y) (.cond (.tmp 9) (.seq (.ops false z5x) .ret) .skip)) (.seq (.seq (.ops false z5w) (.cond (.tmp 14) (.seq (.ops false z5v) .ret) .skip)) (.seq (.ops false z5u) .ret))))
theorem it_k64 : FnIs Tryz.prog 64 20 [.tmp 4] t_k64 := ⟨Tryz.f64, _, Tryz.func64, rfl, rfl, rfl, rfl, by kernel_rfl⟩

def qyu : List SOp := [zO 1 (.box 84 (.tmp 0)),zO 2 (.assign (.const (.int .i64 0)))]
instance : Live qyu := ⟨[0]⟩
def qyt : List SOp := [zF 3 84 1 0,zL 4 9 3,zO 5 (.binOp .neq 9 (.tmp 4) (.const (.string ⟨#[]⟩)) 9),zM 6 5,⟨some 7,.fieldAddr 84 (.tmp 1) 0,some ((some 6),true)⟩,⟨some 8,.load 9 (.tmp 7),some ((some 6),true)⟩,⟨some 9,.call ⟨.value (.func 124),#[.tmp 8],#[9]⟩,some ((some 6),true)⟩,⟨some 10,.unOp .not 4 (.tmp 9),some ((some 6),true)⟩,zO 11 (.pick (.tmp 6) (.tmp 10) (.const (.bool false)))]
instance : Live qyt := ⟨[1]⟩
def qys : List SOp := [zO 2 (.assign (.const (.int .i64 5)))]
instance : Live qys := ⟨[]⟩
def qyr : List SOp := [zF 12 84 1 1,zL 13 25 12,zO 14 (.call ⟨.value (.func 45),#[.tmp 13],#[25]⟩),zO 15 (.unOp .not 4 (.tmp 14)),zM 16 15,⟨some 17,.fieldAddr 84 (.tmp 1) 1,some ((some 16),false)⟩,⟨some 18,.load 25 (.tmp 17),some ((some 16),false)⟩,⟨some 19,.call ⟨.value (.func 127),#[.tmp 18],#[25]⟩,some ((some 16),false)⟩,zO 20 (.pick (.tmp 16) (.const (.bool true)) (.tmp 19))]
instance : Live qyr := ⟨[1]⟩
def qyq : List SOp := [zO 2 (.assign (.const (.int .i64 1)))]
instance : Live qyq := ⟨[]⟩
def qyp : List SOp := [zO 2 (.assign (.const (.int .i64 0)))]
instance : Live qyp := ⟨[]⟩
def t_k100 : SC :=
 (.seq (.ops false qyu) (.seq (.seq (.ops false qyt) (.cond (.tmp 11) (.seq (.ops false qys) .ret) .skip)) (.seq (.seq (.ops false qyr) (.cond (.tmp 20) (.seq (.ops false qyq) .ret) .skip)) (.seq (.ops false qyp) .ret))))
theorem it_k100 : FnIs Tryz.prog 100 21 [.tmp 2] t_k100 := ⟨Tryz.f100, _, Tryz.func100, rfl, rfl, rfl, rfl, by kernel_rfl⟩

def z65 : List SOp := [zO 1 (.box 84 (.tmp 0)),zO 2 (.assign (.const (.int .i64 0)))]
instance : Live z65 := ⟨[0]⟩
def z64 : List SOp := [zF 3 84 1 0,zL 4 9 3,zO 5 (.binOp .neq 9 (.tmp 4) (.const (.string ⟨#[]⟩)) 9),zM 6 5,⟨some 7,.fieldAddr 84 (.tmp 1) 0,some ((some 6),true)⟩,⟨some 8,.load 9 (.tmp 7),some ((some 6),true)⟩,⟨some 9,.call ⟨.value (.func 52),#[.tmp 8],#[9]⟩,some ((some 6),true)⟩,⟨some 10,.unOp .not 4 (.tmp 9),some ((some 6),true)⟩,zO 11 (.pick (.tmp 6) (.tmp 10) (.const (.bool false)))]
instance : Live z64 := ⟨[1]⟩
def z63 : List SOp := [zO 2 (.assign (.const (.int .i64 5)))]
instance : Live z63 := ⟨[]⟩
def z62 : List SOp := [zF 12 84 1 1,zL 13 25 12,zO 14 (.call ⟨.value (.func 22),#[.tmp 13],#[25]⟩),zO 15 (.unOp .not 4 (.tmp 14)),zM 16 15,⟨some 17,.fieldAddr 84 (.tmp 1) 1,some ((some 16),false)⟩,⟨some 18,.load 25 (.tmp 17),some ((some 16),false)⟩,⟨some 19,.call ⟨.value (.func 109),#[.tmp 18],#[25]⟩,some ((some 16),false)⟩,zO 20 (.pick (.tmp 16) (.const (.bool true)) (.tmp 19))]
instance : Live z62 := ⟨[1]⟩
def z61 : List SOp := [zO 2 (.assign (.const (.int .i64 1)))]
instance : Live z61 := ⟨[]⟩
def z60 : List SOp := [zO 2 (.assign (.const (.int .i64 0)))]
instance : Live z60 := ⟨[]⟩
def t_k63 : SC :=
 (.seq (.ops false z65) (.seq (.seq (.ops false z64) (.cond (.tmp 11) (.seq (.ops false z63) .ret) .skip)) (.seq (.seq (.ops false z62) (.cond (.tmp 20) (.seq (.ops false z61) .ret) .skip)) (.seq (.ops false z60) .ret))))
theorem it_k63 : FnIs Tryz.prog 63 21 [.tmp 2] t_k63 := ⟨Tryz.f63, _, Tryz.func63, rfl, rfl, rfl, rfl, by kernel_rfl⟩

def z7a : List SOp := [zO 2 (.assign (.const (.int .i64 0)))]
instance : Live z7a := ⟨[0]⟩
def z79 : List SOp := [zM 5 0,zO 6 (.call ⟨.builtin .len,#[.tmp 5],#[27]⟩),zO 7 (.move (.const (.int .i64 0)))]
instance : Live z79 := ⟨[0]⟩
def z78 : List SOp := [zO 8 (.binOp .lss 3 (.tmp 7) (.tmp 6) 3)]
instance : Live z78 := ⟨[0,5,6,7]⟩
def z75 : List SOp := [zM 9 7,zI 10 27 5 7,zL 11 84 10,zO 4 (.alloc 84),zG 3 9,⟨none,.store 84 (.tmp 4) (.tmp 11),none⟩]
instance : Live z75 := ⟨[0,5,6,7]⟩
def z74 : List SOp := [zL 12 84 4,zO 13 (.call ⟨.value (.func 100),#[.tmp 12],#[84]⟩),zO 14 (.binOp .neq 35 (.tmp 13) (.const (.int .i64 0)) 35),zM 15 14,⟨some 16,.move (.tmp 3),some ((some 15),false)⟩,⟨some 17,.binOp .gtr 3 (.tmp 16) (.const (.int .i64 0)) 3,some ((some 15),false)⟩,⟨some 18,.move (.tmp 17),some ((some 15),false)⟩,⟨some 19,.move (.tmp 0),some ((some 18),true)⟩,⟨some 20,.move (.tmp 3),some ((some 18),true)⟩,⟨some 21,.binOp .sub 3 (.tmp 20) (.const (.int .i64 1)) 3,some ((some 18),true)⟩,⟨some 22,.indexAddr 27 (.tmp 19) (.tmp 21),some ((some 18),true)⟩,⟨some 23,.load 84 (.tmp 22),some ((some 18),true)⟩,⟨some 24,.load 84 (.tmp 4),some ((some 18),true)⟩,⟨some 25,.call ⟨.value (.func 101),#[.tmp 23,.tmp 24],#[84,84]⟩,some ((some 18),true)⟩,⟨some 26,.binOp .geq 3 (.tmp 25) (.const (.int .i64 0)) 3,some ((some 18),true)⟩,⟨some 27,.pick (.tmp 18) (.tmp 26) (.const (.bool false)),some ((some 15),false)⟩,zO 28 (.pick (.tmp 15) (.const (.bool true)) (.tmp 27))]
instance : Live z74 := ⟨[0,3,4,5,6,7]⟩
def z73 : List SOp := [zO 2 (.assign (.const (.int .i64 1)))]
instance : Live z73 := ⟨[]⟩
def z72 : List SOp := [zO 29 (.binOp .add 3 (.tmp 7) (.const (.int .i64 1)) 3),zM 7 29]
instance : Live z72 := ⟨[0,5,6,7]⟩
def z71 : List SOp := [zO 2 (.assign (.const (.int .i64 0)))]
instance : Live z71 := ⟨[]⟩
def qp5 : SC :=
 (.seq (.ops false z78) (.seq (.cond (.tmp 8) .skip (.exit 0)) (.seq (.block 1 (.seq (.ops false z75) (.seq (.ops true z74) (.cond (.tmp 28) (.seq (.ops false z73) .ret) .skip)))) (.ops false z72))))
def t_k57 : SC :=
 (.seq (.ops false z7a) (.seq (.seq (.ops false z79) (.block 0 (.loop qp5))) (.seq (.ops false z71) .ret)))
theorem it_k57 : FnIs Tryz.prog 57 30 [.tmp 2] t_k57 := ⟨Tryz.f57, _, Tryz.func57, rfl, rfl, rfl, rfl, by kernel_rfl⟩

def za2 : List SOp := [zO 2 (.assign (.const (.int .i64 0)))]
instance : Live za2 := ⟨[0]⟩
def za1 : List SOp := [zO 3 (.assign (.const (.int .i64 0)))]
instance : Live za1 := ⟨[0]⟩
def za0 : List SOp := [zM 4 3,zM 5 0,zO 6 (.call ⟨.builtin .len,#[.tmp 5],#[27]⟩),zO 7 (.binOp .lss 3 (.tmp 4) (.tmp 6) 3)]
instance : Live za0 := ⟨[0,3]⟩
def z9z : List SOp := [zM 10 0,zM 11 3,zI 12 27 10 11,zL 13 84 12,zO 14 (.call ⟨.value (.func 63),#[.tmp 13],#[84]⟩),zO 15 (.binOp .neq 35 (.tmp 14) (.const (.int .i64 0)) 35)]
instance : Live z9z := ⟨[0,3]⟩
def z9y : List SOp := [zO 2 (.assign (.const (.int .i64 1)))]
instance : Live z9y := ⟨[]⟩
def z9x : List SOp := [zM 16 3,zO 17 (.binOp .gtr 3 (.tmp 16) (.const (.int .i64 0)) 3),zM 18 17,⟨some 19,.move (.tmp 0),some ((some 18),true)⟩,⟨some 20,.move (.tmp 3),some ((some 18),true)⟩,⟨some 21,.binOp .sub 3 (.tmp 20) (.const (.int .i64 1)) 3,some ((some 18),true)⟩,⟨some 22,.indexAddr 27 (.tmp 19) (.tmp 21),some ((some 18),true)⟩,⟨some 23,.load 84 (.tmp 22),some ((some 18),true)⟩,⟨some 24,.move (.tmp 0),some ((some 18),true)⟩,⟨some 25,.move (.tmp 3),some ((some 18),true)⟩,⟨some 26,.indexAddr 27 (.tmp 24) (.tmp 25),some ((some 18),true)⟩,⟨some 27,.load 84 (.tmp 26),some ((some 18),true)⟩,⟨some 28,.call ⟨.value (.func 64),#[.tmp 23,.tmp 27],#[84,84]⟩,some ((some 18),true)⟩,⟨some 29,.binOp .geq 3 (.tmp 28) (.const (.int .i64 0)) 3,some ((some 18),true)⟩,zO 30 (.pick (.tmp 18) (.tmp 29) (.const (.bool false)))]
instance : Live z9x := ⟨[0,3]⟩
def z9w : List SOp := [zO 2 (.assign (.const (.int .i64 1)))]
instance : Live z9w := ⟨[]⟩
def z9v : List SOp := [zM 8 3,zO 9 (.binOp .add 3 (.tmp 8) (.const (.int .i64 1)) 3),zG 3 9]
instance : Live z9v := ⟨[0,3]⟩
def z9u : List SOp := [zO 2 (.assign (.const (.int .i64 0)))]
instance : Live z9u := ⟨[]⟩
def qpf : SC :=
 (.seq (.seq (.ops false za0) (.cond (.tmp 7) .skip (.exit 0))) (.seq (.block 1 (.seq (.seq (.ops false z9z) (.cond (.tmp 15) (.seq (.ops false z9y) .ret) .skip)) (.seq (.ops true z9x) (.cond (.tmp 30) (.seq (.ops false z9w) .ret) .skip)))) (.ops false z9v)))
def t_k25 : SC :=
 (.seq (.ops false za2) (.seq (.seq (.ops false za1) (.block 0 (.loop qpf))) (.seq (.ops false z9u) .ret)))
theorem it_k25 : FnIs Tryz.prog 25 31 [.tmp 2] t_k25 := ⟨Tryz.f25, _, Tryz.func25, rfl, rfl, rfl, rfl, by kernel_rfl⟩

def z3o : List SOp := [zO 1 (.box 45 (.tmp 0)),zO 2 (.assign (.const (.int .i64 0)))]
instance : Live z3o := ⟨[0]⟩
def z3n : List SOp := [zF 4 45 1 0,zF 5 43 4 0,zL 6 3 5,zO 7 (.binOp .lss 3 (.tmp 6) (.const (.int .i64 0)) 3),zM 8 7,⟨some 9,.fieldAddr 45 (.tmp 1) 0,some ((some 8),false)⟩,⟨some 10,.fieldAddr 43 (.tmp 9) 0,some ((some 8),false)⟩,⟨some 11,.load 3 (.tmp 10),some ((some 8),false)⟩,⟨some 12,.binOp .geq 3 (.tmp 11) (.const (.int .i64 16)) 3,some ((some 8),false)⟩,zO 13 (.pick (.tmp 8) (.const (.bool true)) (.tmp 12)),zG 3 13]
instance : Live z3n := ⟨[1]⟩
def z3m : List SOp := [zO 2 (.assign (.const (.int .i64 3)))]
instance : Live z3m := ⟨[]⟩
def z3l : List SOp := [zF 15 45 1 0,zF 16 43 15 1,zL 17 3 16,zO 18 (.binOp .lss 3 (.tmp 17) (.const (.int .i64 1)) 3),zM 19 18,⟨some 20,.fieldAddr 45 (.tmp 1) 0,some ((some 19),false)⟩,⟨some 21,.fieldAddr 43 (.tmp 20) 1,some ((some 19),false)⟩,⟨some 22,.load 3 (.tmp 21),some ((some 19),false)⟩,⟨some 23,.binOp .gtr 3 (.tmp 22) (.const (.int .i64 1000000000)) 3,some ((some 19),false)⟩,zO 24 (.pick (.tmp 19) (.const (.bool true)) (.tmp 23)),zG 14 24]
instance : Live z3l := ⟨[1]⟩
def z3k : List SOp := [zO 2 (.assign (.const (.int .i64 2)))]
instance : Live z3k := ⟨[]⟩
def z3j : List SOp := [zF 26 45 1 1,zL 27 9 26,zO 28 (.call ⟨.value (.func 124),#[.tmp 27],#[9]⟩),zO 29 (.unOp .not 4 (.tmp 28)),zG 25 29]
instance : Live z3j := ⟨[1]⟩
def z3i : List SOp := [zO 2 (.assign (.const (.int .i64 5)))]
instance : Live z3i := ⟨[]⟩
def z3h : List SOp := [zF 31 45 1 2,zL 32 3 31,zO 33 (.binOp .lss 3 (.tmp 32) (.const (.int .i64 1)) 3),zM 34 33,⟨some 35,.fieldAddr 45 (.tmp 1) 2,some ((some 34),false)⟩,⟨some 36,.load 3 (.tmp 35),some ((some 34),false)⟩,⟨some 37,.binOp .gtr 3 (.tmp 36) (.const (.int .i64 1000000)) 3,some ((some 34),false)⟩,zO 38 (.pick (.tmp 34) (.const (.bool true)) (.tmp 37)),zG 30 38]
instance : Live z3h := ⟨[1]⟩
def z3g : List SOp := [zO 2 (.assign (.const (.int .i64 6)))]
instance : Live z3g := ⟨[]⟩
def qps : List SOp := [zO 2 (.assign (.const (.int .i64 0)))]
instance : Live qps := ⟨[]⟩
def t_k95 : SC :=
 (.seq (.ops false z3o) (.seq (.block 0 (.seq (.ops false z3n) (.cond (.tmp 3) (.seq (.ops false z3m) .ret) (.seq (.ops false z3l) (.cond (.tmp 14) (.seq (.ops false z3k) .ret) (.seq (.ops false z3j) (.cond (.tmp 25) (.seq (.ops false z3i) .ret) (.seq (.ops false z3h) (.cond (.tmp 30) (.seq (.ops false z3g) .ret) .skip))))))))) (.seq (.ops false qps) .ret)))
theorem it_k95 : FnIs Tryz.prog 95 39 [.tmp 2] t_k95 := ⟨Tryz.f95, _, Tryz.func95, rfl, rfl, rfl, rfl, by kernel_rfl⟩

def z3f : List SOp := [zO 2 (.box 43 (.tmp 0)),zO 3 (.box 43 (.tmp 1)),zO 4 (.assign (.const (.bool false)))]
instance : Live z3f := ⟨[0,1]⟩
def z3e : List SOp := [zF 5 43 2 0,zL 6 3 5,zF 7 43 3 0,zL 8 3 7,zO 9 (.binOp .lss 3 (.tmp 6) (.tmp 8) 3),zM 10 9,⟨some 11,.fieldAddr 43 (.tmp 2) 0,some ((some 10),false)⟩,⟨some 12,.load 3 (.tmp 11),some ((some 10),false)⟩,⟨some 13,.fieldAddr 43 (.tmp 3) 0,some ((some 10),false)⟩,⟨some 14,.load 3 (.tmp 13),some ((some 10),false)⟩,⟨some 15,.binOp .eql 3 (.tmp 12) (.tmp 14) 3,some ((some 10),false)⟩,⟨some 16,.move (.tmp 15),some ((some 10),false)⟩,⟨some 17,.fieldAddr 43 (.tmp 2) 1,some ((some 16),true)⟩,⟨some 18,.load 3 (.tmp 17),some ((some 16),true)⟩,⟨some 19,.fieldAddr 43 (.tmp 3) 1,some ((some 16),true)⟩,⟨some 20,.load 3 (.tmp 19),some ((some 16),true)⟩,⟨some 21,.binOp .lss 3 (.tmp 18) (.tmp 20) 3,some ((some 16),true)⟩,⟨some 22,.pick (.tmp 16) (.tmp 21) (.const (.bool false)),some ((some 10),false)⟩,zO 23 (.pick (.tmp 10) (.const (.bool true)) (.tmp 22)),zG 4 23]
instance : Live z3e := ⟨[2,3]⟩
def t_k96 : SC :=
 (.seq (.ops false z3f) (.seq (.ops false z3e) .ret))
theorem it_k96 : FnIs Tryz.prog 96 24 [.tmp 4] t_k96 := ⟨Tryz.f96, _, Tryz.func96, rfl, rfl, rfl, rfl, by kernel_rfl⟩

def z8f : List SOp := [zO 2 (.assign (.const (.int .i64 0)))]
instance : Live z8f := ⟨[0]⟩
def z8e : List SOp := [zM 5 0,zO 6 (.call ⟨.builtin .len,#[.tmp 5],#[26]⟩),zO 7 (.move (.const (.int .i64 0)))]
instance : Live z8e := ⟨[0]⟩
def z8d : List SOp := [zO 8 (.binOp .lss 3 (.tmp 7) (.tmp 6) 3)]
instance : Live z8d := ⟨[0,5,6,7]⟩
def z8c : List SOp := [zM 9 7,zI 10 26 5 7,zL 11 45 10,zO 4 (.alloc 45),zG 3 9,⟨none,.store 45 (.tmp 4) (.tmp 11),none⟩]
instance : Live z8c := ⟨[0,5,6,7]⟩
def z8b : List SOp := [zL 12 45 4,zO 13 (.call ⟨.value (.func 95),#[.tmp 12],#[45]⟩),zO 14 (.binOp .neq 35 (.tmp 13) (.const (.int .i64 0)) 35),zM 15 14,⟨some 16,.move (.tmp 3),some ((some 15),false)⟩,⟨some 17,.binOp .gtr 3 (.tmp 16) (.const (.int .i64 0)) 3,some ((some 15),false)⟩,⟨some 18,.move (.tmp 17),some ((some 15),false)⟩,⟨some 19,.move (.tmp 0),some ((some 18),true)⟩,⟨some 20,.move (.tmp 3),some ((some 18),true)⟩,⟨some 21,.binOp .sub 3 (.tmp 20) (.const (.int .i64 1)) 3,some ((some 18),true)⟩,⟨some 22,.indexAddr 26 (.tmp 19) (.tmp 21),some ((some 18),true)⟩,⟨some 23,.fieldAddr 45 (.tmp 22) 0,some ((some 18),true)⟩,⟨some 24,.load 43 (.tmp 23),some ((some 18),true)⟩,⟨some 25,.fieldAddr 45 (.tmp 4) 0,some ((some 18),true)⟩,⟨some 26,.load 43 (.tmp 25),some ((some 18),true)⟩,⟨some 27,.call ⟨.value (.func 96),#[.tmp 24,.tmp 26],#[43,43]⟩,some ((some 18),true)⟩,⟨some 28,.unOp .not 4 (.tmp 27),some ((some 18),true)⟩,⟨some 29,.pick (.tmp 18) (.tmp 28) (.const (.bool false)),some ((some 15),false)⟩,zO 30 (.pick (.tmp 15) (.const (.bool true)) (.tmp 29))]
instance : Live z8b := ⟨[0,3,4,5,6,7]⟩
def z8a : List SOp := [zO 2 (.assign (.const (.int .i64 1)))]
instance : Live z8a := ⟨[]⟩
def z89 : List SOp := [zO 31 (.binOp .add 3 (.tmp 7) (.const (.int .i64 1)) 3),zM 7 31]
instance : Live z89 := ⟨[0,5,6,7]⟩
def z88 : List SOp := [zO 2 (.assign (.const (.int .i64 0)))]
instance : Live z88 := ⟨[]⟩
def qp7 : SC :=
 (.seq (.ops false z8d) (.seq (.cond (.tmp 8) .skip (.exit 0)) (.seq (.block 1 (.seq (.ops false z8c) (.seq (.ops true z8b) (.cond (.tmp 30) (.seq (.ops false z8a) .ret) .skip)))) (.ops false z89))))
def t_k49 : SC :=
 (.seq (.ops false z8f) (.seq (.seq (.ops false z8e) (.block 0 (.loop qp7))) (.seq (.ops false z88) .ret)))
theorem it_k49 : FnIs Tryz.prog 49 32 [.tmp 2] t_k49 := ⟨Tryz.f49, _, Tryz.func49, rfl, rfl, rfl, rfl, by kernel_rfl⟩

def z7h : List SOp := [zO 1 (.box 43 (.tmp 0)),zO 2 (.assign (.const (.bool false)))]
instance : Live z7h := ⟨[0]⟩
def z7g : List SOp := [zF 3 43 1 0,zL 4 3 3,zO 5 (.binOp .geq 3 (.tmp 4) (.const (.int .i64 0)) 3),zM 6 5,⟨some 7,.fieldAddr 43 (.tmp 1) 0,some ((some 6),true)⟩,⟨some 8,.load 3 (.tmp 7),some ((some 6),true)⟩,⟨some 9,.binOp .lss 3 (.tmp 8) (.const (.int .i64 16)) 3,some ((some 6),true)⟩,zO 10 (.pick (.tmp 6) (.tmp 9) (.const (.bool false))),zM 11 10,⟨some 12,.fieldAddr 43 (.tmp 1) 1,some ((some 11),true)⟩,⟨some 13,.load 3 (.tmp 12),some ((some 11),true)⟩,⟨some 14,.binOp .geq 3 (.tmp 13) (.const (.int .i64 1)) 3,some ((some 11),true)⟩,zO 15 (.pick (.tmp 11) (.tmp 14) (.const (.bool false))),zM 16 15,⟨some 17,.fieldAddr 43 (.tmp 1) 1,some ((some 16),true)⟩,⟨some 18,.load 3 (.tmp 17),some ((some 16),true)⟩,⟨some 19,.binOp .leq 3 (.tmp 18) (.const (.int .i64 1000000000)) 3,some ((some 16),true)⟩,zO 20 (.pick (.tmp 16) (.tmp 19) (.const (.bool false))),zG 2 20]
instance : Live z7g := ⟨[1]⟩
def t_k51 : SC :=
 (.seq (.ops false z7h) (.seq (.ops false z7g) .ret))
theorem it_k51 : FnIs Tryz.prog 51 21 [.tmp 2] t_k51 := ⟨Tryz.f51, _, Tryz.func51, rfl, rfl, rfl, rfl, by kernel_rfl⟩

def zae : List SOp := [zO 1 (.box 25 (.tmp 0)),zO 2 (.assign (.const (.bool false)))]
instance : Live zae := ⟨[0]⟩
def zad : List SOp := [zL 3 25 1,zL 4 25 1,zO 5 (.call ⟨.value (.func 11),#[.tmp 4],#[25]⟩),zO 6 (.call ⟨.value (.func 14),#[.tmp 3,.tmp 5],#[25,25]⟩),zG 2 6]
instance : Live zad := ⟨[1]⟩
def t_k22 : SC :=
 (.seq (.ops false zae) (.seq (.ops true zad) .ret))
theorem it_k22 : FnIs Tryz.prog 22 7 [.tmp 2] t_k22 := ⟨Tryz.f22, _, Tryz.func22, rfl, rfl, rfl, rfl, by kernel_rfl⟩

def z7c : List SOp := [zO 2 (.box 43 (.tmp 0)),zO 3 (.box 43 (.tmp 1)),zO 4 (.assign (.const (.bool false)))]
instance : Live z7c := ⟨[0,1]⟩
def z7b : List SOp := [zF 5 43 2 0,zL 6 3 5,zF 7 43 3 0,zL 8 3 7,zO 9 (.binOp .lss 3 (.tmp 6) (.tmp 8) 3),zM 10 9,⟨some 11,.fieldAddr 43 (.tmp 2) 0,some ((some 10),false)⟩,⟨some 12,.load 3 (.tmp 11),some ((some 10),false)⟩,⟨some 13,.fieldAddr 43 (.tmp 3) 0,some ((some 10),false)⟩,⟨some 14,.load 3 (.tmp 13),some ((some 10),false)⟩,⟨some 15,.binOp .eql 3 (.tmp 12) (.tmp 14) 3,some ((some 10),false)⟩,⟨some 16,.move (.tmp 15),some ((some 10),false)⟩,⟨some 17,.fieldAddr 43 (.tmp 2) 1,some ((some 16),true)⟩,⟨some 18,.load 3 (.tmp 17),some ((some 16),true)⟩,⟨some 19,.fieldAddr 43 (.tmp 3) 1,some ((some 16),true)⟩,⟨some 20,.load 3 (.tmp 19),some ((some 16),true)⟩,⟨some 21,.binOp .lss 3 (.tmp 18) (.tmp 20) 3,some ((some 16),true)⟩,⟨some 22,.pick (.tmp 16) (.tmp 21) (.const (.bool false)),some ((some 10),false)⟩,zO 23 (.pick (.tmp 10) (.const (.bool true)) (.tmp 22)),zG 4 23]
instance : Live z7b := ⟨[2,3]⟩
def t_k53 : SC :=
 (.seq (.ops false z7c) (.seq (.ops false z7b) .ret))
theorem it_k53 : FnIs Tryz.prog 53 24 [.tmp 4] t_k53 := ⟨Tryz.f53, _, Tryz.func53, rfl, rfl, rfl, rfl, by kernel_rfl⟩

def zb1 : List SOp := [zO 2 (.assign (.const (.bool false)))]
instance : Live zb1 := ⟨[0]⟩
def zb0 : List SOp := [zO 3 (.assign (.const (.int .i64 0)))]
instance : Live zb0 := ⟨[0]⟩
def zaz : List SOp := [zM 4 3,zM 5 0,zO 6 (.call ⟨.builtin .len,#[.tmp 5],#[26]⟩),zO 7 (.binOp .lss 3 (.tmp 4) (.tmp 6) 3)]
instance : Live zaz := ⟨[0,3]⟩
def zay : List SOp := [zM 10 0,zM 11 3,zI 12 26 10 11,zF 13 45 12 0,zL 14 43 13,zO 15 (.call ⟨.value (.func 51),#[.tmp 14],#[43]⟩),zO 16 (.unOp .not 4 (.tmp 15)),zM 17 16,⟨some 18,.move (.tmp 0),some ((some 17),false)⟩,⟨some 19,.move (.tmp 3),some ((some 17),false)⟩,⟨some 20,.indexAddr 26 (.tmp 18) (.tmp 19),some ((some 17),false)⟩,⟨some 21,.fieldAddr 45 (.tmp 20) 1,some ((some 17),false)⟩,⟨some 22,.load 9 (.tmp 21),some ((some 17),false)⟩,⟨some 23,.call ⟨.value (.func 52),#[.tmp 22],#[9]⟩,some ((some 17),false)⟩,⟨some 24,.unOp .not 4 (.tmp 23),some ((some 17),false)⟩,zO 25 (.pick (.tmp 17) (.const (.bool true)) (.tmp 24)),zM 26 25,⟨some 27,.move (.tmp 0),some ((some 26),false)⟩,⟨some 28,.move (.tmp 3),some ((some 26),false)⟩,⟨some 29,.indexAddr 26 (.tmp 27) (.tmp 28),some ((some 26),false)⟩,⟨some 30,.fieldAddr 45 (.tmp 29) 2,some ((some 26),false)⟩,⟨some 31,.load 3 (.tmp 30),some ((some 26),false)⟩,⟨some 32,.binOp .lss 3 (.tmp 31) (.const (.int .i64 1)) 3,some ((some 26),false)⟩,zO 33 (.pick (.tmp 26) (.const (.bool true)) (.tmp 32)),zM 34 33,⟨some 35,.move (.tmp 0),some ((some 34),false)⟩,⟨some 36,.move (.tmp 3),some ((some 34),false)⟩,⟨some 37,.indexAddr 26 (.tmp 35) (.tmp 36),some ((some 34),false)⟩,⟨some 38,.fieldAddr 45 (.tmp 37) 2,some ((some 34),false)⟩,⟨some 39,.load 3 (.tmp 38),some ((some 34),false)⟩,⟨some 40,.binOp .gtr 3 (.tmp 39) (.const (.int .i64 1000000)) 3,some ((some 34),false)⟩,zO 41 (.pick (.tmp 34) (.const (.bool true)) (.tmp 40))]
instance : Live zay := ⟨[0,3]⟩
def zax : List SOp := [zO 2 (.assign (.const (.bool false)))]
instance : Live zax := ⟨[]⟩
def zaw : List SOp := [zM 42 3,zO 43 (.binOp .gtr 3 (.tmp 42) (.const (.int .i64 0)) 3),zM 44 43,⟨some 45,.move (.tmp 0),some ((some 44),true)⟩,⟨some 46,.move (.tmp 3),some ((some 44),true)⟩,⟨some 47,.binOp .sub 3 (.tmp 46) (.const (.int .i64 1)) 3,some ((some 44),true)⟩,⟨some 48,.indexAddr 26 (.tmp 45) (.tmp 47),some ((some 44),true)⟩,⟨some 49,.fieldAddr 45 (.tmp 48) 0,some ((some 44),true)⟩,⟨some 50,.load 43 (.tmp 49),some ((some 44),true)⟩,⟨some 51,.move (.tmp 0),some ((some 44),true)⟩,⟨some 52,.move (.tmp 3),some ((some 44),true)⟩,⟨some 53,.indexAddr 26 (.tmp 51) (.tmp 52),some ((some 44),true)⟩,⟨some 54,.fieldAddr 45 (.tmp 53) 0,some ((some 44),true)⟩,⟨some 55,.load 43 (.tmp 54),some ((some 44),true)⟩,⟨some 56,.call ⟨.value (.func 53),#[.tmp 50,.tmp 55],#[43,43]⟩,some ((some 44),true)⟩,⟨some 57,.unOp .not 4 (.tmp 56),some ((some 44),true)⟩,zO 58 (.pick (.tmp 44) (.tmp 57) (.const (.bool false)))]
instance : Live zaw := ⟨[0,3]⟩
def zav : List SOp := [zO 2 (.assign (.const (.bool false)))]
instance : Live zav := ⟨[]⟩
def zau : List SOp := [zM 8 3,zO 9 (.binOp .add 3 (.tmp 8) (.const (.int .i64 1)) 3),zG 3 9]
instance : Live zau := ⟨[0,3]⟩
def zat : List SOp := [zO 2 (.assign (.const (.bool true)))]
instance : Live zat := ⟨[]⟩
def qpg : SC :=
 (.seq (.seq (.ops false zaz) (.cond (.tmp 7) .skip (.exit 0))) (.seq (.block 1 (.seq (.seq (.ops false zay) (.cond (.tmp 41) (.seq (.ops false zax) .ret) .skip)) (.seq (.ops true zaw) (.cond (.tmp 58) (.seq (.ops false zav) .ret) .skip)))) (.ops false zau)))
def t_k16 : SC :=
 (.seq (.ops false zb1) (.seq (.seq (.ops false zb0) (.block 0 (.loop qpg))) (.seq (.ops false zat) .ret)))
theorem it_k16 : FnIs Tryz.prog 16 59 [.tmp 2] t_k16 := ⟨Tryz.f16, _, Tryz.func16, rfl, rfl, rfl, rfl, by kernel_rfl⟩

end Go.Proofs.YtkionmommpgcmaaGreat.Avm
