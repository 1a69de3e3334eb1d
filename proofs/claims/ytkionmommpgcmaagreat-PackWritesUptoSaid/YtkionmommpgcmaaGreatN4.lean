/- Part 4 of the proof: lemmas. -/
import Derived.Test.YtkionmommpgcmaaGreatN3
import Derived.Test.YtkionmommpgcmaaGreatProg
import Derived.KernelRfl
import Derived.Lib.Bytealg
import Derived.Sort.Walk0
set_option maxRecDepth 100000
set_option maxHeartbeats 4000000
set_option linter.unusedVariables false
set_option linter.unusedSimpArgs false
set_option linter.unusedSectionVars false
set_option linter.defProp false
namespace Go.Proofs.YtkionmommpgcmaaGreat.Avm
open Go.Proofs
def q37 (l : List Sn) : Int := match l.getLast? with | some s => s.1 | none => 0
theorem q4x (l : List Sn) (s : Sn) : q37 (l ++ [s]) = s.1 := by simp [q37]
def qan (vec : List Int) (sf : List Sn) (s : Sn) : Bs := q0u (s.1 - q37 sf).toNat ++ (q0u (s.2.1 - q1a vec s.1.toNat sf).toNat ++ q0u (s.2.2 - s.2.1).toNat)
def q1z (vec : List Int) : List Sn → List Sn → Bs
 | _, [] => []
 | sf, s :: l => qan vec sf s ++ q1z vec (sf ++ [s]) l
def q9k (l : List Int) : Bs := l.flatMap fun x => q0u x.toNat
def q34 (p : Pst) : Bs := q0u p.vec.length ++ (q9k p.vec ++ (q0u p.cloud.length ++ q1z p.vec [] p.cloud))
theorem q5m (vec : List Int) (s : Sn) : ∀ (l sf : List Sn), q1z vec sf (l ++ [s]) = q1z vec sf l ++ qan vec (sf ++ l) s
 | [], sf => by simp [q1z]
 | x :: l, sf => by simp [q1z, q5m vec s l]
theorem qn8 : q9k [] = [] := rfl
theorem qda (vec : List Int) (sf : List Sn) : q1z vec sf [] = [] := rfl
theorem qff (l : List Int) (x : Int) : q9k (l ++ [x]) = q9k l ++ q0u x.toNat := by simp [q9k]
theorem qdj {l : List Int} (h : ∀ x ∈ l, x ≤ 9000000000) : (q9k l).length ≤ 10 * l.length := by
 induction l with
 | nil => simp [q9k]
 | cons x l ih =>
  have h1 := ih fun y hy => h y (by simp [hy])
  have h2 := h x (by simp)
  have h3 := q08 (n := x.toNat) (by omega)
  simp only [q9k, List.flatMap_cons, List.length_append, List.length_cons] at h1 ⊢
  omega
def spanW (vec : List Int) (sf : List Sn) (s : Sn) : Prop := 0 ≤ q37 sf ∧ q37 sf ≤ s.1 ∧ s.1 ≤ 1000000 ∧ q1a vec s.1.toNat sf ≤ s.2.1 ∧ s.2.1 ≤ s.2.2 ∧ s.2.2 ≤ 1000000000
theorem z18 {vec : List Int} {sf : List Sn} {s : Sn} (h : spanW vec sf s) (hl : 0 ≤ q1a vec s.1.toNat sf) : (qan vec sf s).length ≤ 30 := by
 obtain ⟨h1, h2, h3, h4, h5, h6⟩ := h
 have a1 := q08 (n := (s.1 - q37 sf).toNat) (by omega)
 have a2 := q08 (n := (s.2.1 - q1a vec s.1.toNat sf).toNat) (by omega)
 have a3 := q08 (n := (s.2.2 - s.2.1).toNat) (by omega)
 simp only [qan, List.length_append]
 omega
structure PW (p : Pst) : Prop where
 vl : p.vec.length ≤ 1000000000
 v : okVr p.vec
 cl : p.cloud.length ≤ 1000000000
 c : okCr p.cloud
 s : ∀ i s, p.cloud[i]? = some s → spanW p.vec (p.cloud.take i) s
theorem PW.least {p : Pst} (h : PW p) (i r : Nat) : 2 ≤ q1a p.vec r (p.cloud.take i) ∧ q1a p.vec r (p.cloud.take i) ≤ 1000000002 := q66 h.v fun s hs => h.c s (List.mem_of_mem_take hs)
theorem q21 {α : Type} {l : List α} {i : Nat} {x : α} (h : l[i]? = some x) : l.take (i + 1) = l.take i ++ [x] := by
 rw [List.take_add_one, h]
 rfl
theorem q6u {p : Pst} (h : PW p) : ∀ i, i ≤ p.cloud.length → (q1z p.vec [] (p.cloud.take i)).length ≤ 30 * i
 | 0, _ => by simp [q1z]
 | i + 1, hi => by
  have hg : p.cloud[i]? = some (p.cloud[i]) := List.getElem?_eq_getElem (by omega)
  rw [q21 hg, q5m, List.nil_append, List.length_append]
  have h1 := q6u h i (by omega)
  have h2 := z18 (h.s i _ hg) (by have := h.least i (p.cloud[i]).1.toNat; omega)
  omega
theorem zbe (b : Bs) (p : Pst) (hb : b.length ≤ 700000000000) (hp : PW p) : EvW (En Tryz.prog rfl).P 47 [q1k p] b (b ++ q34 p) := by
 refine EvW.of_body it_k47 (by simp) fun v => Run.start ?_
 unfold t_k47
 have e1 := q0b p.vec
 have e2 := q16 p.cloud
 have hvl := hp.vl
 have hcl := hp.cl
 unfold q1k
 (focus (have hF := (aI @e1 @e2); (repeat' (first | refine go1 (k:=?_) | with_reducible refine Ny.of ?_ ?_ | (refine Hyp.of ?_; intro hc; (try simp only [hc]); (try simp only [Bh] at hc)))); all_goals clear hF))
 ((with_reducible apply toW); refine stW (fun j => j == 3) (k:=?_))
 (focus (have hF := (aI @e1 @e2); (repeat' (first | refine go1 (k:=?_) | with_reducible refine Ny.of ?_ ?_ | (refine Hyp.of ?_; intro hc; (try simp only [hc]); (try simp only [Bh] at hc)))); all_goals clear hF))
 refine q7p [.int .i64 (p.vec.length : Int)] (he := q4j b p.vec.length (by omega) (by omega)) (kk := ?_)
 have l1 := q08 (n := p.vec.length) (by omega)
 have l2 := q08 (n := p.cloud.length) (by omega)
 generalize hb1 : b ++ q0u p.vec.length = b1
 have hl1 : b1.length ≤ b.length + 10 := by rw [← hb1, List.length_append]; omega
 (focus (have hF := (aI @e1 @e2); (repeat' (first | refine go1 (k:=?_) | with_reducible refine Ny.of ?_ ?_ | (refine Hyp.of ?_; intro hc; (try simp only [hc]); (try simp only [Bh] at hc)))); all_goals clear hF))
 refine Run.while (σ := Nat) (fun i => ⟨tms [(0, .ptr 900000 0), (3, .ptr 3 0), (17, .sl 1 (q04 p.vec)), (18, .int .i64 (p.vec.length : Int)), (19, .int .i64 (i : Int))], mms [(3, .cells [.sl 1 (q04 p.vec), .sl 3 (q0e p.cloud)]), (900000, .cells (wrC (b1 ++ q9k (p.vec.take i)))), (1900000, nt v)]⟩)
  (fun i => i ≤ p.vec.length) (fun i => p.vec.length - i) 0 (have hW := (aI @q24 (aI @qn8 @List.append_nil.{0})); q0v) (Nat.zero_le _) ?_
 intro i hi
 unfold qnx
 have hvb : (q9k (p.vec.take i)).length ≤ 10 * i := by
  have := qdj (l := p.vec.take i) (fun x hx => by have := hp.v x (List.mem_of_mem_take hx); omega)
  rw [List.length_take] at this
  omega
 by_cases hlt : i < p.vec.length
 ·have hlt2 : (i : Int) < (p.vec.length : Int) := by omega
  have hg : p.vec[i]? = some (p.vec[i]) := List.getElem?_eq_getElem hlt
  have hx := hp.v _ (List.getElem_mem hlt)
  obtain ⟨n, hn⟩ : ∃ n : Nat, p.vec[i] = (n : Int) := ⟨p.vec[i].toNat, by omega⟩
  rw [hn] at hg hx
  have g1 := q0q hg
  have hsn : b1 ++ q9k (p.vec.take (i + 1)) = b1 ++ q9k (p.vec.take i) ++ q0u n := by rw [q21 hg, qff, List.append_assoc]; rfl
  (focus (have hF := (aI (aI @e1 @e2) (aI @hlt2 @g1)); (repeat' (first | refine go1 (k:=?_) | with_reducible refine Ny.of ?_ ?_ | (refine Hyp.of ?_; intro hc; (try simp only [hc]); (try simp only [Bh] at hc)))); all_goals clear hF))
  refine stWr 900000 [.int .i64 (n : Int)] (he := q4j _ n (by simp only [List.length_append]; omega) (by omega)) (kk := ?_)
  have w1 := q0t (i := i) (by omega)
  rw [← hsn]
  (focus (have hF := (aI @e1 (aI @e2 @w1)); (repeat' (first | refine go1 (k:=?_) | with_reducible refine Ny.of ?_ ?_ | (refine Hyp.of ?_; intro hc; (try simp only [hc]); (try simp only [Bh] at hc)))); all_goals clear hF))
  (refine Fin.nextW (i + 1) ?_ (have hW := @q24; q0v); (try dsimp only))
  omega
 ·have hin : i = p.vec.length := by omega
  subst hin
  have hlt2 : ¬ (p.vec.length : Int) < (p.vec.length : Int) := by omega
  rw [List.take_length] at hvb ⊢
  generalize hb2 : b1 ++ q9k p.vec = b2
  have hl2 : b2.length ≤ b1.length + 10 * p.vec.length := by rw [← hb2, List.length_append]; omega
  (focus (have hF := (aI @e1 (aI @e2 @hlt2)); (repeat' (first | refine go1 (k:=?_) | with_reducible refine Ny.of ?_ ?_ | (refine Hyp.of ?_; intro hc; (try simp only [hc]); (try simp only [Bh] at hc)))); all_goals clear hF))
  ((with_reducible apply toW); refine stW (fun j => j == 3) (k:=?_))
  (focus (have hF := (aI @e1 @e2); (repeat' (first | refine go1 (k:=?_) | with_reducible refine Ny.of ?_ ?_ | (refine Hyp.of ?_; intro hc; (try simp only [hc]); (try simp only [Bh] at hc)))); all_goals clear hF))
  refine q7p [.int .i64 (p.cloud.length : Int)] (he := q4j b2 p.cloud.length (by omega) (by omega)) (kk := ?_)
  generalize hb3 : b2 ++ q0u p.cloud.length = b3
  have hl3 : b3.length ≤ b2.length + 10 := by rw [← hb3, List.length_append]; omega
  have hfin : b3 ++ q1z p.vec [] p.cloud = b ++ q34 p := by rw [← hb3, ← hb2, ← hb1]; simp [q34]
  (focus (have hF := (aI @e1 @e2); (repeat' (first | refine go1 (k:=?_) | with_reducible refine Ny.of ?_ ?_ | (refine Hyp.of ?_; intro hc; (try simp only [hc]); (try simp only [Bh] at hc)))); all_goals clear hF))
  refine Run.while (σ := Nat) (fun i => ⟨tms [(0, .ptr 900000 0), (3, .ptr 3 0), (6, .int .i64 (q37 (p.cloud.take i))), (37, .sl 3 (q0e p.cloud)), (38, .int .i64 (p.cloud.length : Int)), (39, .int .i64 (i : Int))], mms [(3, .cells [.sl 1 (q04 p.vec), .sl 3 (q0e p.cloud)]), (900000, .cells (wrC (b3 ++ q1z p.vec [] (p.cloud.take i)))), (1900000, nt v)]⟩)
   (fun i => i ≤ p.cloud.length) (fun i => p.cloud.length - i) 0 (have hW := (aI @q24 (aI @qda @List.append_nil.{0})); q0v) (Nat.zero_le _) ?_
  intro i hi
  unfold qnw
  have hcb := q6u hp i hi
  by_cases hlt : i < p.cloud.length
  ·have hlt2 : (i : Int) < (p.cloud.length : Int) := by omega
   have hg : p.cloud[i]? = some (p.cloud[i]) := List.getElem?_eq_getElem hlt
   have g1 := q1x hg
   obtain ⟨q1, q2, q3, q4, q5, q6⟩ := hp.s i _ hg
   have hsn := q21 hg
   generalize p.cloud[i] = s at hg g1 q1 q2 q3 q4 q5 q6 hsn
   obtain ⟨sr, lo, hi'⟩ := s
   simp only at q1 q2 q3 q4 q5 q6
   obtain ⟨r, rfl⟩ : ∃ r : Nat, sr = (r : Int) := ⟨sr.toNat, by omega⟩
   simp only [Int.toNat_natCast] at q4
   obtain ⟨q7, q8⟩ := hp.least i r
   have g2 : (q0e p.cloud)[i]? = some (.agg [.int .i64 (r : Int), .int .i64 lo, .int .i64 hi']) := g1
   generalize hrp : q37 (p.cloud.take i) = rp at *
   generalize hls : q1a p.vec r (p.cloud.take i) = ls at *
   generalize hb4 : b3 ++ q1z p.vec [] (p.cloud.take i) = b4
   have hl4 : b4.length ≤ b3.length + 30 * i := by rw [← hb4, List.length_append]; omega
   (focus (have hF := (aI (aI @e1 @e2) (aI @hlt2 @g2)); (repeat' (first | refine go1 (k:=?_) | with_reducible refine Ny.of ?_ ?_ | (refine Hyp.of ?_; intro hc; (try simp only [hc]); (try simp only [Bh] at hc)))); all_goals clear hF))
   have hsp : qan p.vec (p.cloud.take i) ((r : Int), lo, hi') = q0u ((r : Int) - rp).toNat ++ (q0u (lo - ls).toNat ++ q0u (hi' - lo).toNat) := by
    simp only [qan, Int.toNat_natCast, hrp, hls]
   have w1 : IntKind.i64.wrap ((r : Int) - rp) = ((((r : Int) - rp).toNat : Nat) : Int) := by rw [q0a (by omega)]; omega
   have w2 : IntKind.i64.wrap (lo - ls) = (((lo - ls).toNat : Nat) : Int) := by rw [q0a (by omega)]; omega
   have w3 : IntKind.i64.wrap (hi' - lo) = (((hi' - lo).toNat : Nat) : Int) := by rw [q0a (by omega)]; omega
   have n1 := q08 (n := ((r : Int) - rp).toNat) (by omega)
   have n2 := q08 (n := (lo - ls).toNat) (by omega)
   have o1 : ((r : Int) - rp).toNat < 9223372036854775808 := by omega
   have o2 : (lo - ls).toNat < 9223372036854775808 := by omega
   have o3 : (hi' - lo).toNat < 9223372036854775808 := by omega
   have c1 := ev_k93 p.vec r (p.cloud.take i) hvl (by rw [List.length_take]; omega) (by omega) (fun x hx => by have := hp.v x hx; omega) (fun s hs => by have := hp.c s (List.mem_of_mem_take hs); omega)
   rw [hls] at c1
   have k1 : (q0e p.cloud).take i = q0e (p.cloud.take i) := by simp [q0e]
   generalize ((r : Int) - rp).toNat = m1 at *
   generalize (lo - ls).toNat = m2 at *
   generalize hm3 : (hi' - lo).toNat = m3 at *
   ((with_reducible apply toW); refine stW (fun j => j == 3 || j == 8) (k:=?_))
   (focus (have hF := (aI @e1 (aI @e2 @w1)); (repeat' (first | refine go1 (k:=?_) | with_reducible refine Ny.of ?_ ?_ | (refine Hyp.of ?_; intro hc; (try simp only [hc]); (try simp only [Bh] at hc)))); all_goals clear hF))
   refine q7p [.int .i64 (m1 : Int)] (he := q4j b4 m1 (by omega) (by omega)) (kk := ?_)
   (focus (have hF := (aI @e1 @e2); (repeat' (first | refine go1 (k:=?_) | with_reducible refine Ny.of ?_ ?_ | (refine Hyp.of ?_; intro hc; (try simp only [hc]); (try simp only [Bh] at hc)))); all_goals clear hF))
   ((with_reducible apply toW); refine stW (fun j => j == 3 || j == 8) (k:=?_))
   (focus (have hF := (aI @e1 (aI @e2 @k1)); (repeat' (first | refine go1 (k:=?_) | with_reducible refine Ny.of ?_ ?_ | (refine Hyp.of ?_; intro hc; (try simp only [hc]); (try simp only [Bh] at hc)))); all_goals clear hF))
   refine q05 [.sl 1 (q04 p.vec), .int .i64 (r : Int), .sl 3 (q0e (p.cloud.take i))] (he := c1) (k:=?_)
   (focus (have hF := (aI @e1 (aI @e2 @w2)); (repeat' (first | refine go1 (k:=?_) | with_reducible refine Ny.of ?_ ?_ | (refine Hyp.of ?_; intro hc; (try simp only [hc]); (try simp only [Bh] at hc)))); all_goals clear hF))
   refine q7p [.int .i64 (m2 : Int)] (he := q4j (b4 ++ q0u m1) m2 (by simp only [List.length_append]; omega) o2) (kk := ?_)
   (focus (have hF := (aI @e1 @e2); (repeat' (first | refine go1 (k:=?_) | with_reducible refine Ny.of ?_ ?_ | (refine Hyp.of ?_; intro hc; (try simp only [hc]); (try simp only [Bh] at hc)))); all_goals clear hF))
   ((with_reducible apply toW); refine stW (fun j => j == 3 || j == 8) (k:=?_))
   (focus (have hF := (aI @e1 (aI @e2 @w3)); (repeat' (first | refine go1 (k:=?_) | with_reducible refine Ny.of ?_ ?_ | (refine Hyp.of ?_; intro hc; (try simp only [hc]); (try simp only [Bh] at hc)))); all_goals clear hF))
   refine q7p [.int .i64 (m3 : Int)] (he := q4j (b4 ++ q0u m1 ++ q0u m2) m3 (by simp only [List.length_append]; omega) o3) (kk := ?_)
   have x1 := q0t (i := i) (by omega)
   have hb5 : b4 ++ q0u m1 ++ q0u m2 ++ q0u m3 = b3 ++ q1z p.vec [] (p.cloud.take (i + 1)) := by
    rw [hsn, q5m, List.nil_append, hsp, ← hb4]
    simp
   have hra : q37 (p.cloud.take (i + 1)) = (r : Int) := by rw [hsn, q4x]
   rw [hb5]
   (focus (have hF := (aI @e1 (aI @e2 @x1)); (repeat' (first | refine go1 (k:=?_) | with_reducible refine Ny.of ?_ ?_ | (refine Hyp.of ?_; intro hc; (try simp only [hc]); (try simp only [Bh] at hc)))); all_goals clear hF))
   (refine Fin.nextW (i + 1) ?_ (have hW := (aI @q24 @hra); q0v); (try dsimp only))
   omega
  ·have hin : i = p.cloud.length := by omega
   subst hin
   have hlt2 : ¬ (p.cloud.length : Int) < (p.cloud.length : Int) := by omega
   rw [List.take_length, hfin]
   (focus (have hF := (aI @e1 (aI @e2 @hlt2)); (repeat' (first | refine go1 (k:=?_) | with_reducible refine Ny.of ?_ ?_ | (refine Hyp.of ?_; intro hc; (try simp only [hc]); (try simp only [Bh] at hc)))); all_goals clear hF))
   exact ⟨rfl, rfl⟩

def NewQ (t : Tmp) (cs : List AVal) : Ex → AS → Prop
 | .ret, s => ∃ k, s.T t = .ptr k 0 ∧ s.M k = some (.cells cs) ∧ q0m cs = true
 | _, _ => False
theorem qau {P : Program} {fn : Func} {t : Tmp} (hrs : fn.results.toList = [.tmp t]) (tm : Array Value) (w : World) : (results fn tm).run P w = .ok (tm.getD t undef) w := by
 have hm : (fn.results.mapM (fun r => match r with | .tmp t => pure (tm.getD t undef) | .cell c t => do loadVar t (← asAddr (tm.getD c undef)) : ResultVar → Sem Value)).run P w = .ok #[tm.getD t undef] w := by
  rw [Array.mapM_eq_mapM_toList, hrs]
  simp only [Sem.run_map, List.mapM_cons, List.mapM_nil, Sem.run_bind, Sem.run_pure, Result.andThen]
 unfold results
 simp only [Sem.run_bind]
 refine Eq.trans (congrArg (fun r => Result.andThen r _) hm) ?_
 simp [Result.andThen]
theorem EvNew.of_body {E : Env} {f : FuncId} {n : Nat} {t : Tmp} {sc : SC} (hf : FnIs E.P f n [.tmp t] sc) {args cs : List AVal} (hl : args.length ≤ n)
 (h : AW E n sc (NewQ t cs) ⟨q45 args, NoM⟩) : EvNew E.P f args cs := by
 obtain ⟨fn, c, h1, h2, h3, rfl, hrs, h6⟩ := hf
 refine ⟨⟨fn, h1, h2, by simp [h3]⟩, fun B w vs G hG hsz hv hB => ?_⟩
 refine calls_of_wp h1 h3 ?_
 have hR : Rel fn.ntmps B G ⟨q45 args, NoM⟩ { tmps := vs ++ Array.replicate (fn.ntmps - vs.size) undef, defers := [] } w := by
  refine ⟨by simp; omega, rfl, fun t => ?_, fun k blk hk => by simp [NoM] at hk, fun b hb => ⟨hB b hb, hG b⟩, fun b hb => absurd (hG b) hb⟩
  simp only [q45]
  cases ht : args[t]? with
  | none => exact .undef _
  | some x =>
   have hlt : t < vs.size := by
    rw [hsz]
    rcases Nat.lt_or_ge t args.length with h' | h'
    ·exact h'
    ·rw [List.getElem?_eq_none h'] at ht; cases ht
   have : (vs ++ Array.replicate (fn.ntmps - vs.size) undef).getD t undef = vs[t] := by
    rw [Array.getD_eq_getD_getElem?, Array.getElem?_append_left hlt]
    simp [hlt]
   simp only [Option.getD_some, this]
   exact hv t x _ ht (by simp [hlt])
 refine h c h6 B G _ w hR _ fun e s a' w' G' hA hR' hq => ?_
 cases e with
 | normal => exact hq.elim
 | exit id => exact hq.elim
 | pan x => exact hq.elim
 | ret =>
  obtain ⟨k, q1, q2, q3⟩ := hq
  have hx := hR'.temps t
  rw [q1] at hx
  have e1 : a'.tmps.getD t undef = .pointer (some ⟨G'.β k, 0, none⟩) := by
   generalize a'.tmps.getD t undef = tv at hx
   cases hx
   rfl
  obtain ⟨cc, el, b1, b2, b3, b4, b5⟩ := hR'.mem k _ q2
  let G2 : Gh := { G' with ow := fun b => if b = G'.β k then G'.ow b else none }
  have g2 : ∀ b, G'.ow b = none → G2.ow b = none := fun b hb => by simp only [G2]; split <;> first | exact hb | rfl
  have hge : w.heap.size ≤ G'.β k := by
   rcases Nat.lt_or_ge (G'.β k) w.heap.size with h' | h'
   ·have := (hA.keep _ h' (hG _)).2
    rw [b1] at this
    cases this
   ·exact h'
  refine ⟨hR'.defers, _, qau hrs a'.tmps w', G2, G'.β k, cc, el, hge, hR'.ol _ (by rw [b1]; simp), by simp only [G2, if_true]; rw [b1]; simp,
   ⟨hA.os, hA.tape, hA.output, hA.size, fun b hb ho => ⟨(hA.keep b hb ho).1, g2 b (hA.keep b hb ho).2⟩⟩, by rw [e1], b3, b4, fun i x hx => ?_⟩
  obtain ⟨u, hu, hcr⟩ := b5 i x hx
  have hst : x.stb = true := q3r q3 hx
  refine ⟨u, hu, ?_⟩
  have hvr : VR (Dm s.M) G' B w' x u := by
   cases x <;> first | exact hcr | (simp [AVal.stb] at hst; done)
  exact hvr.stable (fun b _ hn ho => ⟨rfl, hn, g2 b ho⟩) hst

def FrQ (t : Tmp) (sz : Nat) (xs : List AVal) : Ex → AS → Prop
 | .ret, s => ∃ k e, s.T t = .os k e ∧ s.M k = some (.arr e sz xs) ∧ q0m xs = true
 | _, _ => False
theorem EvFresh.of_body {E : Env} {f : FuncId} {n : Nat} {t : Tmp} {sc : SC} (hf : FnIs E.P f n [.tmp t] sc) {args xs : List AVal} {sz : Nat} (hl : args.length ≤ n)
 (h : AW E n sc (FrQ t sz xs) ⟨q45 args, NoM⟩) : EvFresh E.P f args sz xs := by
 obtain ⟨fn, c, h1, h2, h3, rfl, hrs, h6⟩ := hf
 refine ⟨⟨fn, h1, h2, by simp [h3]⟩, fun B w vs G hG hsz hv hB => ?_⟩
 refine calls_of_wp h1 h3 ?_
 have hR : Rel fn.ntmps B G ⟨q45 args, NoM⟩ { tmps := vs ++ Array.replicate (fn.ntmps - vs.size) undef, defers := [] } w := by
  refine ⟨by simp; omega, rfl, fun t => ?_, fun k blk hk => by simp [NoM] at hk, fun b hb => ⟨hB b hb, hG b⟩, fun b hb => absurd (hG b) hb⟩
  simp only [q45]
  cases ht : args[t]? with
  | none => exact .undef _
  | some x =>
   have hlt : t < vs.size := by
    rw [hsz]
    rcases Nat.lt_or_ge t args.length with h' | h'
    ·exact h'
    ·rw [List.getElem?_eq_none h'] at ht; cases ht
   have : (vs ++ Array.replicate (fn.ntmps - vs.size) undef).getD t undef = vs[t] := by
    rw [Array.getD_eq_getD_getElem?, Array.getElem?_append_left hlt]
    simp [hlt]
   simp only [Option.getD_some, this]
   exact hv t x _ ht (by simp [hlt])
 refine h c h6 B G _ w hR _ fun e s a' w' G' hA hR' hq => ?_
 cases e with
 | normal => exact hq.elim
 | exit id => exact hq.elim
 | pan x => exact hq.elim
 | ret =>
  obtain ⟨k, e, q1, q2, q3⟩ := hq
  have hx := hR'.temps t
  rw [q1] at hx
  have e1 : a'.tmps.getD t undef = G'.hd k e := by generalize a'.tmps.getD t undef = q at hx; cases hx with | os _ _ _ v hv => exact hv
  have hb : OwnAt (Dm s.M) G' B w' (.arr k) sz xs (G'.hd k e) := hR'.mem k _ q2
  let G2 : Gh := { G' with ow := fun b => if G'.ow b = some (.arr k) then some (.arr k) else none }
  have g2 : ∀ b, G'.ow b = none → G2.ow b = none := fun b hb => by simp [G2, hb]
  refine ⟨hR'.defers, _, qau hrs a'.tmps w', G2, G'.hd k e, .arr k, by rw [e1], ⟨hA.os, hA.tape, hA.output, hA.size, fun b hb ho => ⟨(hA.keep b hb ho).1, g2 b (hA.keep b hb ho).2⟩⟩, fun b hb' => hR'.ol b fun hn => hb' (g2 b hn), ?_⟩
  exact hb.trade (fun b hb ho => ⟨hb, by simp [G2, ho]⟩) fun x hx u hr => hr.stable (fun b _ hn ho => ⟨rfl, hn, g2 b ho⟩) (q2j q3 x hx)

theorem qg9 : ∀ {t t' : List Int}, t.Pairwise (fun x y => x < y) → t'.Pairwise (fun x y => x < y) → (∀ m, cnt t m % 2 = 1 ↔ cnt t' m % 2 = 1) → t = t'
 | [], [], _, _, _ => rfl
 | [], y :: t', _, h2, h => by
  have := (h y).2
  rw [List.pairwise_cons] at h2
  rw [q1r, q31 fun x hx => h2.1 x hx, q5k] at this
  simp at this
 | x :: t, [], h1, _, h => by
  have := (h x).1
  rw [List.pairwise_cons] at h1
  rw [q1r, q31 fun y hy => h1.1 y hy, q5k] at this
  simp at this
 | x :: t, y :: t', h1, h2, h => by
  rw [List.pairwise_cons] at h1 h2
  have hxy : x = y := by
   rcases Int.lt_trichotomy x y with hl | he | hl
   ·have := (h x).1
    rw [q1r, q31 fun z hz => h1.1 z hz, q1r, q31 (l := t') fun z hz => by have := h2.1 z hz; omega, if_pos (Int.le_refl _), if_neg (by omega)] at this
    exact absurd (this rfl) (by decide)
   ·exact he
   ·have := (h y).2
    rw [q1r y, q31 fun z hz => h2.1 z hz, q1r, q31 (l := t) fun z hz => by have := h1.1 z hz; omega, if_pos (Int.le_refl _), if_neg (by omega)] at this
    exact absurd (this rfl) (by decide)
  subst hxy
  rw [qg9 h1.2 h2.2 fun m => ?_]
  have := h m
  rw [q1r, q1r] at this
  split at this
  ·omega
  ·omega
theorem Turns.uniq {q : Int → Prop} {t t' : List Int} (h : Turns q t) (h' : Turns q t') : t = t' := qg9 h.rise h'.rise fun m => by rw [← h.mem, ← h'.mem]
def q2y (c : List Rn) : List Int := c.flatMap fun r => [r.1, r.2 + 1]
theorem q41 (x : Rn) (c : List Rn) : q2y (x :: c) = x.1 :: (x.2 + 1) :: q2y c := rfl
theorem qfk {x : Rn} {c : List Rn} (h : Can (x :: c)) : ∀ y ∈ q2y c, x.2 + 1 < y := by
 intro y hy
 simp only [q2y, List.mem_flatMap, List.mem_cons, List.not_mem_nil, or_false] at hy
 obtain ⟨r, hr, hy⟩ := hy
 have h1 := (Can.cons_iff.1 h).2.1 r hr
 have h2 := h.2 r (by simp [hr])
 unfold qlk at h1
 unfold okR at h2
 omega
theorem qfj : ∀ {c : List Rn}, Can c → Turns (inR c) (q2y c)
 | [], _ => ⟨.nil, rfl, fun m => by simp [q2y, q5k, q4s]⟩
 | x :: c, h => by
  have ih := qfj h.tail
  have ha := qfk h
  have hx := (Can.cons_iff.1 h).1
  unfold okR at hx
  refine ⟨?_, ?_, fun m => ?_⟩
  ·rw [q41, List.pairwise_cons, List.pairwise_cons]
   refine ⟨fun y hy => ?_, fun y hy => ha y hy, ih.rise⟩
   rcases List.mem_cons.1 hy with rfl | hy
   ·omega
   ·have := ha y hy; omega
  ·rw [q41]
   have := ih.even
   simp only [List.length_cons]
   omega
  ·rw [q41, q1r, q1r, q1e, ih.mem]
   by_cases h1 : x.2 + 1 ≤ m
   ·rw [if_pos h1, if_pos (by omega)]
    constructor
    ·rintro (h | h)
     ·omega
     ·omega
    ·intro h; exact .inr (by omega)
   ·rw [if_neg h1, q31 (l := q2y c) fun y hy => by have := ha y hy; omega]
    by_cases h2 : x.1 ≤ m
    ·rw [if_pos h2]
     exact ⟨fun _ => rfl, fun _ => .inl (by omega)⟩
    ·rw [if_neg h2]
     constructor
     ·rintro (h | h)
      ·omega
      ·omega
     ·intro h; omega
theorem qck (c : List Rn) : (q2y c).length = 2 * c.length := by
 induction c with
 | nil => rfl
 | cons x c ih => rw [q41]; simp only [List.length_cons, ih]; omega
def q1d (l : List Rn) : List Int := q2y (q12 l)
theorem z0v {l : List Rn} {t : List Int} (h : Turns (inR (q0r l)) t) : t = q1d l :=
 h.uniq ((qfj (q2k l)).iff fun m => by rw [q82, qys])

def qwk : List SOp := [zO 4 (.assign (.const (.slice none 0 0)))]
instance : Live qwk := ⟨[0,1]⟩
def qwj : List SOp := [zO 5 (.assign (.const (.slice none 0 0))),zO 6 (.assign (.const (.slice none 0 0)))]
instance : Live qwj := ⟨[0,1]⟩
def qwi : List SOp := [zO 7 (.assign (.const (.int .i64 0)))]
instance : Live qwi := ⟨[0,1,5,6]⟩
def qwh : List SOp := [zM 14 7,zM 15 0,zO 16 (.call ⟨.builtin .len,#[.tmp 15],#[22]⟩),zO 17 (.binOp .lss 3 (.tmp 14) (.tmp 16) 3)]
instance : Live qwh := ⟨[0,1,5,6,7]⟩
def qwg : List SOp := [zM 20 0,zM 21 7,zI 22 22 20 21,zL 23 3 22,zO 24 (.call ⟨.builtin .max,#[.tmp 23,.const (.int .i64 1)],#[3,3]⟩),zM 25 1,zM 26 7,zI 27 22 25 26,zL 28 3 27,zO 29 (.call ⟨.builtin .min,#[.tmp 28,.const (.int .i64 1000000000)],#[3,3]⟩),zG 8 24,zG 9 29]
instance : Live qwg := ⟨[0,1,5,6,7]⟩
def qwf : List SOp := [zM 30 8,zM 31 9,zO 32 (.binOp .leq 3 (.tmp 30) (.tmp 31) 3)]
instance : Live qwf := ⟨[0,1,5,6,7,8,9]⟩
def qwe : List SOp := [zM 33 5,zM 34 8,zO 35 (.buildSlice 22 1 #[(0,.tmp 34)]),zO 36 (.call ⟨.builtin .append,#[.tmp 33,.tmp 35],#[22,22]⟩),zG 5 36]
instance : Live qwe := ⟨[0,1,5,6,7,8,9]⟩
def qwd : List SOp := [zM 37 6,zM 38 9,zO 39 (.binOp .add 3 (.tmp 38) (.const (.int .i64 1)) 3),zO 40 (.buildSlice 22 1 #[(0,.tmp 39)]),zO 41 (.call ⟨.builtin .append,#[.tmp 37,.tmp 40],#[22,22]⟩),zG 6 41]
instance : Live qwd := ⟨[0,1,5,6,7,9]⟩
def qwc : List SOp := [zM 18 7,zO 19 (.binOp .add 3 (.tmp 18) (.const (.int .i64 1)) 3),zG 7 19]
instance : Live qwc := ⟨[0,1,5,6,7]⟩
def qio : List SOp := [zM 42 5,zO 43 (.call ⟨.value (.func 137),#[.tmp 42],#[22]⟩),zG 5 43]
instance : Live qio := ⟨[5,6]⟩
def qin : List SOp := [zM 44 6,zO 45 (.call ⟨.value (.func 137),#[.tmp 44],#[22]⟩),zG 6 45]
instance : Live qin := ⟨[5,6]⟩
def qim : List SOp := [zO 10 (.assign (.const (.slice none 0 0)))]
instance : Live qim := ⟨[5,6]⟩
def qil : List SOp := [zO 11 (.assign (.const (.int .i64 0))),zO 12 (.assign (.const (.int .i64 0)))]
instance : Live qil := ⟨[5,6,10]⟩
def qik : List SOp := [zO 13 (.assign (.const (.int .i64 0)))]
instance : Live qik := ⟨[5,6,10,11,12]⟩
def qij : List SOp := [zM 46 13,zM 47 5,zO 48 (.call ⟨.builtin .len,#[.tmp 47],#[22]⟩),zO 49 (.binOp .lss 3 (.tmp 46) (.tmp 48) 3),zM 50 49,⟨some 51,.move (.tmp 12),some ((some 50),false)⟩,⟨some 52,.move (.tmp 6),some ((some 50),false)⟩,⟨some 53,.call ⟨.builtin .len,#[.tmp 52],#[22]⟩,some ((some 50),false)⟩,⟨some 54,.binOp .lss 3 (.tmp 51) (.tmp 53) 3,some ((some 50),false)⟩,zO 55 (.pick (.tmp 50) (.const (.bool true)) (.tmp 54))]
instance : Live qij := ⟨[5,6,10,11,12,13]⟩
def qii : List SOp := [zM 56 13,zM 57 5,zO 58 (.call ⟨.builtin .len,#[.tmp 57],#[22]⟩),zO 59 (.binOp .lss 3 (.tmp 56) (.tmp 58) 3),zM 60 59,⟨some 61,.move (.tmp 5),some ((some 60),true)⟩,⟨some 62,.move (.tmp 13),some ((some 60),true)⟩,⟨some 63,.indexAddr 22 (.tmp 61) (.tmp 62),some ((some 60),true)⟩,⟨some 64,.load 3 (.tmp 63),some ((some 60),true)⟩,⟨some 65,.move (.tmp 6),some ((some 60),true)⟩,⟨some 66,.move (.tmp 12),some ((some 60),true)⟩,⟨some 67,.indexAddr 22 (.tmp 65) (.tmp 66),some ((some 60),true)⟩,⟨some 68,.load 3 (.tmp 67),some ((some 60),true)⟩,⟨some 69,.binOp .leq 3 (.tmp 64) (.tmp 68) 3,some ((some 60),true)⟩,zO 70 (.pick (.tmp 60) (.tmp 69) (.const (.bool false)))]
instance : Live qii := ⟨[5,6,10,11,12,13]⟩
def qih : List SOp := [zM 71 11,zO 72 (.binOp .eql 3 (.tmp 71) (.const (.int .i64 0)) 3)]
instance : Live qih := ⟨[5,6,10,11,12,13]⟩
def qig : List SOp := [zM 73 10,zM 74 5,zM 75 13,zI 76 22 74 75,zL 77 3 76,zO 78 (.buildSlice 22 1 #[(0,.tmp 77)]),zO 79 (.call ⟨.builtin .append,#[.tmp 73,.tmp 78],#[22,22]⟩),zG 10 79]
instance : Live qig := ⟨[5,6,10,11,12,13]⟩
def qif : List SOp := [zM 80 11,zO 81 (.binOp .add 3 (.tmp 80) (.const (.int .i64 1)) 3),zG 11 81]
instance : Live qif := ⟨[5,6,10,11,12,13]⟩
def qie : List SOp := [zM 82 13,zO 83 (.binOp .add 3 (.tmp 82) (.const (.int .i64 1)) 3),zG 13 83]
instance : Live qie := ⟨[5,6,10,11,12,13]⟩
def qid : List SOp := [zM 84 11,zO 85 (.binOp .sub 3 (.tmp 84) (.const (.int .i64 1)) 3),zG 11 85]
instance : Live qid := ⟨[5,6,10,11,12,13]⟩
def qic : List SOp := [zM 86 11,zO 87 (.binOp .eql 3 (.tmp 86) (.const (.int .i64 0)) 3)]
instance : Live qic := ⟨[5,6,10,11,12,13]⟩
def qib : List SOp := [zM 88 10,zM 89 6,zM 90 12,zI 91 22 89 90,zL 92 3 91,zO 93 (.buildSlice 22 1 #[(0,.tmp 92)]),zO 94 (.call ⟨.builtin .append,#[.tmp 88,.tmp 93],#[22,22]⟩),zG 10 94]
instance : Live qib := ⟨[5,6,10,11,12,13]⟩
def qia : List SOp := [zM 95 12,zO 96 (.binOp .add 3 (.tmp 95) (.const (.int .i64 1)) 3),zG 12 96]
instance : Live qia := ⟨[5,6,10,11,12,13]⟩
def qi9 : List SOp := [zM 97 10,zG 4 97]
instance : Live qi9 := ⟨[10]⟩
def qg3 : SC :=
 (.seq (.seq (.ops false qwh) (.cond (.tmp 17) .skip (.exit 0))) (.seq (.block 1 (.seq (.ops true qwg) (.seq (.ops false qwf) (.cond (.tmp 32) (.seq (.ops false qwe) (.ops false qwd)) .skip)))) (.ops false qwc)))
def qg2 : SC :=
 (.seq (.seq (.ops false qij) (.cond (.tmp 55) .skip (.exit 2))) (.block 3 (.seq (.ops true qii) (.cond (.tmp 70) (.seq (.seq (.ops false qih) (.cond (.tmp 72) (.ops false qig) .skip)) (.seq (.ops false qif) (.ops false qie))) (.seq (.ops false qid) (.seq (.seq (.ops false qic) (.cond (.tmp 87) (.ops false qib) .skip)) (.ops false qia)))))))
def t_k120 : SC :=
 (.seq (.ops false qwk) (.seq (.ops false qwj) (.seq (.seq (.ops false qwi) (.block 0 (.loop qg3))) (.seq (.ops false qio) (.seq (.ops false qin) (.seq (.ops false qim) (.seq (.ops false qil) (.seq (.seq (.ops false qik) (.block 2 (.loop qg2))) (.seq (.ops false qi9) .ret)))))))))
theorem it_k120 : FnIs Tryz.prog 120 98 [.tmp 4] t_k120 := ⟨Tryz.f120, _, Tryz.func120, rfl, rfl, rfl, rfl, by kernel_rfl⟩

def los (l : List Rn) : List Int := l.map fun r => r.1
def his (l : List Rn) : List Int := l.map fun r => r.2
def ql0 (l : List Rn) : List Int := l.map fun r => r.2 + 1
theorem los_at {l : List Rn} {i : Nat} {r : Rn} (h : l[i]? = some r) : (q04 (los l))[i]? = some (.int .i64 r.1) := by simp [q04, los, h, encI]
theorem his_at {l : List Rn} {i : Nat} {r : Rn} (h : l[i]? = some r) : (q04 (his l))[i]? = some (.int .i64 r.2) := by simp [q04, his, h, encI]
theorem qdb {l : List Rn} {i : Nat} {r : Rn} (h : l[i]? = some r) : q0r (l.take (i + 1)) = q0r (l.take i) ++ q0r [r] := by
 rw [List.take_add_one, h, q4k]
 rfl
theorem zc5 {r : Rn} (h : max r.1 1 ≤ min r.2 1000000000) : q0r [r] = [(max r.1 1, min r.2 1000000000)] := by rw [q6v, if_pos (show (q4u r).1 ≤ (q4u r).2 from h)]; rfl
theorem z09 {r : Rn} (h : ¬ max r.1 1 ≤ min r.2 1000000000) : q0r [r] = [] := by rw [q6v, if_neg (show ¬ (q4u r).1 ≤ (q4u r).2 from h)]; rfl
theorem ev_k120 (l : List Rn) (hl : l.length ≤ 900000000) : Ev (En Tryz.prog rfl).P 120 [.sl 1 (q04 (los l)), .sl 1 (q04 (his l))] (.ret (.sl 1 (q04 (q1d l)))) := by
 refine Ev.of_body it_k120 (by simp) (Run.start ?_)
 unfold t_k120
 have e0 : (q04 (los l)).length = l.length := by simp [q04, los]
 have e1 : (q04 (his l)).length = l.length := by simp [q04, his]
 (focus (have hF := @e0; (repeat' (first | refine go1 (k:=?_) | with_reducible refine Ny.of ?_ ?_ | (refine Hyp.of ?_; intro hc; (try simp only [hc]); (try simp only [Bh] at hc)))); all_goals clear hF))
 refine Run.wk (Wk.trans (Wk.own_nil 5 36 1 rfl rfl) (Wk.own_nil 6 41 1 rfl rfl)) ?_
 refine Run.while (σ := Nat) (fun i => ⟨tms [(0, .sl 1 (q04 (los l))), (1, .sl 1 (q04 (his l))), (5, .os 36 (q0r (l.take i)).length), (6, .os 41 (q0r (l.take i)).length), (7, .int .i64 i)], mms [(36, .arr (q0r (l.take i)).length 1 (q04 (los (q0r (l.take i))))), (41, .arr (q0r (l.take i)).length 1 (q04 (ql0 (q0r (l.take i)))))]⟩)
  (fun i => i ≤ l.length) (fun i => l.length - i) 0 (have hW := True.intro; q0v) (Nat.zero_le _) ?_
 intro i hi
 have hcl := q8i (l.take i)
 have hcl2 : (l.take i).length ≤ l.length := by rw [List.length_take]; omega
 have e2 : (q04 (los (q0r (l.take i)))).length = (q0r (l.take i)).length := by simp [q04, los]
 have e3 : (q04 (ql0 (q0r (l.take i)))).length = (q0r (l.take i)).length := by simp [q04, ql0]
 unfold qg3
 by_cases hlt : i < l.length
 ·obtain ⟨r, hr⟩ : ∃ r, l[i]? = some r := ⟨l[i], by simp [hlt]⟩
  have e4 := los_at hr
  have e5 := his_at hr
  (focus (have hF := (aI (aI @e0 (aI @e1 @e2)) (aI (aI @e3 @e4) (aI @e5 @q2v))); (repeat' (first | refine go1 (k:=?_) | with_reducible refine Ny.of ?_ ?_ | (refine Hyp.of ?_; intro hc; (try simp only [hc]); (try simp only [Bh] at hc)))); all_goals clear hF))
  ·have hk := (qdb hr).trans (by rw [zc5 hc])
   (refine Fin.nextW (i + 1) ?_ (Wk.toL _ _ (by repeat (first | exact trivial | refine ⟨rfl, ?_⟩ | (refine ⟨by simp [↓q7b, ↓q42, ↓q65, ↓NoM', hk, los, ql0], ?_⟩))) (by repeat (first | exact trivial | refine ⟨rfl, ?_⟩ | (refine ⟨by simp [↓q7b, ↓q42, ↓q65, ↓NoM', hk, los, ql0], ?_⟩))) (by repeat (first | exact trivial | (refine ⟨?_, ?_⟩; focus (first | rfl | (apply q2a; simp only [q0m, AVal.stb, q02, q09, q1b, q03, q0x, q0h, q01, hk, los, ql0, Bool.and_true, Bool.true_and, Bool.and_self]; done))))) (by repeat (first | exact trivial | (refine ⟨?_, ?_⟩; focus (first | rfl | (apply arr_no; simp only [q0m, AVal.stb, q02, q09, q1b, q03, q0x, q0h, q01, hk, los, ql0, Bool.and_true, Bool.true_and, Bool.and_self]; done) | exact q4t _ _ | exact qym _ _ | exact qyp _ _ | (apply qyv; simp only [q0m, AVal.stb, q02, q09, q1b, q03, q0x, q0h, q01, hk, los, ql0, Bool.and_true, Bool.true_and, Bool.and_self]; done) | (apply qyu; simp only [qmv, qyw, List.all_cons, List.all_nil, q0m, AVal.stb, q02, q09, q1b, q03, q0x, q0h, q01, hk, los, ql0, Bool.and_true, Bool.true_and, Bool.and_self]; done) | (simp [ABlk.no, AVal.noC, AVal.no, AVal.stb, q0m, q02, q09, q1b, q03, q0x, q0h, q01, hk, los, ql0]; done)))))); (try dsimp only))
   omega
  ·have hk := (qdb hr).trans (by rw [z09 hc, List.append_nil])
   (refine Fin.nextW (i + 1) ?_ (have hW := @hk; q0v); (try dsimp only))
   omega
 ·have hil : i = l.length := by omega
  subst hil
  rw [List.take_length] at *
  (focus (have hF := (aI (aI @e0 @e1) (aI @e2 @e3)); (repeat' (first | refine go1 (k:=?_) | with_reducible refine Ny.of ?_ ?_ | (refine Hyp.of ?_; intro hc; (try simp only [hc]); (try simp only [Bh] at hc)))); all_goals clear hF))
  have hin := q7q (los (q0r l))
  have hout := q7q (ql0 (q0r l))
  have hs : Sweep (q0r l) (q5w (los (q0r l))) (q5w (ql0 (q0r l))) := Sweep.of l
  have hl1 : (los (q0r l)).length = (q0r l).length := by simp [los]
  have hl2 : (ql0 (q0r l)).length = (q0r l).length := by simp [ql0]
  refine z16 (fun j => j == 36) [.sl 1 (q04 (los (q0r l)))] (he := zbo _ (by omega)) (k:=?_)
  (focus (have hF := (aI (aI @e0 @e1) (aI @e2 @e3)); (repeat' (first | refine go1 (k:=?_) | with_reducible refine Ny.of ?_ ?_ | (refine Hyp.of ?_; intro hc; (try simp only [hc]); (try simp only [Bh] at hc)))); all_goals clear hF))
  refine z16 (fun j => j == 41) [.sl 1 (q04 (ql0 (q0r l)))] (he := zbo _ (by omega)) (k:=?_)
  (focus (have hF := (aI (aI @e0 @e1) (aI @e2 @e3)); (repeat' (first | refine go1 (k:=?_) | with_reducible refine Ny.of ?_ ?_ | (refine Hyp.of ?_; intro hc; (try simp only [hc]); (try simp only [Bh] at hc)))); all_goals clear hF))
  generalize q5w (los (q0r l)) = ins at *
  generalize q5w (ql0 (q0r l)) = outs at *
  refine Run.wk (Wk.own_nil 10 79 1 rfl rfl) ?_
  refine Run.while (σ := Sw) (fun s => ⟨tms [(5, .sl 1 (q04 ins)), (6, .sl 1 (q04 outs)), (10, .os 79 s.t.length), (11, .int .i64 s.deep), (12, .int .i64 s.j), (13, .int .i64 s.i)], mms [(79, .arr s.t.length 1 (q04 s.t))]⟩)
   (fun s => SwI ins outs s ∧ s.j ≤ outs.length ∧ s.t.length ≤ s.i + s.j) (fun s => (ins.length - s.i) + (outs.length - s.j)) ⟨[], 0, 0, 0⟩ (have hW := True.intro; q0v) ⟨SwI.start, Nat.zero_le _, Nat.zero_le _⟩ ?_
  rintro ⟨t, deep, i, j⟩ ⟨hI, hj, ht⟩
  have hd := hI.d
  have hij := hI.ij
  have hii := hI.i
  have e4 := q0b ins
  have e5 := q0b outs
  have e6 := q0b t
  dsimp only at hd hij hii hj ht ⊢
  have hlen := hs.len
  have stepIn := fun h => hI.stepIn hs.len (Srt.of hs.si) (Srt.of hs.so) hs.lt h
  have stepOut := fun h h' => hI.stepOut hs.len (Srt.of hs.si) (Srt.of hs.so) hs.lt h h'
  unfold swIn at stepIn
  unfold swOut at stepOut
  unfold qdl at stepIn stepOut
  dsimp only at stepIn stepOut
  unfold qg2
  (focus (have hF := (aI (aI @e4 @e5) (aI @e6 (aI @qyo @q2v))); (repeat' (first | refine go1 (k:=?_) | with_reducible refine Ny.of ?_ ?_ | (refine Hyp.of ?_; intro hc; (try simp only [hc]); (try simp only [Bh] at hc)))); all_goals clear hF))
  ·have q := stepIn ⟨by omega, by assumption⟩
   rw [if_pos hc] at q
   (refine Fin.nextW (⟨t ++ [ins.getD i 0], deep + 1, i + 1, j⟩) ?_ (have hW := True.intro; q0v); (try dsimp only))
   exact ⟨⟨q, hj, (by first | omega | (simp only [List.length_append, List.length_cons, List.length_nil]; omega))⟩, (by first | omega | (simp only [List.length_append, List.length_cons, List.length_nil]; omega))⟩
  ·have q := stepIn ⟨by omega, by assumption⟩
   rw [if_neg hc] at q
   (refine Fin.nextW (⟨t, deep + 1, i + 1, j⟩) ?_ (have hW := True.intro; q0v); (try dsimp only))
   exact ⟨⟨q, hj, (by first | omega | (simp only [List.length_append, List.length_cons, List.length_nil]; omega))⟩, (by first | omega | (simp only [List.length_append, List.length_cons, List.length_nil]; omega))⟩
  ·have q := (stepOut (by omega) (by omega)).1
   rw [if_pos hc] at q
   (refine Fin.nextW (⟨t ++ [outs.getD j 0], deep - 1, i, j + 1⟩) ?_ (have hW := True.intro; q0v); (try dsimp only))
   exact ⟨⟨q, (by first | omega | (simp only [List.length_append, List.length_cons, List.length_nil]; omega)), (by first | omega | (simp only [List.length_append, List.length_cons, List.length_nil]; omega))⟩, (by first | omega | (simp only [List.length_append, List.length_cons, List.length_nil]; omega))⟩
  ·have q := (stepOut (by omega) (by omega)).1
   rw [if_neg hc] at q
   (refine Fin.nextW (⟨t, deep - 1, i, j + 1⟩) ?_ (have hW := True.intro; q0v); (try dsimp only))
   exact ⟨⟨q, (by first | omega | (simp only [List.length_append, List.length_cons, List.length_nil]; omega)), (by first | omega | (simp only [List.length_append, List.length_cons, List.length_nil]; omega))⟩, (by first | omega | (simp only [List.length_append, List.length_cons, List.length_nil]; omega))⟩
  ·have q := (stepOut (by omega) (by omega)).1
   rw [if_pos hc] at q
   (refine Fin.nextW (⟨t ++ [outs.getD j 0], deep - 1, i, j + 1⟩) ?_ (have hW := True.intro; q0v); (try dsimp only))
   exact ⟨⟨q, (by first | omega | (simp only [List.length_append, List.length_cons, List.length_nil]; omega)), (by first | omega | (simp only [List.length_append, List.length_cons, List.length_nil]; omega))⟩, (by first | omega | (simp only [List.length_append, List.length_cons, List.length_nil]; omega))⟩
  ·have q := (stepOut (by omega) (by omega)).1
   rw [if_neg hc] at q
   (refine Fin.nextW (⟨t, deep - 1, i, j + 1⟩) ?_ (have hW := True.intro; q0v); (try dsimp only))
   exact ⟨⟨q, (by first | omega | (simp only [List.length_append, List.length_cons, List.length_nil]; omega)), (by first | omega | (simp only [List.length_append, List.length_cons, List.length_nil]; omega))⟩, (by first | omega | (simp only [List.length_append, List.length_cons, List.length_nil]; omega))⟩
  ·have hq := hs.turns hI (show i = ins.length by omega) (show j = ins.length by omega)
   have hqt : t = q1d l := z0v hq.1
   rw [← hqt]
   exact stRet (.sl 1 (q04 t))

def z74 : List SOp := [zO 1 (.box 25 (.tmp 0)),zO 2 (.alloc 88)]
instance : Live z74 := ⟨[0]⟩
def z73 : List SOp := [zL 3 25 1,zO 4 (.buildSlice 128 1 #[(0,.tmp 3)]),zO 5 (.call ⟨.value (.func 88),#[.tmp 4],#[128]⟩),⟨none,.store 88 (.tmp 2) (.tmp 5),none⟩]
instance : Live z73 := ⟨[1,2]⟩
def t_k44 : SC :=
 (.seq (.ops false z74) (.seq (.ops false z73) .ret))
theorem it_k44 : FnIs Tryz.prog 44 6 [.cell 2 88] t_k44 := ⟨Tryz.f44, _, Tryz.func44, rfl, rfl, rfl, rfl, by kernel_rfl⟩

def q11 (t : List (List Int)) : List AVal := t.map fun l => .sl 1 (q04 l)
theorem q3z (t : List (List Int)) : q0m (q11 t) = true := by
 refine qam fun x hx => ?_
 obtain ⟨l, _, rfl⟩ := List.mem_map.1 hx
 exact q02 l
theorem q6r (t : List (List Int)) : (q11 t).all AVal.one = true := by
 rw [List.all_eq_true]
 intro x hx
 obtain ⟨l, _, rfl⟩ := List.mem_map.1 hx
 rfl
theorem qk3 (M : Mem) (t : List (List Int)) : (q11 t).map (fzc q70 M) = q11 t := by
 simp [q11, fzc]
theorem zbj (p : Pst) (t : List (List Int)) (ht : t.length = 16) (hM : Ev (En Tryz.prog rfl).P 88 [.sl 2 (q3v [p])] (.ret (.agg (q11 t)))) : Ev (En Tryz.prog rfl).P 44 [q1k p] (.ret (.agg (q11 t))) := by
 refine Ev.of_body it_k44 (by simp) (Run.start ?_)
 have hpx : q1k p = .agg [.sl 1 (q04 p.vec), .sl 3 (q0e p.cloud)] := rfl
 have e0 : (q11 t).length = 16 := by simp [q11, ht]
 have e1 := q6r t
 unfold t_k44
 rw [hpx]
 (focus (have hF := True.intro; (repeat' (first | refine go0 (k:=?_) | fail)); all_goals clear hF))
 refine q4l (l := [.sl 2 (q3v [p])]) rfl rfl (by simp [q0m, AVal.stb, q0h]) hM ?_
 (focus (have hF := (aI @e0 @e1); (repeat' (first | refine go0 (k:=?_) | fail)); all_goals clear hF))
 refine Fin.all (xs := [.agg (q11 t)]) ?_ (by simp [q0m, AVal.stb, q3z]) rfl
 have htk : (q11 t).take 16 = q11 t := List.take_of_length_le (by omega)
 simp [q4f, q7v, qf8, TE_88, TD.isAgg, upd, tms, mms, e0, htk, qk3]

def z3i : List SOp := [zO 2 (.alloc 88)]
instance : Live z3i := ⟨[0]⟩
def z3h : List SOp := [zO 3 (.alloc 86),zO 4 (.alloc 86)]
instance : Live z3h := ⟨[0,2]⟩
def z3g : List SOp := [zO 5 (.assign (.const (.int .i64 0)))]
instance : Live z3g := ⟨[0,2,3,4]⟩
def z3f : List SOp := [zM 11 5,zM 12 0,zO 13 (.call ⟨.builtin .len,#[.tmp 12],#[128]⟩),zO 14 (.binOp .lss 3 (.tmp 11) (.tmp 13) 3)]
instance : Live z3f := ⟨[0,2,3,4,5]⟩
def z3e : List SOp := [zO 6 (.assign (.const (.int .i64 0)))]
instance : Live z3e := ⟨[0,2,3,4,5]⟩
def z3d : List SOp := [zM 17 6,zM 18 0,zM 19 5,zI 20 128 18 19,zF 21 25 20 0,zL 22 22 21,zO 23 (.call ⟨.builtin .len,#[.tmp 22],#[22]⟩),zO 24 (.binOp .lss 3 (.tmp 17) (.tmp 23) 3),zM 25 24,⟨some 26,.move (.tmp 6),some ((some 25),true)⟩,⟨some 27,.binOp .lss 3 (.tmp 26) (.const (.int .i64 16)) 3,some ((some 25),true)⟩,zO 28 (.pick (.tmp 25) (.tmp 27) (.const (.bool false)))]
instance : Live z3d := ⟨[0,2,3,4,5,6]⟩
def z3c : List SOp := [zM 31 6,zM 32 6,zI 33 86 3 32,zL 34 22 33,zO 35 (.buildSlice 22 1 #[(0,.const (.int .i64 1))]),zO 36 (.call ⟨.builtin .append,#[.tmp 34,.tmp 35],#[22,22]⟩),zI 37 86 3 31,⟨none,.store 22 (.tmp 37) (.tmp 36),none⟩]
instance : Live z3c := ⟨[0,2,3,4,5,6]⟩
def qlo : List SOp := [zM 38 6,zM 39 6,zI 40 86 4 39,zL 41 22 40,zM 42 0,zM 43 5,zI 44 128 42 43,zF 45 25 44 0,zL 46 22 45,zM 47 6,zI 48 22 46 47,zL 49 3 48,zO 50 (.buildSlice 22 1 #[(0,.tmp 49)]),zO 51 (.call ⟨.builtin .append,#[.tmp 41,.tmp 50],#[22,22]⟩),zI 52 86 4 38,⟨none,.store 22 (.tmp 52) (.tmp 51),none⟩]
instance : Live qlo := ⟨[0,2,3,4,5,6]⟩
instance : Rd qlo := ⟨fun j => j == 0⟩
def z3b : List SOp := [zM 29 6,zO 30 (.binOp .add 3 (.tmp 29) (.const (.int .i64 1)) 3),zG 6 30]
instance : Live z3b := ⟨[0,2,3,4,5,6]⟩
def qox : List SOp := [zO 7 (.assign (.const (.int .i64 0)))]
instance : Live qox := ⟨[0,2,3,4,5]⟩
def qow : List SOp := [zM 53 7,zM 54 0,zM 55 5,zI 56 128 54 55,zF 57 25 56 1,zL 58 23 57,zO 59 (.call ⟨.builtin .len,#[.tmp 58],#[23]⟩),zO 60 (.binOp .lss 3 (.tmp 53) (.tmp 59) 3)]
instance : Live qow := ⟨[0,2,3,4,5,7]⟩
def qov : List SOp := [zM 63 0,zM 64 5,zI 65 128 63 64,zF 66 25 65 1,zL 67 23 66,zM 68 7,zI 69 23 67 68,zL 70 82 69,zO 8 (.alloc 82),⟨none,.store 82 (.tmp 8) (.tmp 70),none⟩]
instance : Live qov := ⟨[0,2,3,4,5,7]⟩
def qou : List SOp := [zF 71 82 8 0,zL 72 3 71,zO 73 (.binOp .geq 3 (.tmp 72) (.const (.int .i64 0)) 3),zM 74 73,⟨some 75,.fieldAddr 82 (.tmp 8) 0,some ((some 74),true)⟩,⟨some 76,.load 3 (.tmp 75),some ((some 74),true)⟩,⟨some 77,.binOp .lss 3 (.tmp 76) (.const (.int .i64 16)) 3,some ((some 74),true)⟩,zO 78 (.pick (.tmp 74) (.tmp 77) (.const (.bool false)))]
instance : Live qou := ⟨[0,2,3,4,5,7,8]⟩
def qdw : List SOp := [zF 79 82 8 0,zL 80 3 79,zF 81 82 8 0,zL 82 3 81,zI 83 86 3 82,zL 84 22 83,zF 85 82 8 1,zL 86 3 85,zO 87 (.buildSlice 22 1 #[(0,.tmp 86)]),zO 88 (.call ⟨.builtin .append,#[.tmp 84,.tmp 87],#[22,22]⟩),zI 89 86 3 80,⟨none,.store 22 (.tmp 89) (.tmp 88),none⟩]
instance : Live qdw := ⟨[0,2,3,4,5,7,8]⟩
instance : Rd qdw := ⟨fun j => j == 8⟩
def qdv : List SOp := [zF 90 82 8 0,zL 91 3 90,zF 92 82 8 0,zL 93 3 92,zI 94 86 4 93,zL 95 22 94,zF 96 82 8 2,zL 97 3 96,zO 98 (.buildSlice 22 1 #[(0,.tmp 97)]),zO 99 (.call ⟨.builtin .append,#[.tmp 95,.tmp 98],#[22,22]⟩),zI 100 86 4 91,⟨none,.store 22 (.tmp 100) (.tmp 99),none⟩]
instance : Live qdv := ⟨[0,2,3,4,5,7,8]⟩
instance : Rd qdv := ⟨fun j => j == 8⟩
def qot : List SOp := [zM 61 7,zO 62 (.binOp .add 3 (.tmp 61) (.const (.int .i64 1)) 3),zG 7 62]
instance : Live qot := ⟨[0,2,3,4,5,7]⟩
def qos : List SOp := [zM 15 5,zO 16 (.binOp .add 3 (.tmp 15) (.const (.int .i64 1)) 3),zG 5 16]
instance : Live qos := ⟨[0,2,3,4,5]⟩
def qor : List SOp := [zO 9 (.alloc 88)]
instance : Live qor := ⟨[2,3,4]⟩
def qoq : List SOp := [zO 10 (.assign (.const (.int .i64 0)))]
instance : Live qoq := ⟨[2,3,4,9]⟩
def qop : List SOp := [zM 101 10,zO 102 (.binOp .lss 3 (.tmp 101) (.const (.int .i64 16)) 3)]
instance : Live qop := ⟨[2,3,4,9,10]⟩
def qoo : List SOp := [zM 105 10,zM 106 10,zI 107 86 3 106,zL 108 22 107,zM 109 10,zI 110 86 4 109,zL 111 22 110,zO 112 (.call ⟨.value (.func 120),#[.tmp 108,.tmp 111],#[22,22]⟩),zF 113 88 9 0,zI 114 86 113 105,⟨none,.store 22 (.tmp 114) (.tmp 112),none⟩]
instance : Live qoo := ⟨[2,3,4,9,10]⟩
def qon : List SOp := [zM 103 10,zO 104 (.binOp .add 3 (.tmp 103) (.const (.int .i64 1)) 3),zG 10 104]
instance : Live qon := ⟨[2,3,4,9,10]⟩
def qom : List SOp := [zL 115 88 9,⟨none,.store 88 (.tmp 2) (.tmp 115),none⟩]
instance : Live qom := ⟨[2,9]⟩
def qni : SC :=
 (.seq (.seq (.ops false z3d) (.cond (.tmp 28) .skip (.exit 2))) (.seq (.block 3 (.seq (.ops false z3c) (.opsW [41] qlo))) (.ops false z3b)))
def qnh : SC :=
 (.seq (.seq (.ops false qow) (.cond (.tmp 60) .skip (.exit 4))) (.seq (.block 5 (.seq (.ops false qov) (.seq (.ops false qou) (.cond (.tmp 78) (.seq (.opsW [84] qdw) (.opsW [95] qdv)) .skip)))) (.ops false qot)))
def qnj : SC :=
 (.seq (.seq (.ops false z3f) (.cond (.tmp 14) .skip (.exit 0))) (.seq (.block 1 (.seq (.seq (.ops false z3e) (.block 2 (.loop qni))) (.seq (.ops false qox) (.block 4 (.loop qnh))))) (.ops false qos)))
def qng : SC :=
 (.seq (.seq (.ops false qop) (.cond (.tmp 102) .skip (.exit 6))) (.seq (.block 7 (.ops true qoo)) (.ops false qon)))
def t_k88 : SC :=
 (.seq (.ops false z3i) (.seq (.ops false z3h) (.seq (.seq (.ops false z3g) (.block 0 (.loop qnj))) (.seq (.ops false qor) (.seq (.seq (.ops false qoq) (.block 6 (.loop qng))) (.seq (.ops false qom) .ret))))))
theorem it_k88 : FnIs Tryz.prog 88 116 [.cell 2 88] t_k88 := ⟨Tryz.f88, _, Tryz.func88, rfl, rfl, rfl, rfl, by kernel_rfl⟩

def q6e (t : Tab) : List AVal := t.map fun l => .own 1 (q04 (los l))
def q6f (t : Tab) : List AVal := t.map fun l => .own 1 (q04 (his l))
theorem qk6 (t : Tab) : (q6e t).length = t.length := by simp [q6e]
theorem qk9 (t : Tab) : (q6f t).length = t.length := by simp [q6f]
theorem qk7 {t : Tab} {r : Nat} (h : r < t.length) : (q6e t)[r]? = some (.own 1 (q04 (los (t.getD r [])))) := by simp [q6e, h]
theorem qka {t : Tab} {r : Nat} (h : r < t.length) : (q6f t)[r]? = some (.own 1 (q04 (his (t.getD r [])))) := by simp [q6f, h]
theorem qd6 {t : Tab} {r : Nat} (h : r < t.length) : ((q6e t).set r .hole)[r]? = some .hole := by simp [q6e, h]
theorem qd7 {t : Tab} {r : Nat} (h : r < t.length) : ((q6f t).set r .hole)[r]? = some .hole := by simp [q6f, h]
theorem qk8 {t : Tab} {r : Nat} (h : r < t.length) (x : Rn) : ((q6e t).set r .hole).set r (.own 1 (q04 (los (t.getD r []) ++ [x.1]))) = q6e (q5q t r x) := by
 rw [List.set_set]
 simp [q6e, q5q, los, List.map_set]
theorem qkb {t : Tab} {r : Nat} (h : r < t.length) (x : Rn) : ((q6f t).set r .hole).set r (.own 1 (q04 (his (t.getD r []) ++ [x.2]))) = q6f (q5q t r x) := by
 rw [List.set_set]
 simp [q6f, q5q, his, List.map_set]
theorem own_no (K : Nat → Bool) (t : Tab) (f : List Rn → List Int) : (ABlk.cells (t.map fun l => .own 1 (q04 (f l)))).no K = true := by
 simp only [ABlk.no, List.all_eq_true]
 intro x hx
 obtain ⟨l, _, rfl⟩ := List.mem_map.1 hx
 simp only [AVal.noC, List.all_eq_true]
 intro y hy
 exact q2a (q2j (q02 _) y hy)
theorem qym (K : Nat → Bool) (t : Tab) : (ABlk.cells (q6e t)).no K = true := own_no K t los
theorem qyp (K : Nat → Bool) (t : Tab) : (ABlk.cells (q6f t)).no K = true := own_no K t his
theorem zaq (l : List Rn) : (q04 (los l)).length = l.length := by simp [q04, los]
theorem zb0 (l : List Rn) : (q04 (his l)).length = l.length := by simp [q04, his]
def q50 (f : List Rn → List Int) (t : Tab) : List AVal := t.map fun l => .sl 1 (q04 (f l))
theorem qd3 (f : List Rn → List Int) (t : Tab) : q0m (q50 f t) = true := q3c fun l => q02 _
theorem qd4 (f : List Rn → List Int) {t : Tab} {r : Nat} (h : r < t.length) : (q50 f t)[r]? = some (.sl 1 (q04 (f (t.getD r [])))) := by simp [q50, h]
theorem zbt (t : Tab) : (q6e t).map frz = q50 los t := by simp [q6e, q50, frz]
theorem zby (t : Tab) : (q6f t).map frz = q50 his t := by simp [q6f, q50, frz]
def q2i (u : Tab) (r : Nat) : List AVal := ((u.take r).map fun l => .sl 1 (q04 (q1d l))) ++ List.replicate (16 - r) .nil
theorem qar (u : Tab) (r : Nat) : q0m (q2i u r) = true := by
 unfold q2i
 rw [qle, q3c (f := fun l => AVal.sl 1 (q04 (q1d l))) fun l => q02 _]
 simp only [Bool.true_and]
 exact qam fun x hx => by rw [(List.mem_replicate.1 hx).2]; rfl
theorem qlh (u : Tab) (h : u.length = 16) {r : Nat} (hr : r ≤ 16) : (q2i u r).length = 16 := by
 simp [q2i]
 omega
theorem qlg (u : Tab) (h : u.length = 16) {r : Nat} (hr : r < 16) : (q2i u r).set r (.sl 1 (q04 (q1d (u.getD r [])))) = q2i u (r + 1) := by
 have hru : r < u.length := by omega
 have hl : ((u.take r).map fun l => AVal.sl 1 (q04 (q1d l))).length = r := by simp; omega
 unfold q2i
 rw [List.set_append_right _ _ (by omega), hl, Nat.sub_self, show 16 - r = (16 - (r + 1)) + 1 by omega, List.replicate_succ, List.set_cons_zero]
 have e : u.take (r + 1) = u.take r ++ [u.getD r []] := by rw [List.take_add_one]; simp [hru]
 rw [e, List.map_append, List.append_assoc]
 rfl
theorem qli (u : Tab) (h : u.length = 16) : q2i u 16 = q11 (u.map q1d) := by
 unfold q2i
 rw [List.take_of_length_le (by omega)]
 simp [q11]
def qjm (ps : List Pst) : List (List Int) := (q27 ps).map q1d
theorem za9 (v : List Int) (u : Tab) (i : Nat) : q5q u i (1, q2d v i) = q2u v u i := rfl
theorem ev_k88 (ps : List Pst) (hl : ps.length ≤ 1000000000) (hw : (ps.map wt).sum ≤ 800000000) : Ev (En Tryz.prog rfl).P 88 [.sl 2 (q3v ps)] (.ret (.agg (q11 (qjm ps)))) := by
 refine Ev.of_body it_k88 (by simp) (Run.start ?_)
 unfold t_k88
 have e0 : (q3v ps).length = ps.length := qk4 _
 (focus (have hF := @e0; (repeat' (first | refine go1 (k:=?_) | with_reducible refine Ny.of ?_ ?_ | (refine Hyp.of ?_; intro hc; (try simp only [hc]); (try simp only [Bh] at hc)))); all_goals clear hF))
 have own0 : ∀ (f : List Rn → List Int), f [] = [] → ∀ (i : Nat) (x y : AVal), (List.replicate 16 AVal.nil)[i]? = some x → (q9l.map fun l => AVal.own 1 (q04 (f l)))[i]? = some y → y = x ∨ (x = .nil ∧ ∃ sz, y = .own sz []) := by
  intro f hf i x y hx hy
  rw [List.getElem?_replicate] at hx
  split at hx
  ·rename_i h16
   cases hx
   refine .inr ⟨rfl, 1, ?_⟩
   simp only [q9l, List.map_replicate, List.getElem?_replicate, h16, if_true, hf] at hy
   exact (Option.some.inj hy).symm
  ·cases hx
 refine Run.wk (Wk.trans (Wk.own_cells (k := 3) (cs' := q6e q9l) rfl rfl (own0 los rfl)) (Wk.own_cells (k := 4) (cs' := q6f q9l) rfl rfl (own0 his rfl))) ?_
 refine Run.while (σ := Nat) (fun i => ⟨tms [(0, .sl 2 (q3v ps)), (2, .ptr 2 0), (3, .ptr 3 0), (4, .ptr 4 0), (5, .int .i64 i)], mms [(2, .cells (List.replicate 16 .nil)), (3, .cells (q6e ((ps.take i).foldl q1s q9l))), (4, .cells (q6f ((ps.take i).foldl q1s q9l)))]⟩)
  (fun i => i ≤ ps.length) (fun i => ps.length - i) 0 (have hW := True.intro; q0v) (Nat.zero_le _) ?_
 intro i hi
 unfold qnj
 by_cases hlt : i < ps.length
 ·obtain ⟨p, hp⟩ : ∃ p, ps[i]? = some p := ⟨ps[i], by simp [hlt]⟩
  have hq0 := TabLe.all qlc (ps.take i)
  have hnext := q39 q1s q9l ps hp
  have hsum : ((ps.take i).map wt).sum + wt p ≤ (ps.map wt).sum := by
   have : ((ps.take (i + 1)).map wt).sum ≤ (ps.map wt).sum := by rw [List.map_take]; exact qag _
   rw [List.take_add_one, hp] at this
   simpa using this
  generalize (ps.take i).foldl q1s q9l = u0 at hq0 hnext ⊢
  generalize ((ps.take i).map wt).sum = m at hq0 hsum
  have hwt : wt p = p.vec.length + p.cloud.length := rfl
  have e1 : (q3v ps)[i]? = some (.agg [.sl 1 (q04 p.vec), .sl 3 (q0e p.cloud)]) := qk5 hp
  have e2 : (q04 p.vec).length = p.vec.length := q0b _
  have e3 : (q0e p.cloud).length = p.cloud.length := q16 _
  (focus (have hF := (aI (aI @e0 @e1) (aI @e2 @e3)); (repeat' (first | refine go1 (k:=?_) | with_reducible refine Ny.of ?_ ?_ | (refine Hyp.of ?_; intro hc; (try simp only [hc]); (try simp only [Bh] at hc)))); all_goals clear hF))
  refine Run.while (σ := Nat) (fun j => ⟨tms [(0, .sl 2 (q3v ps)), (2, .ptr 2 0), (3, .ptr 3 0), (4, .ptr 4 0), (5, .int .i64 i), (6, .int .i64 j)], mms [(2, .cells (List.replicate 16 .nil)), (3, .cells (q6e ((List.range j).foldl (q2u p.vec) u0))), (4, .cells (q6f ((List.range j).foldl (q2u p.vec) u0)))]⟩)
   (fun j => j ≤ min p.vec.length 16) (fun j => 16 - j) 0 (have hW := True.intro; q0v) (Nat.zero_le _) ?_
  intro j hj
  unfold qni
  by_cases hjl : j < min p.vec.length 16
  ·have hnx := q6m (v := p.vec) (t := u0) j
   obtain ⟨q1, q2⟩ := TabLe.range (v := p.vec) hq0 j
   generalize (List.range j).foldl (q2u p.vec) u0 = u at q1 q2 hnx ⊢
   have hju : j < u.length := by omega
   have g1 := qk6 u
   have g2 := qk9 u
   have g3 := qk7 hju
   have g4 := qka hju
   have g5 := qd6 hju
   have g6 := qd7 hju
   have g7 := qk8 hju (1, q2d p.vec j)
   have g8 := qkb hju (1, q2d p.vec j)
   dsimp only at g7 g8
   rw [za9, ← hnx] at g7 g8
   have hq := q2 j
   have g9 := zaq (u.getD j [])
   have g10 := zb0 (u.getD j [])
   have g11 : (q04 p.vec)[j]? = some (.int .i64 (q2d p.vec j)) := q0q (by simp [q2d, show j < p.vec.length by omega])
   (focus (have hF := (aI (aI (aI (aI @e0 @e1) (aI @e2 @e3)) (aI (aI @q1 @g1) (aI @g2 (aI @g3 @g4)))) (aI (aI (aI @g5 @g6) (aI @g7 @g8)) (aI (aI @g9 @g10) (aI @g11 (aI @q2v @List.length_set.{0}))))); (repeat' (first | refine go1 (k:=?_) | with_reducible refine Ny.of ?_ ?_ | (refine Hyp.of ?_; intro hc; (try simp only [hc]); (try simp only [Bh] at hc)))); all_goals clear hF))
   ((with_reducible apply toW); refine stW (fun j => false) (k:=?_))
   (focus (have hF := (aI (aI (aI (aI @e0 @e1) (aI @e2 @e3)) (aI (aI @q1 @g1) (aI @g2 (aI @g3 @g4)))) (aI (aI (aI @g5 @g6) (aI @g7 @g8)) (aI (aI @g9 @g10) (aI @g11 (aI @q2v @List.length_set.{0}))))); (repeat' (first | refine go1 (k:=?_) | with_reducible refine Ny.of ?_ ?_ | (refine Hyp.of ?_; intro hc; (try simp only [hc]); (try simp only [Bh] at hc)))); all_goals clear hF))
   (refine Fin.nextW (j + 1) ?_ (have hW := True.intro; q0v); (try dsimp only))
   omega
  ·have hjm : j = min p.vec.length 16 := by omega
   have hav : (List.range j).foldl (q2u p.vec) u0 = q55 p.vec u0 := by rw [hjm]; rfl
   rw [hav]
   have hqv : TabLe (q55 p.vec u0) (0 + m + min p.vec.length 16) := TabLe.range hq0 _
   have hnext' : (ps.take (i + 1)).foldl q1s q9l = q3e p.cloud (q55 p.vec u0) := hnext
   generalize q55 p.vec u0 = u1 at hqv hnext' ⊢
   clear hav
   have hguard : ¬ (j < p.vec.length ∧ j < 16) := by omega
   rcases Nat.lt_or_ge j p.vec.length with hjv | hjv
   all_goals
    clear hguard
    (focus (have hF := (aI (aI @e0 @e1) (aI @e2 @e3)); (repeat' (first | refine go1 (k:=?_) | with_reducible refine Ny.of ?_ ?_ | (refine Hyp.of ?_; intro hc; (try simp only [hc]); (try simp only [Bh] at hc)))); all_goals clear hF))
    refine Run.while (σ := Nat) (fun c => ⟨tms [(0, .sl 2 (q3v ps)), (2, .ptr 2 0), (3, .ptr 3 0), (4, .ptr 4 0), (5, .int .i64 i), (7, .int .i64 c)], mms [(2, .cells (List.replicate 16 .nil)), (3, .cells (q6e ((p.cloud.take c).foldl putSn u1))), (4, .cells (q6f ((p.cloud.take c).foldl putSn u1)))]⟩)
     (fun c => c ≤ p.cloud.length) (fun c => p.cloud.length - c) 0 (have hW := True.intro; q0v) (Nat.zero_le _) ?_
    intro c hc
    unfold qnh
    by_cases hcl : c < p.cloud.length
    ·obtain ⟨s, hs⟩ : ∃ s, p.cloud[c]? = some s := ⟨p.cloud[c], by simp [hcl]⟩
     have hnx := q39 putSn u1 p.cloud hs
     obtain ⟨q1, q2⟩ := TabLe.cloud hqv (p.cloud.take c)
     have hcl2 : (p.cloud.take c).length ≤ p.cloud.length := by rw [List.length_take]; omega
     generalize (p.cloud.take c).foldl putSn u1 = u at q1 q2 hnx ⊢
     have g0 : (q0e p.cloud)[c]? = some (.agg [.int .i64 s.1, .int .i64 s.2.1, .int .i64 s.2.2]) := q1x hs
     have g1 := qk6 u
     have g2 := qk9 u
     by_cases hin : 0 ≤ s.1 ∧ s.1 < 16
     ·rw [qy1 hin] at hnx
      obtain ⟨r, hr⟩ : ∃ r : Nat, s.1 = r := ⟨s.1.toNat, by omega⟩
      rw [hr, Int.toNat_natCast] at hnx
      have hru : r < u.length := by omega
      have g3 := qk7 hru
      have g4 := qka hru
      have g5 := qd6 hru
      have g6 := qd7 hru
      have g7 := qk8 hru s.2
      have g8 := qkb hru s.2
      rw [← hnx] at g7 g8
      have hq := q2 r
      have g9 := zaq (u.getD r [])
      have g10 := zb0 (u.getD r [])
      (focus (have hF := (aI (aI (aI @e0 @e1) (aI @e2 @e3)) (aI (aI @hr @q1) (aI @g0 (aI @g1 @g2)))); (repeat' (first | refine go1 (k:=?_) | with_reducible refine Ny.of ?_ ?_ | (refine Hyp.of ?_; intro hc; (try simp only [hc]); (try simp only [Bh] at hc)))); all_goals clear hF))
      ((with_reducible apply toW); refine stW (fun j => j == 8) (k:=?_))
      (focus (have hF := (aI (aI (aI (aI @e0 @e1) (aI @e2 @e3)) (aI (aI @hr @q1) (aI @g0 (aI @g1 @g2)))) (aI (aI (aI @g3 @g4) (aI @g5 (aI @g6 @g7))) (aI (aI @g8 @g9) (aI @g10 (aI @q2v @List.length_set.{0}))))); (repeat' (first | refine go1 (k:=?_) | with_reducible refine Ny.of ?_ ?_ | (refine Hyp.of ?_; intro hc; (try simp only [hc]); (try simp only [Bh] at hc)))); all_goals clear hF))
      ((with_reducible apply toW); refine stW (fun j => j == 8) (k:=?_))
      (focus (have hF := (aI (aI (aI (aI @e0 @e1) (aI @e2 @e3)) (aI (aI @hr @q1) (aI @g0 (aI @g1 @g2)))) (aI (aI (aI @g3 @g4) (aI @g5 (aI @g6 @g7))) (aI (aI @g8 @g9) (aI @g10 (aI @q2v @List.length_set.{0}))))); (repeat' (first | refine go1 (k:=?_) | with_reducible refine Ny.of ?_ ?_ | (refine Hyp.of ?_; intro hc; (try simp only [hc]); (try simp only [Bh] at hc)))); all_goals clear hF))
      (refine Fin.nextW (c + 1) ?_ (have hW := True.intro; q0v); (try dsimp only))
      omega
     ·rw [qay hin] at hnx
      by_cases hin1 : 0 ≤ s.1
      ·have hin2 : ¬ s.1 < 16 := fun h => hin ⟨hin1, h⟩
       (focus (have hF := (aI (aI (aI @e0 @e1) (aI @e2 @e3)) (aI (aI @q1 @g0) (aI @g1 @g2))); (repeat' (first | refine go1 (k:=?_) | with_reducible refine Ny.of ?_ ?_ | (refine Hyp.of ?_; intro hc; (try simp only [hc]); (try simp only [Bh] at hc)))); all_goals clear hF))
       (refine Fin.nextW (c + 1) ?_ (have hW := @hnx; q0v); (try dsimp only))
       omega
      ·(focus (have hF := (aI (aI (aI @e0 @e1) (aI @e2 @e3)) (aI (aI @q1 @g0) (aI @g1 @g2))); (repeat' (first | refine go1 (k:=?_) | with_reducible refine Ny.of ?_ ?_ | (refine Hyp.of ?_; intro hc; (try simp only [hc]); (try simp only [Bh] at hc)))); all_goals clear hF))
       (refine Fin.nextW (c + 1) ?_ (have hW := @hnx; q0v); (try dsimp only))
       omega
    ·have hce : c = p.cloud.length := by omega
     have hcf : (p.cloud.take c).foldl putSn u1 = (ps.take (i + 1)).foldl q1s q9l := by rw [hnext', hce, List.take_length]; rfl
     rw [hcf]
     (focus (have hF := (aI (aI @e0 @e1) (aI @e2 @e3)); (repeat' (first | refine go1 (k:=?_) | with_reducible refine Ny.of ?_ ?_ | (refine Hyp.of ?_; intro hc; (try simp only [hc]); (try simp only [Bh] at hc)))); all_goals clear hF))
     (refine Fin.nextW (i + 1) ?_ (have hW := True.intro; q0v); (try dsimp only))
     omega
 ·have hie : i = ps.length := by omega
  have hop : (ps.take i).foldl q1s q9l = q27 ps := by rw [hie, List.take_length]; rfl
  rw [hop]
  obtain ⟨q1, q2⟩ := q3s ps
  unfold qjm
  generalize q27 ps = u at q1 q2 ⊢
  (focus (have hF := @e0; (repeat' (first | refine go1 (k:=?_) | with_reducible refine Ny.of ?_ ?_ | (refine Hyp.of ?_; intro hc; (try simp only [hc]); (try simp only [Bh] at hc)))); all_goals clear hF))
  refine Run.wk (Wk.trans (Wk.freeze (k := 3) (cs := q6e u) rfl) (Wk.freeze (k := 4) (cs := q6f u) rfl)) ?_
  rw [zbt, zby]
  refine Run.while (σ := Nat) (fun r => ⟨tms [(2, .ptr 2 0), (3, .ptr 3 0), (4, .ptr 4 0), (9, .ptr 9 0), (10, .int .i64 r)], mms [(2, .cells (List.replicate 16 .nil)), (3, .cells (q50 los u)), (4, .cells (q50 his u)), (9, .cells (q2i u r))]⟩)
   (fun r => r ≤ 16) (fun r => 16 - r) 0 (have hW := (aI @qd3 @qar); q0v) (Nat.zero_le _) ?_
  intro r hr
  have g0 := qlh u q1 hr
  unfold qng
  by_cases hlt : r < 16
  ·have hru : r < u.length := by omega
   have hq := q2 r
   have g1 : (q50 los u).length = u.length := by simp [q50]
   have g2 : (q50 his u).length = u.length := by simp [q50]
   have g3 := qd4 los hru
   have g4 := qd4 his hru
   have g5 := qlg u q1 hlt
   have g6 : (q2i u r).take r ++ AVal.sl 1 (q04 (q1d (u.getD r []))) :: (q2i u r).drop (r + 1) = q2i u (r + 1) := by rw [← g5, List.set_eq_take_append_cons_drop, if_pos (by omega)]
   (focus (have hF := (aI (aI @q1 (aI @g0 @g1)) (aI (aI @g2 @g3) (aI @g4 @g5))); (repeat' (first | refine go1 (k:=?_) | with_reducible refine Ny.of ?_ ?_ | (refine Hyp.of ?_; intro hc; (try simp only [hc]); (try simp only [Bh] at hc)))); all_goals clear hF))
   refine q05 [.sl 1 (q04 (los (u.getD r []))), .sl 1 (q04 (his (u.getD r [])))] (he := ev_k120 _ (by omega)) (k:=?_)
   (focus (have hF := (aI (aI (aI @q1 @g0) (aI @g1 (aI @g2 @g3))) (aI (aI @g4 @g5) (aI @g6 (aI @List.cons_append.{0} @List.nil_append.{0})))); (repeat' (first | refine go1 (k:=?_) | with_reducible refine Ny.of ?_ ?_ | (refine Hyp.of ?_; intro hc; (try simp only [hc]); (try simp only [Bh] at hc)))); all_goals clear hF))
   have g7 : List.take r (q2i u r) ++ AVal.sl 1 (q04 (q1d (u[r]?.getD []))) :: List.drop (r + 1) (q2i u r) = q2i u (r + 1) := by simpa using g6
   (refine Fin.nextW (r + 1) ?_ (have hW := (aI @qd3 (aI @qar @g7)); q0v); (try dsimp only))
   omega
  ·have hre : r = 16 := by omega
   subst hre
   have g1 := qli u q1
   have g2 : (q11 (u.map q1d)).length = 16 := by simp [q11, q1]
   have g3 := q6r (u.map q1d)
   rw [g1]
   have htk : (q11 (u.map q1d)).take 16 = q11 (u.map q1d) := List.take_of_length_le (by omega)
   have g4 : (q11 (u.map q1d)).all AVal.plain = true := by
    rw [List.all_eq_true]
    intro x hx
    obtain ⟨l, _, rfl⟩ := List.mem_map.1 hx
    rfl
   have g5 : (List.replicate 16 AVal.nil).drop 16 = [] := rfl
   (focus (have hF := (aI (aI @g2 (aI @g3 @g4)) (aI @g5 (aI @htk @List.length_replicate.{0}))); (repeat' (first | refine go1 (k:=?_) | with_reducible refine Ny.of ?_ ?_ | (refine Hyp.of ?_; intro hc; (try simp only [hc]); (try simp only [Bh] at hc)))); all_goals clear hF))
   refine Fin.all (xs := [.agg (q11 (u.map q1d))]) ?_ (by simp [q0m, AVal.stb, q3z]) rfl
   simp [q4f, q7v, qf8, TE_0, TE_3, TE_16, TE_22, TE_23, TE_25, TE_82, TE_86, TE_88, TE_128, TE_222, TE_224, TD.isAgg, upd, tms, g2, htk, qk3]

theorem qd5 {t : List (List Int)} {r : Nat} (h : r < t.length) : (q11 t)[r]? = some (.sl 1 (q04 (t.getD r []))) := by simp [q11, h]


def LoopP (n : Nat) (s2 : AS) (I : Prop) (Q : Ex → AS → Prop) : Ex → AS → Prop := Ex.then (fun s' => Wk n s' s2 ∧ I) Q
theorem Fin.nextP {E : Env} {n : Nat} {s s2 : AS} {I : Prop} {Q' : Ex → AS → Prop} (h : Wk n s s2) (hi : I) : Fin E n (LoopP n s2 I Q') .done .normal s := ⟨h, hi⟩
theorem Fin.outP_ret {E : Env} {n : Nat} {s s2 : AS} {I : Prop} {Q : Ex → AS → Prop} {k : Kont} (h : Fin E n Q k .ret s) : Fin E n (LoopP n s2 I (KQ E n Q k)) .done .ret s := h
theorem Run.rangeP {E : Env} {n : Nat} {Q : Ex → AS → Prop} {k : Kont} {s : AS} {x : SC} (len : Nat) (S : Nat → AS) (I : Nat → Prop) (h0 : Wk n s (S 0)) (hI : I 0) (round : ∀ i, i < len → I i → Run E n (LoopP n (S (i + 1)) (I (i + 1)) (KQ E n Q k)) x .done (S i))
 (last : I len → Run E n (Ex.then (fun _ => False) (KQ E n Q k)) x .done (S len)) : Run E n Q (.loop x) k s := by
 refine Run.wk h0 (Run.loop (fun m s => ∃ i, i ≤ len ∧ m = len - i ∧ s = S i ∧ I i) (m0 := len) ⟨0, Nat.zero_le _, rfl, rfl, hI⟩ fun m s ⟨i, hi, hm, hs, hIi⟩ => ?_)
 subst hs
 by_cases hl : i < len
 ·refine AW.mono (round i hl hIi) fun e s' h => ?_
  cases e with
  | normal => exact ⟨len - (i + 1), S (i + 1), by omega, h.1, i + 1, hl, rfl, rfl, h.2⟩
  | _ => exact h
 ·have : i = len := by omega
  subst this
  refine AW.mono (last hIi) fun e s' h => ?_
  cases e with
  | normal => exact h.elim
  | _ => exact h
def q9e (r m : Int) : Bool := decide (0 ≤ r) && (decide (r < 16) && (decide (1 ≤ m) && decide (m ≤ 1000000000)))

def putDot (t : Tab) (d : Rn) : Tab := if q9e d.1 d.2 = true then q5q t d.1.toNat (d.2, d.2) else t
theorem TabLe.dot {t : Tab} {n : Nat} (h : TabLe t n) (d : Rn) : TabLe (putDot t d) (n + 1) := by
 unfold putDot
 split
 ·exact h.add _ _
 ·exact h.mono (by omega)

def z3a : List SOp := [zO 1 (.box 25 (.tmp 0)),zO 2 (.alloc 25)]
instance : Live z3a := ⟨[0]⟩
def z38 : List SOp := [zL 3 25 1,zO 4 (.buildSlice 128 1 #[(0,.tmp 3)]),zO 5 (.call ⟨.value (.func 121),#[.tmp 4],#[128]⟩),zO 6 (.call ⟨.value (.func 122),#[.tmp 5],#[158]⟩),⟨none,.store 25 (.tmp 2) (.tmp 6),none⟩]
instance : Live z38 := ⟨[1,2]⟩
def t_k89 : SC :=
 (.seq (.ops false z3a) (.seq (.ops false z38) .ret))
theorem it_k89 : FnIs Tryz.prog 89 7 [.cell 2 25] t_k89 := ⟨Tryz.f89, _, Tryz.func89, rfl, rfl, rfl, rfl, by kernel_rfl⟩

theorem zbh (p : Pst) (q : Pst) (hw : wt p ≤ 900000000) (h52 : Ev (En Tryz.prog rfl).P 122 [.sptr (q6d (q27 [p]))] (.ret (q1k q))) : Ev (En Tryz.prog rfl).P 89 [q1k p] (.ret (q1k q)) := by
 refine Ev.of_body it_k89 (by simp) (Run.start ?_)
 have hpx : q1k p = .agg [.sl 1 (q04 p.vec), .sl 3 (q0e p.cloud)] := rfl
 unfold t_k89
 rw [hpx]
 (focus (have hF := True.intro; (repeat' (first | refine go0 (k:=?_) | fail)); all_goals clear hF))
 refine q4l (l := [.sl 2 (q3v [p])]) rfl rfl (by simp [q0m, AVal.stb, q0h]) (zbr [p] (by simp) (by simpa using hw)) ?_
 (focus (have hF := True.intro; (repeat' (first | refine go0 (k:=?_) | fail)); all_goals clear hF))
 refine q4l (l := [.sptr (q6d (q27 [p]))]) rfl rfl (by simp [q0m, AVal.stb, q2z]) h52 ?_
 unfold q1k
 (focus (have hF := True.intro; (repeat' (first | refine go0 (k:=?_) | fail)); all_goals clear hF))
 exact Fin.all rfl (by simp [q0m, AVal.stb, q02, q03, fzc, q70]) rfl


def inT (t : Tab) (r : Nat) (n : Int) : Prop := mem1 (t.getD r []) n
def inP (p : Pst) (r : Nat) (n : Int) : Prop := r < 16 ∧ 1 ≤ n ∧ n ≤ 1000000000 ∧ ((r < p.vec.length ∧ n ≤ q2d p.vec r) ∨ ∃ s ∈ p.cloud, s.1 = (r : Int) ∧ s.2.1 ≤ n ∧ n ≤ s.2.2)
theorem qc3 {t : Tab} (k : Nat) (x : Rn) (r : Nat) : (q5q t k x).getD r [] = if r = k ∧ k < t.length then t.getD r [] ++ [x] else t.getD r [] := by
 unfold q5q
 simp only [List.getD_eq_getElem?_getD, List.getElem?_set]
 by_cases h : k = r
 ·subst h
  by_cases h2 : k < t.length
  ·simp [h2]
  ·simp [h2]
 ·rw [if_neg h, if_neg (fun hh => h hh.1.symm)]
theorem qgd (v : List Int) (t : Tab) (ht : t.length = 16) : ∀ i, i ≤ 16 → ((List.range i).foldl (q2u v) t).length = 16 ∧ ∀ r, ((List.range i).foldl (q2u v) t).getD r [] = if r < i then t.getD r [] ++ [(1, q2d v r)] else t.getD r []
 | 0, _ => ⟨ht, fun r => by simp⟩
 | i + 1, hi => by
  obtain ⟨h1, h2⟩ := qgd v t ht i (by omega)
  rw [q6m]
  generalize (List.range i).foldl (q2u v) t = u at h1 h2 ⊢
  refine ⟨by unfold q2u; rw [qc4, h1], fun r => ?_⟩
  unfold q2u
  rw [qc3, h1, h2]
  by_cases hr : r = i
  ·subst hr
   rw [if_pos ⟨rfl, by omega⟩, if_neg (by omega), if_pos (by omega)]
  ·rw [if_neg (fun h => hr h.1)]
   by_cases hlt : r < i
   ·rw [if_pos hlt, if_pos (by omega)]
   ·rw [if_neg hlt, if_neg (by omega)]
def q7c (c : List Sn) (r : Nat) : List Rn := (c.filter fun s => decide (s.1 = (r : Int))).map fun s => s.2
theorem qkh (r : Nat) (hr : r < 16) : ∀ (c : List Sn) (t : Tab), t.length = 16 → (q3e c t).length = 16 ∧ (q3e c t).getD r [] = t.getD r [] ++ q7c c r
 | [], t, ht => ⟨ht, by simp [q3e, q7c]⟩
 | s :: c, t, ht => by
  have hl : (putSn t s).length = 16 := by
   unfold putSn
   split
   ·rw [qc4, ht]
   ·exact ht
  obtain ⟨h1, h2⟩ := qkh r hr c (putSn t s) hl
  refine ⟨h1, ?_⟩
  show (q3e c (putSn t s)).getD r [] = _
  rw [h2]
  unfold putSn q7c
  rw [List.filter_cons]
  by_cases hs : s.1 = (r : Int)
  ·rw [if_pos (by omega), qc3, if_pos ⟨by omega, by omega⟩]
   simp [hs]
  ·simp only [hs, decide_false, Bool.false_eq_true, if_false]
   split
   ·rw [qc3, if_neg (by omega)]
   ·rfl
theorem qzd (c : List Sn) (r : Nat) (n : Int) : inR (q7c c r) n ↔ ∃ s ∈ c, s.1 = (r : Int) ∧ s.2.1 ≤ n ∧ n ≤ s.2.2 := by
 constructor
 ·rintro ⟨x, hx, h1, h2⟩
  simp only [q7c, List.mem_map, List.mem_filter, decide_eq_true_eq] at hx
  obtain ⟨s, ⟨hs, hr⟩, rfl⟩ := hx
  exact ⟨s, hs, hr, h1, h2⟩
 ·rintro ⟨s, hs, hr, h1, h2⟩
  exact ⟨s.2, by simp only [q7c, List.mem_map, List.mem_filter, decide_eq_true_eq]; exact ⟨s, ⟨hs, hr⟩, rfl⟩, h1, h2⟩
theorem zai {t : Tab} (ht : t.length = 16) (p : Pst) {r : Nat} (hr : r < 16) : (q1s t p).length = 16 ∧ (q1s t p).getD r [] = (if r < p.vec.length then t.getD r [] ++ [(1, q2d p.vec r)] else t.getD r []) ++ q7c p.cloud r := by
 obtain ⟨h1, h2⟩ := qgd p.vec t ht (min p.vec.length 16) (by omega)
 obtain ⟨h3, h4⟩ := qkh r hr p.cloud (q55 p.vec t) h1
 refine ⟨h3, ?_⟩
 show (q3e p.cloud (q55 p.vec t)).getD r [] = _
 rw [h4]
 unfold q55
 rw [h2]
 by_cases h : r < p.vec.length
 ·rw [if_pos h, if_pos (by omega)]
 ·rw [if_neg h, if_neg (by omega)]
theorem one_in {t : Tab} (ht : t.length = 16) (p : Pst) {r : Nat} (hr : r < 16) (n : Int) : inT (q1s t p) r n ↔ inT t r n ∨ inP p r n := by
 unfold inT mem1
 rw [(zai ht p hr).2, q38, qzd]
 unfold inP
 constructor
 ·rintro ⟨h1, h2, h | h⟩
  ·split at h
   ·rename_i hv
    rcases (q38 _ _ _).1 h with h | h
    ·exact .inl ⟨h1, h2, h⟩
    ·exact .inr ⟨hr, h1, h2, .inl ⟨hv, ((q8w _ _).1 h).2⟩⟩
   ·exact .inl ⟨h1, h2, h⟩
  ·exact .inr ⟨hr, h1, h2, .inr h⟩
 ·rintro (⟨h1, h2, h⟩ | ⟨_, h1, h2, h | h⟩)
  ·refine ⟨h1, h2, .inl ?_⟩
   split
   ·exact (q38 _ _ _).2 (.inl h)
   ·exact h
  ·refine ⟨h1, h2, .inl ?_⟩
   rw [if_pos h.1]
   exact (q38 _ _ _).2 (.inr ((q8w _ _).2 ⟨h1, h.2⟩))
  ·exact ⟨h1, h2, .inr h⟩
theorem tab0_in (r : Nat) (n : Int) : ¬ inT q9l r n := by
 unfold inT mem1
 rintro ⟨_, _, h⟩
 have : q9l.getD r [] = [] := by
  unfold q9l
  rw [List.getD_eq_getElem?_getD, List.getElem?_replicate]
  split <;> rfl
 rw [this] at h
 exact q4s n h
theorem qb2 {r : Nat} (hr : r < 16) (n : Int) : ∀ (ps : List Pst) (t : Tab), t.length = 16 → (inT (ps.foldl q1s t) r n ↔ inT t r n ∨ ∃ p ∈ ps, inP p r n)
 | [], t, ht => by simp
 | p :: ps, t, ht => by
  rw [List.foldl_cons, qb2 hr n ps _ (zai ht p hr).1, one_in ht p hr]
  constructor
  ·rintro ((h | h) | ⟨q, hq, h⟩)
   ·exact .inl h
   ·exact .inr ⟨p, by simp, h⟩
   ·exact .inr ⟨q, by simp [hq], h⟩
  ·rintro (h | ⟨q, hq, h⟩)
   ·exact .inl (.inl h)
   ·rcases List.mem_cons.1 hq with rfl | hq
    ·exact .inl (.inr h)
    ·exact .inr ⟨q, hq, h⟩
theorem zae {r : Nat} (hr : r < 16) (ps : List Pst) (n : Int) : inT (q27 ps) r n ↔ ∃ p ∈ ps, inP p r n := by
 unfold q27
 rw [qb2 hr n ps q9l rfl]
 exact ⟨fun h => h.elim (fun h => absurd h (tab0_in r n)) id, .inr⟩
theorem qzr {m : List Rn} (h : Can m) : Can (q1p m).2 ∧ 0 ≤ (q1p m).1 ∧ (q1p m).1 ≤ 1000000000 ∧ ∀ n, inR (q1p m).2 n → (q1p m).1 + 1 < n := by
 cases m with
 | nil => exact ⟨Can.nil, by simp [q1p], by simp [q1p], fun n hn => absurd hn (q4s n)⟩
 | cons x l =>
  have hx := (Can.cons_iff.1 h).1
  unfold okR at hx
  by_cases h1 : x.1 = 1
  ·rw [qa1 h1]
   exact ⟨h.tail, by show 0 ≤ x.2; omega, hx.2.2, fun n hn => h.above hn⟩
  ·rw [qa0 h1]
   refine ⟨h, Int.le_refl _, by show (0 : Int) ≤ _; omega, fun n hn => ?_⟩
   show (0 : Int) + 1 < n
   rcases (q1e x l n).1 hn with hn | hn
   ·omega
   ·have := h.above hn; omega
theorem qco (t : Tab) : ∀ (m r : Nat), r < m → q2x t m ≤ r → q5g t r ≤ 0
 | 0, r, hr, _ => by omega
 | m + 1, r, hr, h => by
  rw [q6k] at h
  split at h
  ·omega
  ·rename_i hl
   by_cases hrm : r = m
   ·subst hrm; omega
   ·exact qco t m r (by omega) h
theorem qzq (t : Tab) {m r : Nat} (h : r < m) : (q26 t m)[r]? = some (q5g t r) := by simp [q26, h]
theorem zay (a b : Int) : q9e a b = true ↔ 0 ≤ a ∧ a < 16 ∧ 1 ≤ b ∧ b ≤ 1000000000 := by
 simp only [q9e, Bool.and_eq_true, decide_eq_true_eq]
theorem zap (ps : List Pst) : (qjm ps).length = 16 := by
 unfold qjm
 rw [List.length_map]
 exact (q3s ps).1
def q29 (p : Pst) : Pst := q64 (q27 [p])
def joinP (ps : List Pst) : Pst := q64 (q27 ps)

def qr5 : List SOp := [zO 2 (.assign (.const (.int .i64 0)))]
instance : Live qr5 := ⟨[0]⟩
def qr4 : List SOp := [zO 3 (.assign (.const (.int .i64 0)))]
instance : Live qr4 := ⟨[0]⟩
def qr3 : List SOp := [zM 6 0,zO 7 (.call ⟨.value (.func 150),#[.tmp 6],#[173]⟩),zO 8 (.call ⟨.builtin .len,#[.tmp 7],#[173]⟩),zO 9 (.move (.const (.int .i64 0)))]
instance : Live qr3 := ⟨[0,3]⟩
def qr2 : List SOp := [zO 10 (.binOp .lss 3 (.tmp 9) (.tmp 8) 3)]
instance : Live qr2 := ⟨[3,7,8,9]⟩
def qr1 : List SOp := [zI 11 173 7 9,zL 12 177 11,zO 5 (.alloc 177),⟨none,.store 177 (.tmp 5) (.tmp 12),none⟩]
instance : Live qr1 := ⟨[3,7,8,9]⟩
def qr0 : List SOp := [zM 13 3,zF 14 177 5 1,zL 15 3 14,zF 16 177 5 0,zL 17 3 16,zO 18 (.binOp .sub 3 (.tmp 15) (.tmp 17) 3),zO 19 (.binOp .add 3 (.tmp 18) (.const (.int .i64 1)) 3),zO 20 (.binOp .add 3 (.tmp 13) (.tmp 19) 3),zG 3 20]
instance : Live qr0 := ⟨[3,5,7,8,9]⟩
def qqz : List SOp := [zO 21 (.binOp .add 3 (.tmp 9) (.const (.int .i64 1)) 3),zM 9 21]
instance : Live qqz := ⟨[3,7,8,9]⟩
def qqy : List SOp := [zM 22 3,zG 2 22]
instance : Live qqy := ⟨[3]⟩
def qah : SC :=
 (.seq (.ops false qr2) (.seq (.cond (.tmp 10) .skip (.exit 0)) (.seq (.block 1 (.seq (.ops false qr1) (.ops false qr0))) (.ops false qqz))))
def t_k155 : SC :=
 (.seq (.ops false qr5) (.seq (.ops false qr4) (.seq (.seq (.ops false qr3) (.block 0 (.loop qah))) (.seq (.ops false qqy) .ret))))
theorem it_k155 : FnIs Tryz.prog 155 23 [.tmp 2] t_k155 := ⟨Tryz.f155, _, Tryz.func155, rfl, rfl, rfl, rfl, by kernel_rfl⟩

def q18 (a : Int) (r : Rn) : Int := a + (r.2 - r.1 + 1)
def qdr (m : List Rn) : Int := m.foldl q18 0
def zaj (m : List Rn) : Prop := ∀ r ∈ m, 1 ≤ r.1 ∧ r.1 ≤ r.2 ∧ r.2 ≤ 1000000000
theorem q7e {m : List Rn} (h : zaj m) (a : Int) : a ≤ m.foldl q18 a ∧ m.foldl q18 a ≤ a + 1000000000 * (m.length : Int) := by
 induction m generalizing a with
 | nil => simp
 | cons r m ih =>
  have h1 := h r (by simp)
  have h2 := ih (fun x hx => h x (by simp [hx])) (q18 a r)
  simp only [List.foldl_cons, List.length_cons]
  unfold q18 at h2 ⊢
  omega
theorem z01 (l m : List Rn) (hm : m.length ≤ 1000000000) (hr : zaj m) (hN : Ev (En Tryz.prog rfl).P 150 [.sl 2 (q0c l)] (.ret (.sl 2 (q0c m)))) : Ev (En Tryz.prog rfl).P 155 [.sl 2 (q0c l)] (.ret (.int .i64 (qdr m))) := by
 refine Ev.of_body it_k155 (by simp) (Run.start ?_)
 unfold t_k155
 have e0 : (q0c m).length = m.length := q30 m
 (focus (have hF := True.intro; (repeat' (first | refine go0 (k:=?_) | fail)); all_goals clear hF))
 refine q4l (l := [.sl 2 (q0c l)]) rfl rfl (by simp [q0m, AVal.stb, q09]) hN ?_
 (focus (have hF := @e0; (repeat' (first | refine go0 (k:=?_) | fail)); all_goals clear hF))
 refine Run.range m.length (fun i => ⟨tms [(3, .int .i64 ((m.take i).foldl q18 0)), (7, .sl 2 (q0c m)), (8, .int .i64 m.length), (9, .int .i64 i)], NoM⟩) (Wk.clean _ ⟨rfl, rfl, rfl, rfl, trivial⟩ ⟨rfl, q09 m, rfl, rfl, trivial⟩) (fun i hi => ?_) ?_
 ·obtain ⟨r, hx⟩ : ∃ r, m[i]? = some r := ⟨m[i], by simp [hi]⟩
  have hrr := hr r (List.mem_of_getElem? hx)
  have hb := q7e (m := m.take i) (fun x hx => hr x (List.mem_of_mem_take hx)) 0
  have hlen : (m.take i).length ≤ 1000000000 := by rw [List.length_take]; omega
  rw [q39 q18 0 m hx]
  generalize (m.take i).foldl q18 0 = a at hb ⊢
  have e1 : ((i : Int) < (m.length : Int)) = True := by simp only [eq_iff_iff, iff_true]; omega
  have e2 : (0 ≤ (i : Int)) = True := by simp
  have e3 : (q0c m)[i]? = some (.agg [.int .i64 r.1, .int .i64 r.2]) := q8g hx
  have e4 : IntKind.i64.wrap (r.2 - r.1) = r.2 - r.1 := q3k (by omega)
  have e5 : IntKind.i64.wrap (r.2 - r.1 + 1) = r.2 - r.1 + 1 := q3k (by omega)
  have e6 : IntKind.i64.wrap (a + (r.2 - r.1 + 1)) = a + (r.2 - r.1 + 1) := q3k (by omega)
  have e13 : IntKind.i64.wrap ((i : Int) + 1) = ((i + 1 : Nat) : Int) := by rw [q3k (by omega)]; omega
  unfold qah
  (focus (have hF := (aI (aI (aI @e0 @e1) (aI @e2 @e3)) (aI (aI @e4 @e5) (aI @e6 @e13))); (repeat' (first | refine go0 (k:=?_) | fail)); all_goals clear hF))
  exact Fin.next (Wk.clean _ ⟨rfl, rfl, rfl, rfl, trivial⟩ ⟨rfl, q09 m, rfl, rfl, trivial⟩)
 ·have e1 : ((m.length : Int) < (m.length : Int)) = False := by simp
  have e3 : m.take m.length = m := List.take_length
  rw [e3]
  unfold qah
  (focus (have hF := (aI @e0 @e1); (repeat' (first | refine go0 (k:=?_) | fail)); all_goals clear hF))
  exact Fin.tmp' rfl rfl

def z9w : List SOp := [zO 2 (.box 25 (.tmp 0)),zO 3 (.box 25 (.tmp 1)),zO 4 (.assign (.const (.bool false)))]
instance : Live z9w := ⟨[0,1]⟩
def z9v : List SOp := [zF 7 25 2 0,zL 8 22 7,zO 9 (.call ⟨.builtin .len,#[.tmp 8],#[22]⟩),zF 10 25 3 0,zL 11 22 10,zO 12 (.call ⟨.builtin .len,#[.tmp 11],#[22]⟩),zO 13 (.binOp .neq 3 (.tmp 9) (.tmp 12) 3),zM 14 13,⟨some 15,.fieldAddr 25 (.tmp 2) 1,some ((some 14),false)⟩,⟨some 16,.load 23 (.tmp 15),some ((some 14),false)⟩,⟨some 17,.call ⟨.builtin .len,#[.tmp 16],#[23]⟩,some ((some 14),false)⟩,⟨some 18,.fieldAddr 25 (.tmp 3) 1,some ((some 14),false)⟩,⟨some 19,.load 23 (.tmp 18),some ((some 14),false)⟩,⟨some 20,.call ⟨.builtin .len,#[.tmp 19],#[23]⟩,some ((some 14),false)⟩,⟨some 21,.binOp .neq 3 (.tmp 17) (.tmp 20) 3,some ((some 14),false)⟩,zO 22 (.pick (.tmp 14) (.const (.bool true)) (.tmp 21))]
instance : Live z9v := ⟨[2,3]⟩
def z9u : List SOp := [zO 4 (.assign (.const (.bool false)))]
instance : Live z9u := ⟨[]⟩
def z9t : List SOp := [zO 5 (.assign (.const (.int .i64 0)))]
instance : Live z9t := ⟨[2,3]⟩
def z9s : List SOp := [zM 23 5,zF 24 25 2 0,zL 25 22 24,zO 26 (.call ⟨.builtin .len,#[.tmp 25],#[22]⟩),zO 27 (.binOp .lss 3 (.tmp 23) (.tmp 26) 3)]
instance : Live z9s := ⟨[2,3,5]⟩
def z9r : List SOp := [zF 30 25 2 0,zL 31 22 30,zM 32 5,zI 33 22 31 32,zL 34 3 33,zF 35 25 3 0,zL 36 22 35,zM 37 5,zI 38 22 36 37,zL 39 3 38,zO 40 (.binOp .neq 3 (.tmp 34) (.tmp 39) 3)]
instance : Live z9r := ⟨[2,3,5]⟩
def z9q : List SOp := [zO 4 (.assign (.const (.bool false)))]
instance : Live z9q := ⟨[]⟩
def z9p : List SOp := [zM 28 5,zO 29 (.binOp .add 3 (.tmp 28) (.const (.int .i64 1)) 3),zG 5 29]
instance : Live z9p := ⟨[2,3,5]⟩
def z9o : List SOp := [zO 6 (.assign (.const (.int .i64 0)))]
instance : Live z9o := ⟨[2,3]⟩
def qrm : List SOp := [zM 41 6,zF 42 25 2 1,zL 43 23 42,zO 44 (.call ⟨.builtin .len,#[.tmp 43],#[23]⟩),zO 45 (.binOp .lss 3 (.tmp 41) (.tmp 44) 3)]
instance : Live qrm := ⟨[2,3,6]⟩
def qrl : List SOp := [zF 48 25 2 1,zL 49 23 48,zM 50 6,zI 51 23 49 50,zL 52 82 51,zF 53 25 3 1,zL 54 23 53,zM 55 6,zI 56 23 54 55,zL 57 82 56,zO 58 (.binOp .neq 82 (.tmp 52) (.tmp 57) 82)]
instance : Live qrl := ⟨[2,3,6]⟩
def qrk : List SOp := [zO 4 (.assign (.const (.bool false)))]
instance : Live qrk := ⟨[]⟩
def qrj : List SOp := [zM 46 6,zO 47 (.binOp .add 3 (.tmp 46) (.const (.int .i64 1)) 3),zG 6 47]
instance : Live qrj := ⟨[2,3,6]⟩
def qri : List SOp := [zO 4 (.assign (.const (.bool true)))]
instance : Live qri := ⟨[]⟩
def qdn : SC :=
 (.seq (.seq (.ops false z9s) (.cond (.tmp 27) .skip (.exit 0))) (.seq (.block 1 (.seq (.ops true z9r) (.cond (.tmp 40) (.seq (.ops false z9q) .ret) .skip))) (.ops false z9p)))
def qdm : SC :=
 (.seq (.seq (.ops false qrm) (.cond (.tmp 45) .skip (.exit 2))) (.seq (.block 3 (.seq (.ops true qrl) (.cond (.tmp 58) (.seq (.ops false qrk) .ret) .skip))) (.ops false qrj)))
def t_k14 : SC :=
 (.seq (.ops false z9w) (.seq (.seq (.ops false z9v) (.cond (.tmp 22) (.seq (.ops false z9u) .ret) .skip)) (.seq (.seq (.ops false z9t) (.block 0 (.loop qdn))) (.seq (.seq (.ops false z9o) (.block 2 (.loop qdm))) (.seq (.ops false qri) .ret)))))
theorem it_k14 : FnIs Tryz.prog 14 59 [.tmp 4] t_k14 := ⟨Tryz.f14, _, Tryz.func14, rfl, rfl, rfl, rfl, by kernel_rfl⟩

def qll (a b : Pst) : Bool := decide (a.vec = b.vec ∧ a.cloud = b.cloud)
theorem q5a {a b : Pst} (h : ¬ (a.vec = b.vec ∧ a.cloud = b.cloud)) : qll a b = false := by simp [qll, h]
theorem q8q {a b : Pst} (h : a.vec = b.vec ∧ a.cloud = b.cloud) : qll a b = true := by simp [qll, h]
theorem q9b {α : Type} {l m : List α} {i : Nat} {x : α} (h : l.take i = m.take i) (h1 : l[i]? = some x) (h2 : m[i]? = some x) : l.take (i + 1) = m.take (i + 1) := by
 rw [List.take_add_one, List.take_add_one, h, h1, h2]
theorem ev_k14 (a b : Pst) (ha : a.vec.length ≤ 1000000000) (hb : a.cloud.length ≤ 1000000000) : Ev (En Tryz.prog rfl).P 14 [q1k a, q1k b] (.ret (.bool (qll a b))) := by
 refine Ev.of_body it_k14 (by simp) (Run.start ?_)
 have e0 : (q04 a.vec).length = a.vec.length := q0b _
 have e1 : (q04 b.vec).length = b.vec.length := q0b _
 have e2 : (q0e a.cloud).length = a.cloud.length := q16 _
 have e3 : (q0e b.cloud).length = b.cloud.length := q16 _
 unfold t_k14 q1k
 by_cases c1 : a.vec.length = b.vec.length
 ·have d1 : (!decide ((a.vec.length : Int) = (b.vec.length : Int))) = false := by simp; omega
  by_cases c2 : a.cloud.length = b.cloud.length
  ·have d2 : (!decide ((a.cloud.length : Int) = (b.cloud.length : Int))) = false := by simp; omega
   (focus (have hF := (aI (aI @e0 (aI @e1 @e2)) (aI @e3 (aI @d1 @d2))); (repeat' (first | refine go0 (k:=?_) | fail)); all_goals clear hF))
   refine Run.rangeP a.vec.length (fun i => ⟨tms [(2, .ptr 2 0), (3, .ptr 3 0), (5, .int .i64 i)], mms [(2, .cells [.sl 1 (q04 a.vec), .sl 3 (q0e a.cloud)]), (3, .cells [.sl 1 (q04 b.vec), .sl 3 (q0e b.cloud)])]⟩) (fun i => a.vec.take i = b.vec.take i)
    (Wk.toL _ _ ⟨rfl, rfl, rfl, trivial⟩ ⟨rfl, rfl, trivial⟩ ⟨rfl, rfl, rfl, trivial⟩ ⟨by simp [ABlk.no, AVal.noC, AVal.no, AVal.stb, q02, q03], by simp [ABlk.no, AVal.noC, AVal.no, AVal.stb, q02, q03], trivial⟩) (by simp) (fun i hi hI => ?_) (fun hI => ?_)
   ·obtain ⟨x, hx⟩ : ∃ x, a.vec[i]? = some x := ⟨a.vec[i], by simp [hi]⟩
    obtain ⟨y, hy⟩ : ∃ y, b.vec[i]? = some y := ⟨b.vec[i]'(by omega), by simp [show i < b.vec.length by omega]⟩
    have f1 : ((i : Int) < (a.vec.length : Int)) = True := by simp only [eq_iff_iff, iff_true]; omega
    have f2 : (0 ≤ (i : Int)) = True := by simp
    have f3 : ((i : Int) < (b.vec.length : Int)) = True := by simp only [eq_iff_iff, iff_true]; omega
    have f4 := q0q hx
    have f5 := q0q hy
    have e13 : IntKind.i64.wrap ((i : Int) + 1) = ((i + 1 : Nat) : Int) := by rw [q3k (by omega)]; omega
    unfold qdn
    by_cases c3 : x = y
    ·have d3 : (!decide (x = y)) = false := by simpa using c3
     (focus (have hF := (aI (aI (aI @e0 @e1) (aI @e2 (aI @e3 @f1))) (aI (aI @f2 (aI @f3 @f4)) (aI @f5 (aI @d3 @e13)))); (repeat' (first | refine go0 (k:=?_) | fail)); all_goals clear hF))
     exact Fin.nextP (Wk.toL _ _ ⟨rfl, rfl, rfl, trivial⟩ ⟨rfl, rfl, trivial⟩ ⟨rfl, rfl, rfl, trivial⟩ ⟨by simp [ABlk.no, AVal.noC, AVal.no, AVal.stb, q02, q03], by simp [ABlk.no, AVal.noC, AVal.no, AVal.stb, q02, q03], trivial⟩) (q9b hI hx (c3 ▸ hy))
    ·have d3 : (!decide (x = y)) = true := by simpa using c3
     rw [q5a (fun h => c3 (by have := hx; rw [h.1, hy] at this; exact (Option.some.inj this).symm))]
     (focus (have hF := (aI (aI (aI @e0 @e1) (aI @e2 (aI @e3 @f1))) (aI (aI @f2 (aI @f3 @f4)) (aI @f5 (aI @d3 @e13)))); (repeat' (first | refine go0 (k:=?_) | fail)); all_goals clear hF))
     exact Fin.outP_ret (Fin.block_ret (Fin.seq_ret (Fin.tmp' rfl rfl)))
   ·have hv : a.vec = b.vec := by
     rw [List.take_length] at hI
     rw [hI, c1, List.take_length]
    have f1 : ((a.vec.length : Int) < (a.vec.length : Int)) = False := by simp
    unfold qdn
    (focus (have hF := (aI (aI @e0 @e1) (aI @e2 (aI @e3 @f1))); (repeat' (first | refine go0 (k:=?_) | fail)); all_goals clear hF))
    refine Run.rangeP a.cloud.length (fun i => ⟨tms [(2, .ptr 2 0), (3, .ptr 3 0), (6, .int .i64 i)], mms [(2, .cells [.sl 1 (q04 a.vec), .sl 3 (q0e a.cloud)]), (3, .cells [.sl 1 (q04 b.vec), .sl 3 (q0e b.cloud)])]⟩) (fun i => a.cloud.take i = b.cloud.take i)
     (Wk.toL _ _ ⟨rfl, rfl, rfl, trivial⟩ ⟨rfl, rfl, trivial⟩ ⟨rfl, rfl, rfl, trivial⟩ ⟨by simp [ABlk.no, AVal.noC, AVal.no, AVal.stb, q02, q03], by simp [ABlk.no, AVal.noC, AVal.no, AVal.stb, q02, q03], trivial⟩) (by simp) (fun i hi hI2 => ?_) (fun hI2 => ?_)
    ·obtain ⟨x, hx⟩ : ∃ x, a.cloud[i]? = some x := ⟨a.cloud[i], by simp [hi]⟩
     obtain ⟨y, hy⟩ : ∃ y, b.cloud[i]? = some y := ⟨b.cloud[i]'(by omega), by simp [show i < b.cloud.length by omega]⟩
     have g1 : ((i : Int) < (a.cloud.length : Int)) = True := by simp only [eq_iff_iff, iff_true]; omega
     have g2 : (0 ≤ (i : Int)) = True := by simp
     have g3 : ((i : Int) < (b.cloud.length : Int)) = True := by simp only [eq_iff_iff, iff_true]; omega
     have g4 : (q0e a.cloud)[i]? = some (.agg [.int .i64 x.1, .int .i64 x.2.1, .int .i64 x.2.2]) := q1x hx
     have g5 : (q0e b.cloud)[i]? = some (.agg [.int .i64 y.1, .int .i64 y.2.1, .int .i64 y.2.2]) := q1x hy
     have e13 : IntKind.i64.wrap ((i : Int) + 1) = ((i + 1 : Nat) : Int) := by rw [q3k (by omega)]; omega
     unfold qdm
     by_cases c3 : x = y
     ·have d3 : decide (x.1 = y.1) = true := by simp [c3]
      have d4 : decide (x.2.1 = y.2.1) = true := by simp [c3]
      have d5 : decide (x.2.2 = y.2.2) = true := by simp [c3]
      (focus (have hF := (aI (aI (aI @e0 (aI @e1 @e2)) (aI @e3 (aI @g1 @g2))) (aI (aI @g3 (aI @g4 @g5)) (aI (aI @d3 @d4) (aI @d5 @e13)))); (repeat' (first | refine go0 (k:=?_) | fail)); all_goals clear hF))
      exact Fin.nextP (Wk.toL _ _ ⟨rfl, rfl, rfl, trivial⟩ ⟨rfl, rfl, trivial⟩ ⟨rfl, rfl, rfl, trivial⟩ ⟨by simp [ABlk.no, AVal.noC, AVal.no, AVal.stb, q02, q03], by simp [ABlk.no, AVal.noC, AVal.no, AVal.stb, q02, q03], trivial⟩) (q9b hI2 hx (c3 ▸ hy))
     ·rw [q5a (fun h => c3 (by have := hx; rw [h.2, hy] at this; exact (Option.some.inj this).symm))]
      by_cases h1 : x.1 = y.1
      ·have d3 : decide (x.1 = y.1) = true := by simpa using h1
       by_cases h2 : x.2.1 = y.2.1
       ·have d4 : decide (x.2.1 = y.2.1) = true := by simpa using h2
        have h3 : ¬ x.2.2 = y.2.2 := fun h3 => c3 (Prod.ext h1 (Prod.ext h2 h3))
        have d5 : decide (x.2.2 = y.2.2) = false := by simpa using h3
        (focus (have hF := (aI (aI (aI @e0 (aI @e1 @e2)) (aI @e3 (aI @g1 @g2))) (aI (aI @g3 (aI @g4 @g5)) (aI (aI @d3 @d4) (aI @d5 @e13)))); (repeat' (first | refine go0 (k:=?_) | fail)); all_goals clear hF))
        exact Fin.outP_ret (Fin.block_ret (Fin.seq_ret (Fin.tmp' rfl rfl)))
       ·have d4 : decide (x.2.1 = y.2.1) = false := by simpa using h2
        (focus (have hF := (aI (aI (aI @e0 (aI @e1 @e2)) (aI @e3 (aI @g1 @g2))) (aI (aI @g3 (aI @g4 @g5)) (aI @d3 (aI @d4 @e13)))); (repeat' (first | refine go0 (k:=?_) | fail)); all_goals clear hF))
        exact Fin.outP_ret (Fin.block_ret (Fin.seq_ret (Fin.tmp' rfl rfl)))
      ·have d3 : decide (x.1 = y.1) = false := by simpa using h1
       (focus (have hF := (aI (aI (aI @e0 @e1) (aI @e2 (aI @e3 @g1))) (aI (aI @g2 (aI @g3 @g4)) (aI @g5 (aI @d3 @e13)))); (repeat' (first | refine go0 (k:=?_) | fail)); all_goals clear hF))
       exact Fin.outP_ret (Fin.block_ret (Fin.seq_ret (Fin.tmp' rfl rfl)))
    ·have hc : a.cloud = b.cloud := by
      rw [List.take_length] at hI2
      rw [hI2, c2, List.take_length]
     have f1 : ((a.cloud.length : Int) < (a.cloud.length : Int)) = False := by simp
     rw [q8q ⟨hv, hc⟩]
     unfold qdm
     (focus (have hF := (aI (aI @e0 @e1) (aI @e2 (aI @e3 @f1))); (repeat' (first | refine go0 (k:=?_) | fail)); all_goals clear hF))
     exact Fin.tmp' rfl rfl
  ·rw [q5a (fun h => c2 (by rw [h.2]))]
   have d2 : (!decide ((a.cloud.length : Int) = (b.cloud.length : Int))) = true := by simp; omega
   (focus (have hF := (aI (aI @e0 (aI @e1 @e2)) (aI @e3 (aI @d1 @d2))); (repeat' (first | refine go0 (k:=?_) | fail)); all_goals clear hF))
   exact Fin.tmp' rfl rfl
 ·rw [q5a (fun h => c1 (by rw [h.1]))]
  have d1 : (!decide ((a.vec.length : Int) = (b.vec.length : Int))) = true := by simp; omega
  (focus (have hF := (aI (aI @e0 @e1) (aI @e2 (aI @e3 @d1))); (repeat' (first | refine go0 (k:=?_) | fail)); all_goals clear hF))
  exact Fin.tmp' rfl rfl


def qsp : List SOp := [zO 1 (.box 25 (.tmp 0)),zO 2 (.assign (.const (.int .i64 0)))]
instance : Live qsp := ⟨[0]⟩
def qso : List SOp := [zO 3 (.assign (.const (.int .i64 0)))]
instance : Live qso := ⟨[1]⟩
def qsn : List SOp := [zL 6 25 1,zO 7 (.buildSlice 128 1 #[(0,.tmp 6)]),zO 8 (.call ⟨.value (.func 121),#[.tmp 7],#[128]⟩),zO 9 (.nilCheck (.tmp 8)),zO 10 (.move (.const (.int .i64 0)))]
instance : Live qsn := ⟨[1,3]⟩
def qsm : List SOp := [zO 11 (.binOp .lss 3 (.tmp 10) (.const (.int .i64 16)) 3)]
instance : Live qsm := ⟨[3,8,10]⟩
def qsl : List SOp := [zO 12 (.nilCheck (.tmp 8)),zI 13 175 12 10,zL 14 173 13,zG 5 14]
instance : Live qsl := ⟨[3,8,10]⟩
def qsk : List SOp := [zM 15 3,zM 16 5,zO 17 (.call ⟨.value (.func 155),#[.tmp 16],#[173]⟩),zO 18 (.binOp .add 3 (.tmp 15) (.tmp 17) 3),zG 3 18]
instance : Live qsk := ⟨[3,5,8,10]⟩
def qsj : List SOp := [zO 19 (.binOp .add 3 (.tmp 10) (.const (.int .i64 1)) 3),zM 10 19]
instance : Live qsj := ⟨[3,8,10]⟩
def qsi : List SOp := [zM 20 3,zG 2 20]
instance : Live qsi := ⟨[3]⟩
def qfs : SC :=
 (.seq (.ops false qsm) (.seq (.cond (.tmp 11) .skip (.exit 0)) (.seq (.block 1 (.seq (.ops false qsl) (.ops false qsk))) (.ops false qsj))))
def t_k144 : SC :=
 (.seq (.ops false qsp) (.seq (.ops false qso) (.seq (.seq (.ops false qsn) (.block 0 (.loop qfs))) (.seq (.ops false qsi) .ret))))
theorem it_k144 : FnIs Tryz.prog 144 21 [.tmp 2] t_k144 := ⟨Tryz.f144, _, Tryz.func144, rfl, rfl, rfl, rfl, by kernel_rfl⟩

theorem zbi (p : Pst) (hw : wt p ≤ 50000000) : Ev (En Tryz.prog rfl).P 89 [q1k p] (.ret (q1k (q29 p))) :=
 zbh p _ (by omega) (ev_k122 _ (n := wt p) (by simpa using q3s [p]) hw)
theorem qdf {m : List Rn} (h : Can m) : zaj m := fun r hr => by have := h.2 r hr; unfold okR at this; omega
theorem ev_k155 (l : List Rn) (hl : l.length ≤ 50000000) : Ev (En Tryz.prog rfl).P 155 [.sl 2 (q0c l)] (.ret (.int .i64 (qdr (q12 l)))) := by
 have h := q44 l
 exact z01 l (q12 l) (by omega) (qdf (q2k l)) (zbm l (by omega))
def q1v (t : Tab) (n : Nat) : Int := (List.range n).foldl (fun a r => a + qdr (q12 (t.getD r []))) 0
theorem q61 (t : Tab) (n : Nat) : q1v t (n + 1) = q1v t n + qdr (q12 (t.getD n [])) := by
 unfold q1v
 rw [List.range_succ, List.foldl_append]
 rfl
theorem qaq (l : List Rn) {n : Nat} (h : l.length ≤ n) : 0 ≤ qdr (q12 l) ∧ qdr (q12 l) ≤ 1000000000 * (n : Int) := by
 have h1 := q7e (qdf (q2k l)) 0
 have h2 := q44 l
 unfold qdr
 omega
theorem q59 {t : Tab} {n : Nat} (h : TabLe t n) : ∀ m : Nat, 0 ≤ q1v t m ∧ q1v t m ≤ (m : Int) * (1000000000 * (n : Int))
 | 0 => by simp [q1v]
 | m + 1 => by
  have h1 := q59 h m
  have h2 := qaq (t.getD m []) (h.2 m)
  rw [q61, Int.natCast_add, Int.add_mul]
  omega
def q7s (p : Pst) : Int := q1v (q27 [p]) 16
theorem ev_k144 (p : Pst) (hw : wt p ≤ 50000000) : Ev (En Tryz.prog rfl).P 144 [q1k p] (.ret (.int .i64 (q7s p))) := by
 refine Ev.of_body it_k144 (by simp) (Run.start ?_)
 unfold t_k144 q1k
 have ht : TabLe (q27 [p]) (wt p) := by simpa using q3s [p]
 have h16 : (q6d (q27 [p])).length = 16 := by rw [qk0, ht.1]
 (focus (have hF := @h16; (repeat' (first | refine go1 (k:=?_) | with_reducible refine Ny.of ?_ ?_ | (refine Hyp.of ?_; intro hc; (try simp only [hc]); (try simp only [Bh] at hc)))); all_goals clear hF))
 refine q05 [.sl 2 (q3v [p])] (he := zbr [p] (by simp) (by simpa using (show wt p ≤ 900000000 by omega))) (k:=?_)
 (focus (have hF := @h16; (repeat' (first | refine go1 (k:=?_) | with_reducible refine Ny.of ?_ ?_ | (refine Hyp.of ?_; intro hc; (try simp only [hc]); (try simp only [Bh] at hc)))); all_goals clear hF))
 have hs : q7s p = q1v (q27 [p]) 16 := rfl
 rw [hs]
 generalize q27 [p] = t at ht h16 ⊢
 refine Run.while (σ := Nat) (fun r => ⟨tms [(3, .int .i64 (q1v t r)), (8, .sptr (q6d t)), (10, .int .i64 r)], NoM⟩) (fun r => r ≤ 16) (fun r => 16 - r) 0 (Wk.clean _ ⟨rfl, rfl, rfl, trivial⟩ ⟨rfl, q2z t, rfl, trivial⟩) (Nat.zero_le _) ?_
 intro r hr
 unfold qfs
 by_cases hlt : r < 16
 ·have hrt : r < t.length := by rw [ht.1]; exact hlt
  have hq := ht.2 r
  have g1 := qkd (qk1 hrt)
  have hb := q59 ht r
  have hb2 := qaq (t.getD r []) hq
  have hnx := q61 t r
  have hr16 : (r : Int) * (1000000000 * (wt p : Int)) ≤ 16 * (1000000000 * (wt p : Int)) := Int.mul_le_mul_of_nonneg_right (by omega) (by omega)
  (focus (have hF := (aI @h16 @g1); (repeat' (first | refine go1 (k:=?_) | with_reducible refine Ny.of ?_ ?_ | (refine Hyp.of ?_; intro hc; (try simp only [hc]); (try simp only [Bh] at hc)))); all_goals clear hF))
  refine q05 [.sl 2 (q0c (t.getD r []))] (he := ev_k155 _ (by omega)) (k:=?_)
  (focus (have hF := (aI @h16 @g1); (repeat' (first | refine go1 (k:=?_) | with_reducible refine Ny.of ?_ ?_ | (refine Hyp.of ?_; intro hc; (try simp only [hc]); (try simp only [Bh] at hc)))); all_goals clear hF))
  apply Fin.nextW (r + 1)
  case h => exact Wk.clean _ ⟨by simp [↓q7b, ↓q42, hnx], rfl, rfl, trivial⟩ ⟨rfl, q2z t, rfl, trivial⟩
  omega
 ·rw [show r = 16 by omega]
  (focus (have hF := @h16; (repeat' (first | refine go1 (k:=?_) | with_reducible refine Ny.of ?_ ?_ | (refine Hyp.of ?_; intro hc; (try simp only [hc]); (try simp only [Bh] at hc)))); all_goals clear hF))
  exact Fin.tmp' rfl rfl
theorem zb5 (t : Tab) (r : Nat) : q12 (t.getD r []) = (t.map q12).getD r [] := by
 simp only [List.getD_eq_getElem?_getD, List.getElem?_map]
 cases t[r]? with
 | none => exact q1o Can.nil
 | some l => rfl
def pastN (m : Tab) : Pst :=
 ⟨((List.range 16).map fun r => (q1p (m.getD r [])).1).take ((List.range 16).foldl (fun a r => if 0 < (q1p (m.getD r [])).1 then r + 1 else a) 0), (List.range 16).flatMap fun r => (q1p (m.getD r [])).2.map (q3n r)⟩
theorem qm2 (t : Tab) : q64 t = pastN (t.map q12) := by
 unfold q64 pastN q26 q2x q1c q5l q43 q5g
 simp only [zb5]

def qrb : List SOp := [zO 2 (.assign (.const (.bool false)))]
instance : Live qrb := ⟨[0]⟩
def qra : List SOp := [zM 3 0,zO 4 (.binOp .leq 5 (.const (.int .u8 65)) (.tmp 3) 5),zM 5 4,⟨some 6,.move (.tmp 0),some ((some 5),true)⟩,⟨some 7,.binOp .leq 5 (.tmp 6) (.const (.int .u8 90)) 5,some ((some 5),true)⟩,zO 8 (.pick (.tmp 5) (.tmp 7) (.const (.bool false))),zG 2 8]
instance : Live qra := ⟨[0]⟩
def t_k152 : SC :=
 (.seq (.ops false qrb) (.seq (.ops false qra) .ret))
theorem it_k152 : FnIs Tryz.prog 152 9 [.tmp 2] t_k152 := ⟨Tryz.f152, _, Tryz.func152, rfl, rfl, rfl, rfl, by kernel_rfl⟩

def qr9 : List SOp := [zO 2 (.assign (.const (.bool false)))]
instance : Live qr9 := ⟨[0]⟩
def qr8 : List SOp := [zM 3 0,zO 4 (.binOp .leq 5 (.const (.int .u8 48)) (.tmp 3) 5),zM 5 4,⟨some 6,.move (.tmp 0),some ((some 5),true)⟩,⟨some 7,.binOp .leq 5 (.tmp 6) (.const (.int .u8 57)) 5,some ((some 5),true)⟩,zO 8 (.pick (.tmp 5) (.tmp 7) (.const (.bool false))),zG 2 8]
instance : Live qr8 := ⟨[0]⟩
def t_k153 : SC :=
 (.seq (.ops false qr9) (.seq (.ops false qr8) .ret))
theorem it_k153 : FnIs Tryz.prog 153 9 [.tmp 2] t_k153 := ⟨Tryz.f153, _, Tryz.func153, rfl, rfl, rfl, rfl, by kernel_rfl⟩

def qr7 : List SOp := [zO 2 (.assign (.const (.bool false)))]
instance : Live qr7 := ⟨[0]⟩
def qr6 : List SOp := [zM 3 0,zO 4 (.binOp .eql 5 (.tmp 3) (.const (.int .u8 45)) 5),zM 5 4,⟨some 6,.move (.tmp 0),some ((some 5),false)⟩,⟨some 7,.binOp .eql 5 (.tmp 6) (.const (.int .u8 46)) 5,some ((some 5),false)⟩,zO 8 (.pick (.tmp 5) (.const (.bool true)) (.tmp 7)),zG 2 8]
instance : Live qr6 := ⟨[0]⟩
def t_k154 : SC :=
 (.seq (.ops false qr7) (.seq (.ops false qr6) .ret))
theorem it_k154 : FnIs Tryz.prog 154 9 [.tmp 2] t_k154 := ⟨Tryz.f154, _, Tryz.func154, rfl, rfl, rfl, rfl, by kernel_rfl⟩

def qt4 : List SOp := [zO 2 (.assign (.const (.int .i64 0))),zO 3 (.assign (.const (.int .i64 0)))]
instance : Live qt4 := ⟨[0]⟩
def qt3 : List SOp := [zM 6 0,zO 7 (.binOp .eql 9 (.tmp 6) (.const (.string ⟨#[]⟩)) 9)]
instance : Live qt3 := ⟨[0]⟩
def qt2 : List SOp := [zO 2 (.assign (.const (.int .i64 0))),zO 3 (.assign (.const (.int .i64 20)))]
instance : Live qt2 := ⟨[]⟩
def qt1 : List SOp := [zM 8 0,zO 9 (.call ⟨.builtin .len,#[.tmp 8],#[9]⟩),zO 10 (.binOp .gtr 3 (.tmp 9) (.const (.int .i64 24)) 3)]
instance : Live qt1 := ⟨[0]⟩
def qt0 : List SOp := [zO 2 (.assign (.const (.int .i64 0))),zO 3 (.assign (.const (.int .i64 21)))]
instance : Live qt0 := ⟨[]⟩
def qsz : List SOp := [zM 11 0,zO 12 (.call ⟨.builtin .len,#[.tmp 11],#[9]⟩),zO 13 (.move (.const (.int .i64 0)))]
instance : Live qsz := ⟨[0]⟩
def qsy : List SOp := [zO 14 (.binOp .lss 3 (.tmp 13) (.tmp 12) 3)]
instance : Live qsy := ⟨[0,12,13]⟩
def qsx : List SOp := [zM 15 13,zG 4 15]
instance : Live qsx := ⟨[0,12,13]⟩
def qsw : List SOp := [zM 16 0,zM 17 4,zO 18 (.index 9 (.tmp 16) (.tmp 17)),zG 5 18]
instance : Live qsw := ⟨[0,4,12,13]⟩
def qh4 : List SOp := [zM 19 5,zO 20 (.call ⟨.value (.func 152),#[.tmp 19],#[5]⟩),zM 21 20,⟨some 22,.move (.tmp 5),some ((some 21),false)⟩,⟨some 23,.call ⟨.value (.func 153),#[.tmp 22],#[5]⟩,some ((some 21),false)⟩,zO 24 (.pick (.tmp 21) (.const (.bool true)) (.tmp 23))]
instance : Live qh4 := ⟨[0,4,5,12,13]⟩
def qh3 : List SOp := [zM 25 5,zO 26 (.call ⟨.value (.func 154),#[.tmp 25],#[5]⟩),zO 27 (.unOp .not 4 (.tmp 26)),zM 28 27,⟨some 29,.move (.tmp 4),some ((some 28),false)⟩,⟨some 30,.binOp .eql 3 (.tmp 29) (.const (.int .i64 0)) 3,some ((some 28),false)⟩,zO 31 (.pick (.tmp 28) (.const (.bool true)) (.tmp 30)),zM 32 31,⟨some 33,.move (.tmp 4),some ((some 32),false)⟩,⟨some 34,.move (.tmp 0),some ((some 32),false)⟩,⟨some 35,.call ⟨.builtin .len,#[.tmp 34],#[9]⟩,some ((some 32),false)⟩,⟨some 36,.binOp .sub 3 (.tmp 35) (.const (.int .i64 1)) 3,some ((some 32),false)⟩,⟨some 37,.binOp .eql 3 (.tmp 33) (.tmp 36) 3,some ((some 32),false)⟩,zO 38 (.pick (.tmp 32) (.const (.bool true)) (.tmp 37)),zM 39 38,⟨some 40,.move (.tmp 0),some ((some 39),false)⟩,⟨some 41,.move (.tmp 4),some ((some 39),false)⟩,⟨some 42,.binOp .sub 3 (.tmp 41) (.const (.int .i64 1)) 3,some ((some 39),false)⟩,⟨some 43,.index 9 (.tmp 40) (.tmp 42),some ((some 39),false)⟩,⟨some 44,.call ⟨.value (.func 154),#[.tmp 43],#[5]⟩,some ((some 39),false)⟩,zO 45 (.pick (.tmp 39) (.const (.bool true)) (.tmp 44))]
instance : Live qh3 := ⟨[0,4,5,12,13]⟩
def qh2 : List SOp := [zM 46 4,zG 2 46,zO 3 (.assign (.const (.int .i64 22)))]
instance : Live qh2 := ⟨[4]⟩
def qh1 : List SOp := [zO 47 (.binOp .add 3 (.tmp 13) (.const (.int .i64 1)) 3),zM 13 47]
instance : Live qh1 := ⟨[0,12,13]⟩
def qh0 : List SOp := [zO 2 (.assign (.const (.int .i64 0))),zO 3 (.assign (.const (.int .i64 0)))]
instance : Live qh0 := ⟨[]⟩
def qft : SC :=
 (.seq (.ops false qsy) (.seq (.cond (.tmp 14) .skip (.exit 0)) (.seq (.block 1 (.seq (.ops false qsx) (.seq (.ops false qsw) (.seq (.seq (.ops false qh4) (.cond (.tmp 24) (.exit 1) .skip)) (.seq (.ops false qh3) (.cond (.tmp 45) (.seq (.ops false qh2) .ret) .skip)))))) (.ops false qh1))))
def t_k140 : SC :=
 (.seq (.ops false qt4) (.seq (.seq (.ops false qt3) (.cond (.tmp 7) (.seq (.ops false qt2) .ret) .skip)) (.seq (.seq (.ops false qt1) (.cond (.tmp 10) (.seq (.ops false qt0) .ret) .skip)) (.seq (.seq (.ops false qsz) (.block 0 (.loop qft))) (.seq (.ops false qh0) .ret)))))
theorem it_k140 : FnIs Tryz.prog 140 48 [.tmp 2, .tmp 3] t_k140 := ⟨Tryz.f140, _, Tryz.func140, rfl, rfl, rfl, rfl, by kernel_rfl⟩

def qvp : List SOp := [zO 2 (.assign (.const (.bool false)))]
instance : Live qvp := ⟨[0]⟩
def qvo : List SOp := [zM 6 0,zO 7 (.call ⟨.value (.func 140),#[.tmp 6],#[9]⟩),zM 5 7,zX 8 5 0,zX 9 5 1,zG 3 8,zG 4 9]
instance : Live qvo := ⟨[0]⟩
def qvn : List SOp := [zM 10 4,zO 11 (.binOp .eql 35 (.tmp 10) (.const (.int .i64 0)) 35),zG 2 11]
instance : Live qvn := ⟨[4]⟩
def t_k124 : SC :=
 (.seq (.ops false qvp) (.seq (.ops false qvo) (.seq (.ops false qvn) .ret)))
theorem it_k124 : FnIs Tryz.prog 124 12 [.tmp 2] t_k124 := ⟨Tryz.f124, _, Tryz.func124, rfl, rfl, rfl, rfl, by kernel_rfl⟩

def qsv : List SOp := [zO 2 (.assign (.const (.bool false)))]
instance : Live qsv := ⟨[0]⟩
def qsu : List SOp := [zM 3 0,zO 4 (.binOp .geq 5 (.tmp 3) (.const (.int .u8 65)) 5),zM 5 4,⟨some 6,.move (.tmp 0),some ((some 5),true)⟩,⟨some 7,.binOp .leq 5 (.tmp 6) (.const (.int .u8 90)) 5,some ((some 5),true)⟩,zO 8 (.pick (.tmp 5) (.tmp 7) (.const (.bool false))),zG 2 8]
instance : Live qsu := ⟨[0]⟩
def t_k141 : SC :=
 (.seq (.ops false qsv) (.seq (.ops false qsu) .ret))
theorem it_k141 : FnIs Tryz.prog 141 9 [.tmp 2] t_k141 := ⟨Tryz.f141, _, Tryz.func141, rfl, rfl, rfl, rfl, by kernel_rfl⟩

def qst : List SOp := [zO 2 (.assign (.const (.bool false)))]
instance : Live qst := ⟨[0]⟩
def qss : List SOp := [zM 3 0,zO 4 (.binOp .geq 5 (.tmp 3) (.const (.int .u8 48)) 5),zM 5 4,⟨some 6,.move (.tmp 0),some ((some 5),true)⟩,⟨some 7,.binOp .leq 5 (.tmp 6) (.const (.int .u8 57)) 5,some ((some 5),true)⟩,zO 8 (.pick (.tmp 5) (.tmp 7) (.const (.bool false))),zG 2 8]
instance : Live qss := ⟨[0]⟩
def t_k142 : SC :=
 (.seq (.ops false qst) (.seq (.ops false qss) .ret))
theorem it_k142 : FnIs Tryz.prog 142 9 [.tmp 2] t_k142 := ⟨Tryz.f142, _, Tryz.func142, rfl, rfl, rfl, rfl, by kernel_rfl⟩

def qsr : List SOp := [zO 2 (.assign (.const (.bool false)))]
instance : Live qsr := ⟨[0]⟩
def qsq : List SOp := [zM 3 0,zO 4 (.binOp .eql 5 (.tmp 3) (.const (.int .u8 45)) 5),zM 5 4,⟨some 6,.move (.tmp 0),some ((some 5),false)⟩,⟨some 7,.binOp .eql 5 (.tmp 6) (.const (.int .u8 46)) 5,some ((some 5),false)⟩,zO 8 (.pick (.tmp 5) (.const (.bool true)) (.tmp 7)),zG 2 8]
instance : Live qsq := ⟨[0]⟩
def t_k143 : SC :=
 (.seq (.ops false qsr) (.seq (.ops false qsq) .ret))
theorem it_k143 : FnIs Tryz.prog 143 9 [.tmp 2] t_k143 := ⟨Tryz.f143, _, Tryz.func143, rfl, rfl, rfl, rfl, by kernel_rfl⟩

def qvk : List SOp := [zO 4 (.assign (.const (.bool false)))]
instance : Live qvk := ⟨[0,1]⟩
def qvj : List SOp := [zM 6 0,zM 7 1,zO 8 (.index 9 (.tmp 6) (.tmp 7)),zG 5 8]
instance : Live qvj := ⟨[0,1]⟩
def qvi : List SOp := [zM 9 5,zO 10 (.call ⟨.value (.func 141),#[.tmp 9],#[5]⟩),zM 11 10,⟨some 12,.move (.tmp 5),some ((some 11),false)⟩,⟨some 13,.call ⟨.value (.func 142),#[.tmp 12],#[5]⟩,some ((some 11),false)⟩,zO 14 (.pick (.tmp 11) (.const (.bool true)) (.tmp 13))]
instance : Live qvi := ⟨[0,1,5]⟩
def qvh : List SOp := [zO 4 (.assign (.const (.bool true)))]
instance : Live qvh := ⟨[]⟩
def qvg : List SOp := [zM 15 5,zO 16 (.call ⟨.value (.func 143),#[.tmp 15],#[5]⟩),zO 17 (.unOp .not 4 (.tmp 16))]
instance : Live qvg := ⟨[0,1,5]⟩
def qvf : List SOp := [zO 4 (.assign (.const (.bool false)))]
instance : Live qvf := ⟨[]⟩
def qve : List SOp := [zM 18 1,zO 19 (.binOp .eql 3 (.tmp 18) (.const (.int .i64 0)) 3),zM 20 19,⟨some 21,.move (.tmp 1),some ((some 20),false)⟩,⟨some 22,.move (.tmp 0),some ((some 20),false)⟩,⟨some 23,.call ⟨.builtin .len,#[.tmp 22],#[9]⟩,some ((some 20),false)⟩,⟨some 24,.binOp .sub 3 (.tmp 23) (.const (.int .i64 1)) 3,some ((some 20),false)⟩,⟨some 25,.binOp .eql 3 (.tmp 21) (.tmp 24) 3,some ((some 20),false)⟩,zO 26 (.pick (.tmp 20) (.const (.bool true)) (.tmp 25))]
instance : Live qve := ⟨[0,1]⟩
def qvd : List SOp := [zO 4 (.assign (.const (.bool false)))]
instance : Live qvd := ⟨[]⟩
def qvc : List SOp := [zM 27 0,zM 28 1,zO 29 (.binOp .sub 3 (.tmp 28) (.const (.int .i64 1)) 3),zO 30 (.index 9 (.tmp 27) (.tmp 29)),zO 31 (.call ⟨.value (.func 143),#[.tmp 30],#[5]⟩),zO 32 (.unOp .not 4 (.tmp 31)),zG 4 32]
instance : Live qvc := ⟨[0,1]⟩
def t_k126 : SC :=
 (.seq (.ops false qvk) (.seq (.ops false qvj) (.seq (.seq (.ops false qvi) (.cond (.tmp 14) (.seq (.ops false qvh) .ret) .skip)) (.seq (.seq (.ops false qvg) (.cond (.tmp 17) (.seq (.ops false qvf) .ret) .skip)) (.seq (.seq (.ops false qve) (.cond (.tmp 26) (.seq (.ops false qvd) .ret) .skip)) (.seq (.ops false qvc) .ret))))))
theorem it_k126 : FnIs Tryz.prog 126 33 [.tmp 4] t_k126 := ⟨Tryz.f126, _, Tryz.func126, rfl, rfl, rfl, rfl, by kernel_rfl⟩

def z1v : List SOp := [zO 2 (.assign (.const (.int .i64 0))),zO 3 (.assign (.const (.int .i64 0)))]
instance : Live z1v := ⟨[0]⟩
def z1u : List SOp := [zM 5 0,zO 6 (.call ⟨.builtin .len,#[.tmp 5],#[9]⟩),zO 7 (.binOp .eql 3 (.tmp 6) (.const (.int .i64 0)) 3)]
instance : Live z1u := ⟨[0]⟩
def z1t : List SOp := [zO 2 (.assign (.const (.int .i64 0))),zO 3 (.assign (.const (.int .i64 20)))]
instance : Live z1t := ⟨[]⟩
def z1s : List SOp := [zM 8 0,zO 9 (.call ⟨.builtin .len,#[.tmp 8],#[9]⟩),zO 10 (.binOp .gtr 3 (.tmp 9) (.const (.int .i64 24)) 3)]
instance : Live z1s := ⟨[0]⟩
def z1r : List SOp := [zO 2 (.assign (.const (.int .i64 0))),zO 3 (.assign (.const (.int .i64 21)))]
instance : Live z1r := ⟨[]⟩
def z1q : List SOp := [zO 4 (.assign (.const (.int .i64 0)))]
instance : Live z1q := ⟨[0]⟩
def z1p : List SOp := [zM 11 4,zM 12 0,zO 13 (.call ⟨.builtin .len,#[.tmp 12],#[9]⟩),zO 14 (.binOp .lss 3 (.tmp 11) (.tmp 13) 3)]
instance : Live z1p := ⟨[0,4]⟩
def z1o : List SOp := [zM 17 0,zM 18 4,zO 19 (.call ⟨.value (.func 126),#[.tmp 17,.tmp 18],#[9,3]⟩),zO 20 (.unOp .not 4 (.tmp 19))]
instance : Live z1o := ⟨[0,4]⟩
def z1n : List SOp := [zM 21 4,zG 2 21,zO 3 (.assign (.const (.int .i64 22)))]
instance : Live z1n := ⟨[4]⟩
def qoi : List SOp := [zM 15 4,zO 16 (.binOp .add 3 (.tmp 15) (.const (.int .i64 1)) 3),zG 4 16]
instance : Live qoi := ⟨[0,4]⟩
def qoh : List SOp := [zO 2 (.assign (.const (.int .i64 0))),zO 3 (.assign (.const (.int .i64 0)))]
instance : Live qoh := ⟨[]⟩
def qnd : SC :=
 (.seq (.seq (.ops false z1p) (.cond (.tmp 14) .skip (.exit 0))) (.seq (.block 1 (.seq (.ops false z1o) (.cond (.tmp 20) (.seq (.ops false z1n) .ret) .skip))) (.ops false qoi)))
def t_k98 : SC :=
 (.seq (.ops false z1v) (.seq (.seq (.ops false z1u) (.cond (.tmp 7) (.seq (.ops false z1t) .ret) .skip)) (.seq (.seq (.ops false z1s) (.cond (.tmp 10) (.seq (.ops false z1r) .ret) .skip)) (.seq (.seq (.ops false z1q) (.block 0 (.loop qnd))) (.seq (.ops false qoh) .ret)))))
theorem it_k98 : FnIs Tryz.prog 98 22 [.tmp 2, .tmp 3] t_k98 := ⟨Tryz.f98, _, Tryz.func98, rfl, rfl, rfl, rfl, by kernel_rfl⟩

def z63 : List SOp := [zO 2 (.assign (.const (.bool false)))]
instance : Live z63 := ⟨[0]⟩
def z62 : List SOp := [zM 6 0,zO 7 (.call ⟨.value (.func 98),#[.tmp 6],#[9]⟩),zM 5 7,zX 8 5 0,zX 9 5 1,zG 3 8,zG 4 9]
instance : Live z62 := ⟨[0]⟩
def z61 : List SOp := [zM 10 4,zO 11 (.binOp .eql 3 (.tmp 10) (.const (.int .i64 0)) 3),zG 2 11]
instance : Live z61 := ⟨[4]⟩
def t_k52 : SC :=
 (.seq (.ops false z63) (.seq (.ops false z62) (.seq (.ops false z61) .ret)))
theorem it_k52 : FnIs Tryz.prog 52 12 [.tmp 2] t_k52 := ⟨Tryz.f52, _, Tryz.func52, rfl, rfl, rfl, rfl, by kernel_rfl⟩

def qme (c : Int) : Bool := decide (65 ≤ c) && decide (c ≤ 90)
def qmf (c : Int) : Bool := decide (48 ≤ c) && decide (c ≤ 57)
def zax (c : Int) : Bool := decide (c = 45) || decide (c = 46)
def qby (s : ByteArray) (i : Nat) : Int := match s[i]? with | some b => (b.toNat : Int) | none => 0
theorem q6z {s : ByteArray} {i : Nat} (h : i < s.size) : ∃ b : UInt8, s[i]? = some b ∧ qby s i = (b.toNat : Int) := by
 have e : s[i]? = some s[i] := by
  rw [getElem?_pos s i h]
 exact ⟨s[i], e, by unfold qby; rw [e]⟩
def q4e (s : ByteArray) (i : Nat) : Bool := (qme (qby s i) || qmf (qby s i)) || (zax (qby s i) && (!decide (i = 0) && (!decide (i = s.size - 1) && !zax (qby s (i - 1)))))
def badS (s : ByteArray) : Option Nat := (List.range s.size).find? fun i => !q4e s i
def qfa (s : ByteArray) : Int × Int := if s.size = 0 then (0, 20) else if 24 < s.size then (0, 21) else match badS s with | some i => (i, 22) | none => (0, 0)
def q69 (s : ByteArray) : Bool := decide ((qfa s).2 = 0)
theorem ev_k152 (c : Int) : Ev (En Tryz.prog rfl).P 152 [.int .u8 c] (.ret (.bool (qme c))) := by
 refine Ev.of_body it_k152 (by simp) (Run.start ?_)
 unfold t_k152 qme
 by_cases h1 : 65 ≤ c <;> by_cases h2 : c ≤ 90
 all_goals
  simp only [h1, h2, decide_true, decide_false, Bool.and_true, Bool.and_false, Bool.true_and, Bool.false_and]
  (focus (have hF := True.intro; (repeat' (first | refine go1 (k:=?_) | with_reducible refine Ny.of ?_ ?_ | (refine Hyp.of ?_; intro hc; (try simp only [hc]); (try simp only [Bh] at hc)))); all_goals clear hF))
  all_goals first | exact Fin.tmp' rfl rfl | (exfalso; omega)
theorem ev_k153 (c : Int) : Ev (En Tryz.prog rfl).P 153 [.int .u8 c] (.ret (.bool (qmf c))) := by
 refine Ev.of_body it_k153 (by simp) (Run.start ?_)
 unfold t_k153 qmf
 by_cases h1 : 48 ≤ c <;> by_cases h2 : c ≤ 57
 all_goals
  simp only [h1, h2, decide_true, decide_false, Bool.and_true, Bool.and_false, Bool.true_and, Bool.false_and]
  (focus (have hF := True.intro; (repeat' (first | refine go1 (k:=?_) | with_reducible refine Ny.of ?_ ?_ | (refine Hyp.of ?_; intro hc; (try simp only [hc]); (try simp only [Bh] at hc)))); all_goals clear hF))
  all_goals first | exact Fin.tmp' rfl rfl | (exfalso; omega)
theorem zbl (c : Int) : Ev (En Tryz.prog rfl).P 154 [.int .u8 c] (.ret (.bool (zax c))) := by
 refine Ev.of_body it_k154 (by simp) (Run.start ?_)
 unfold t_k154 zax
 by_cases h1 : c = 45 <;> by_cases h2 : c = 46
 all_goals
  simp only [h1, h2, decide_true, decide_false, Bool.or_true, Bool.or_false, Bool.true_or, Bool.false_or]
  (focus (have hF := True.intro; (repeat' (first | refine go1 (k:=?_) | with_reducible refine Ny.of ?_ ?_ | (refine Hyp.of ?_; intro hc; (try simp only [hc]); (try simp only [Bh] at hc)))); all_goals clear hF))
  all_goals first | exact Fin.tmp' rfl rfl | (exfalso; omega)
theorem ev_k141 (c : Int) : Ev (En Tryz.prog rfl).P 141 [.int .u8 c] (.ret (.bool (qme c))) := by
 refine Ev.of_body it_k141 (by simp) (Run.start ?_)
 unfold t_k141 qme
 by_cases h1 : 65 ≤ c <;> by_cases h2 : c ≤ 90
 all_goals
  simp only [h1, h2, decide_true, decide_false, Bool.and_true, Bool.and_false, Bool.true_and, Bool.false_and]
  (focus (have hF := True.intro; (repeat' (first | refine go1 (k:=?_) | with_reducible refine Ny.of ?_ ?_ | (refine Hyp.of ?_; intro hc; (try simp only [hc]); (try simp only [Bh] at hc)))); all_goals clear hF))
  all_goals first | exact Fin.tmp' rfl rfl | (exfalso; omega)
theorem ev_k142 (c : Int) : Ev (En Tryz.prog rfl).P 142 [.int .u8 c] (.ret (.bool (qmf c))) := by
 refine Ev.of_body it_k142 (by simp) (Run.start ?_)
 unfold t_k142 qmf
 by_cases h1 : 48 ≤ c <;> by_cases h2 : c ≤ 57
 all_goals
  simp only [h1, h2, decide_true, decide_false, Bool.and_true, Bool.and_false, Bool.true_and, Bool.false_and]
  (focus (have hF := True.intro; (repeat' (first | refine go1 (k:=?_) | with_reducible refine Ny.of ?_ ?_ | (refine Hyp.of ?_; intro hc; (try simp only [hc]); (try simp only [Bh] at hc)))); all_goals clear hF))
  all_goals first | exact Fin.tmp' rfl rfl | (exfalso; omega)
theorem zbn (c : Int) : Ev (En Tryz.prog rfl).P 143 [.int .u8 c] (.ret (.bool (zax c))) := by
 refine Ev.of_body it_k143 (by simp) (Run.start ?_)
 unfold t_k143 zax
 by_cases h1 : c = 45 <;> by_cases h2 : c = 46
 all_goals
  simp only [h1, h2, decide_true, decide_false, Bool.or_true, Bool.or_false, Bool.true_or, Bool.false_or]
  (focus (have hF := True.intro; (repeat' (first | refine go1 (k:=?_) | with_reducible refine Ny.of ?_ ?_ | (refine Hyp.of ?_; intro hc; (try simp only [hc]); (try simp only [Bh] at hc)))); all_goals clear hF))
  all_goals first | exact Fin.tmp' rfl rfl | (exfalso; omega)
theorem zbb {q : Nat → Bool} {n i : Nat} (hi : i < n) (h0 : ∀ j, j < i → q j = false) (h : q i = true) : (List.range n).find? q = some i := by
 rw [List.find?_eq_some_iff_getElem]
 refine ⟨h, i, by simpa using hi, by simp, fun j hj => by simp [h0 j hj]⟩
theorem zbc {q : Nat → Bool} {n : Nat} (h0 : ∀ j, j < n → q j = false) : (List.range n).find? q = none := by
 rw [List.find?_eq_none]
 intro j hj
 simp [h0 j (by simpa using hj)]
theorem qyt {s : ByteArray} (h1 : ¬ s.size = 0) (h2 : ¬ 24 < s.size) {i : Nat} (hi : i < s.size) (h0 : ∀ j, j < i → q4e s j = true) (h : q4e s i = false) : qfa s = ((i : Int), 22) := by
 unfold qfa badS
 rw [if_neg h1, if_neg h2, zbb hi (fun j hj => by simp [h0 j hj]) (by simp [h])]
theorem zc8 {s : ByteArray} (h1 : ¬ s.size = 0) (h2 : ¬ 24 < s.size) (h0 : ∀ j, j < s.size → q4e s j = true) : qfa s = (0, 0) := by
 unfold qfa badS
 rw [if_neg h1, if_neg h2, zbc (fun j hj => by simp [h0 j hj])]
theorem qap {s : ByteArray} : s = ByteArray.empty ↔ s.size = 0 := by
 constructor
 ·intro h; rw [h]; rfl
 ·intro h
  cases s with
  | mk d =>
   have : d = #[] := Array.eq_empty_of_size_eq_zero h
   rw [this]; rfl
theorem ev_k140 (s : ByteArray) : Ev (En Tryz.prog rfl).P 140 [.str s] (.ret (.tup [.int .i64 (qfa s).1, .int .i64 (qfa s).2])) := by
 refine Ev.of_body it_k140 (by simp) (Run.start ?_)
 unfold t_k140
 by_cases h1 : s.size = 0
 ·have h1' : (s = (⟨#[]⟩ : ByteArray)) = True := eq_true (qap.2 h1)
  have : qfa s = (0, 20) := by unfold qfa; rw [if_pos h1]
  rw [this]
  (focus (have hF := @h1'; (repeat' (first | refine go1 (k:=?_) | with_reducible refine Ny.of ?_ ?_ | (refine Hyp.of ?_; intro hc; (try simp only [hc]); (try simp only [Bh] at hc)))); all_goals clear hF))
  exact Fin.all rfl rfl rfl
 ·have h1' : (s = (⟨#[]⟩ : ByteArray)) = False := eq_false fun h => h1 (qap.1 h)
  by_cases h2 : 24 < s.size
  ·have : qfa s = (0, 21) := by unfold qfa; rw [if_neg h1, if_pos h2]
   rw [this]
   (focus (have hF := @h1'; (repeat' (first | refine go1 (k:=?_) | with_reducible refine Ny.of ?_ ?_ | (refine Hyp.of ?_; intro hc; (try simp only [hc]); (try simp only [Bh] at hc)))); all_goals clear hF))
   exact Fin.all rfl rfl rfl
  ·(focus (have hF := @h1'; (repeat' (first | refine go1 (k:=?_) | with_reducible refine Ny.of ?_ ?_ | (refine Hyp.of ?_; intro hc; (try simp only [hc]); (try simp only [Bh] at hc)))); all_goals clear hF))
   refine Run.while (σ := Nat) (fun i => ⟨tms [(0, .str s), (12, .int .i64 (s.size : Int)), (13, .int .i64 (i : Int))], mms []⟩) (fun i => i ≤ s.size ∧ ∀ j, j < i → q4e s j = true) (fun i => s.size - i) 0 (have hW := True.intro; q0v) ⟨Nat.zero_le _, fun j hj => absurd hj (Nat.not_lt_zero _)⟩ ?_
   rintro i ⟨hi, hp⟩
   unfold qft
   by_cases hlt : i < s.size
   ·obtain ⟨b, hb, hbe⟩ := q6z hlt
    have hok : q4e s i = true → ∀ j, j < i + 1 → q4e s j = true := fun h j hj => by
     by_cases e : j = i
     ·rw [e]; exact h
     ·exact hp j (by omega)
    have hbad := qyt h1 h2 hlt hp
    have c1 := ev_k152 (b.toNat : Int)
    have c2 := ev_k153 (b.toNat : Int)
    have c3 := zbl (b.toNat : Int)
    unfold q4e at hok hbad
    rw [hbe] at hok hbad
    generalize qme (b.toNat : Int) = v1 at c1 hok hbad
    generalize qmf (b.toNat : Int) = v2 at c2 hok hbad
    generalize zax (b.toNat : Int) = v3 at c3 hok hbad
    (focus (have hF := @hb; (repeat' (first | refine go1 (k:=?_) | with_reducible refine Ny.of ?_ ?_ | (refine Hyp.of ?_; intro hc; (try simp only [hc]); (try simp only [Bh] at hc)))); all_goals clear hF))
    refine q05 [.int .u8 (b.toNat : Int)] (he := c1) (k:=?_)
    cases v1
    case' true =>
     have hn := hok (by simp)
     (focus (have hF := @hb; (repeat' (first | refine go1 (k:=?_) | with_reducible refine Ny.of ?_ ?_ | (refine Hyp.of ?_; intro hc; (try simp only [hc]); (try simp only [Bh] at hc)))); all_goals clear hF))
     (refine Fin.nextW (i + 1) ?_ (have hW := True.intro; q0v); (try dsimp only))
     exact ⟨⟨hlt, hn⟩, by omega⟩
    case' false =>
     (focus (have hF := @hb; (repeat' (first | refine go1 (k:=?_) | with_reducible refine Ny.of ?_ ?_ | (refine Hyp.of ?_; intro hc; (try simp only [hc]); (try simp only [Bh] at hc)))); all_goals clear hF))
     refine q05 [.int .u8 (b.toNat : Int)] (he := c2) (k:=?_)
     cases v2
     case' true =>
      have hn := hok (by simp)
      (focus (have hF := @hb; (repeat' (first | refine go1 (k:=?_) | with_reducible refine Ny.of ?_ ?_ | (refine Hyp.of ?_; intro hc; (try simp only [hc]); (try simp only [Bh] at hc)))); all_goals clear hF))
      (refine Fin.nextW (i + 1) ?_ (have hW := True.intro; q0v); (try dsimp only))
      exact ⟨⟨hlt, hn⟩, by omega⟩
     case' false =>
      (focus (have hF := @hb; (repeat' (first | refine go1 (k:=?_) | with_reducible refine Ny.of ?_ ?_ | (refine Hyp.of ?_; intro hc; (try simp only [hc]); (try simp only [Bh] at hc)))); all_goals clear hF))
      refine q05 [.int .u8 (b.toNat : Int)] (he := c3) (k:=?_)
      cases v3
      case' false =>
       rw [hbad (by simp)]
       (focus (have hF := @hb; (repeat' (first | refine go1 (k:=?_) | with_reducible refine Ny.of ?_ ?_ | (refine Hyp.of ?_; intro hc; (try simp only [hc]); (try simp only [Bh] at hc)))); all_goals clear hF))
       exact Fin.all rfl rfl rfl
      case' true =>
       by_cases i0 : i = 0
       ·rw [hbad (by simp [i0])]
        subst i0
        (focus (have hF := @hb; (repeat' (first | refine go1 (k:=?_) | with_reducible refine Ny.of ?_ ?_ | (refine Hyp.of ?_; intro hc; (try simp only [hc]); (try simp only [Bh] at hc)))); all_goals clear hF))
        exact Fin.all rfl rfl rfl
       ·by_cases i1 : i = s.size - 1
        ·rw [hbad (by simp [i1])]
         have i1' : (i : Int) = (s.size : Int) - 1 := by omega
         have i0' : ¬ (i : Int) = 0 := by omega
         have i2' : IntKind.i64.wrap ((s.size : Int) - 1) = (i : Int) := by rw [q0a (by omega)]; omega
         (focus (have hF := (aI @hb (aI @i0' @i2')); (repeat' (first | refine go1 (k:=?_) | with_reducible refine Ny.of ?_ ?_ | (refine Hyp.of ?_; intro hc; (try simp only [hc]); (try simp only [Bh] at hc)))); all_goals clear hF))
         exact Fin.all rfl rfl rfl
        ·have i0' : ¬ (i : Int) = 0 := by omega
         have i1' : ¬ (i : Int) = (s.size : Int) - 1 := by omega
         obtain ⟨c, hc, hce⟩ := q6z (s := s) (i := i - 1) (by omega)
         have c4 := zbl (c.toNat : Int)
         have hpw : IntKind.i64.wrap ((i : Int) - 1) = ((i - 1 : Nat) : Int) := by rw [q0a (by omega)]; omega
         rw [hce] at hok hbad
         generalize zax (c.toNat : Int) = v4 at c4 hok hbad
         (focus (have hF := (aI (aI @hb @i0') (aI @i1' (aI @hpw @hc))); (repeat' (first | refine go1 (k:=?_) | with_reducible refine Ny.of ?_ ?_ | (refine Hyp.of ?_; intro hc; (try simp only [hc]); (try simp only [Bh] at hc)))); all_goals clear hF))
         refine q05 [.int .u8 (c.toNat : Int)] (he := c4) (k:=?_)
         cases v4
         ·have hn := hok (by simp [i0, i1])
          (focus (have hF := @hb; (repeat' (first | refine go1 (k:=?_) | with_reducible refine Ny.of ?_ ?_ | (refine Hyp.of ?_; intro hc; (try simp only [hc]); (try simp only [Bh] at hc)))); all_goals clear hF))
          (refine Fin.nextW (i + 1) ?_ (have hW := True.intro; q0v); (try dsimp only))
          exact ⟨⟨hlt, hn⟩, by omega⟩
         ·rw [hbad (by simp)]
          (focus (have hF := @hb; (repeat' (first | refine go1 (k:=?_) | with_reducible refine Ny.of ?_ ?_ | (refine Hyp.of ?_; intro hc; (try simp only [hc]); (try simp only [Bh] at hc)))); all_goals clear hF))
          exact Fin.all rfl rfl rfl
   ·rw [zc8 h1 h2 fun j hj => hp j (by omega)]
    (focus (have hF := True.intro; (repeat' (first | refine go1 (k:=?_) | with_reducible refine Ny.of ?_ ?_ | (refine Hyp.of ?_; intro hc; (try simp only [hc]); (try simp only [Bh] at hc)))); all_goals clear hF))
    exact Fin.all rfl rfl rfl
theorem zbq (s : ByteArray) : Ev (En Tryz.prog rfl).P 124 [.str s] (.ret (.bool (q69 s))) := by
 refine Ev.of_body it_k124 (by simp) (Run.start ?_)
 unfold t_k124 q69
 (focus (have hF := True.intro; (repeat' (first | refine go1 (k:=?_) | with_reducible refine Ny.of ?_ ?_ | (refine Hyp.of ?_; intro hc; (try simp only [hc]); (try simp only [Bh] at hc)))); all_goals clear hF))
 refine q05 [.str s] (he := ev_k140 s) (k:=?_)
 (focus (have hF := True.intro; (repeat' (first | refine go1 (k:=?_) | with_reducible refine Ny.of ?_ ?_ | (refine Hyp.of ?_; intro hc; (try simp only [hc]); (try simp only [Bh] at hc)))); all_goals clear hF))
 exact Fin.tmp' rfl rfl
theorem ev_k126 (s : ByteArray) (i : Nat) (hi : i < s.size) (hs : s.size ≤ 1000000) : Ev (En Tryz.prog rfl).P 126 [.str s, .int .i64 (i : Int)] (.ret (.bool (q4e s i))) := by
 refine Ev.of_body it_k126 (by simp) (Run.start ?_)
 unfold t_k126 q4e
 obtain ⟨b, hb, hbe⟩ := q6z hi
 rw [hbe]
 have c1 := ev_k141 (b.toNat : Int)
 have c2 := ev_k142 (b.toNat : Int)
 have c3 := zbn (b.toNat : Int)
 generalize qme (b.toNat : Int) = v1 at c1 ⊢
 generalize qmf (b.toNat : Int) = v2 at c2 ⊢
 generalize zax (b.toNat : Int) = v3 at c3 ⊢
 (focus (have hF := @hb; (repeat' (first | refine go1 (k:=?_) | with_reducible refine Ny.of ?_ ?_ | (refine Hyp.of ?_; intro hc; (try simp only [hc]); (try simp only [Bh] at hc)))); all_goals clear hF))
 refine q05 [.int .u8 (b.toNat : Int)] (he := c1) (k:=?_)
 cases v1
 case' true =>
  (focus (have hF := @hb; (repeat' (first | refine go1 (k:=?_) | with_reducible refine Ny.of ?_ ?_ | (refine Hyp.of ?_; intro hc; (try simp only [hc]); (try simp only [Bh] at hc)))); all_goals clear hF))
  exact Fin.tmp' rfl rfl
 case' false =>
  (focus (have hF := @hb; (repeat' (first | refine go1 (k:=?_) | with_reducible refine Ny.of ?_ ?_ | (refine Hyp.of ?_; intro hc; (try simp only [hc]); (try simp only [Bh] at hc)))); all_goals clear hF))
  refine q05 [.int .u8 (b.toNat : Int)] (he := c2) (k:=?_)
  cases v2
  case' true =>
   (focus (have hF := @hb; (repeat' (first | refine go1 (k:=?_) | with_reducible refine Ny.of ?_ ?_ | (refine Hyp.of ?_; intro hc; (try simp only [hc]); (try simp only [Bh] at hc)))); all_goals clear hF))
   exact Fin.tmp' rfl rfl
  case' false =>
   (focus (have hF := @hb; (repeat' (first | refine go1 (k:=?_) | with_reducible refine Ny.of ?_ ?_ | (refine Hyp.of ?_; intro hc; (try simp only [hc]); (try simp only [Bh] at hc)))); all_goals clear hF))
   refine q05 [.int .u8 (b.toNat : Int)] (he := c3) (k:=?_)
   cases v3
   case' false =>
    (focus (have hF := @hb; (repeat' (first | refine go1 (k:=?_) | with_reducible refine Ny.of ?_ ?_ | (refine Hyp.of ?_; intro hc; (try simp only [hc]); (try simp only [Bh] at hc)))); all_goals clear hF))
    exact Fin.tmp' rfl rfl
   case' true =>
    by_cases i0 : i = 0
    ·subst i0
     (focus (have hF := @hb; (repeat' (first | refine go1 (k:=?_) | with_reducible refine Ny.of ?_ ?_ | (refine Hyp.of ?_; intro hc; (try simp only [hc]); (try simp only [Bh] at hc)))); all_goals clear hF))
     exact Fin.tmp' rfl rfl
    ·by_cases i1 : i = s.size - 1
     ·have e : (false || false || (true && (!decide (i = 0) && (!decide (i = s.size - 1) && !zax (qby s (i - 1)))))) = false := by simp [i1]
      rw [e]
      (focus (have hF := @hb; (repeat' (first | refine go1 (k:=?_) | with_reducible refine Ny.of ?_ ?_ | (refine Hyp.of ?_; intro hc; (try simp only [hc]); (try simp only [Bh] at hc)))); all_goals clear hF))
      all_goals first | exact Fin.tmp' rfl rfl | (exfalso; omega)
     ·obtain ⟨c, hc, hce⟩ := q6z (s := s) (i := i - 1) (by omega)
      have c4 := zbn (c.toNat : Int)
      have hpw : IntKind.i64.wrap ((i : Int) - 1) = ((i - 1 : Nat) : Int) := by rw [q0a (by omega)]; omega
      rw [hce]
      generalize zax (c.toNat : Int) = v4 at c4 ⊢
      have e : (false || false || (true && (!decide (i = 0) && (!decide (i = s.size - 1) && !v4)))) = !v4 := by simp [i0, i1]
      rw [e]
      have i1' : ¬ (i : Int) = (s.size : Int) - 1 := by omega
      (focus (have hF := (aI (aI @hb @i1') (aI @hpw @hc)); (repeat' (first | refine go1 (k:=?_) | with_reducible refine Ny.of ?_ ?_ | (refine Hyp.of ?_; intro hc; (try simp only [hc]); (try simp only [Bh] at hc)))); all_goals clear hF))
      refine q05 [.int .u8 (c.toNat : Int)] (he := c4) (k:=?_)
      (focus (have hF := @hb; (repeat' (first | refine go1 (k:=?_) | with_reducible refine Ny.of ?_ ?_ | (refine Hyp.of ?_; intro hc; (try simp only [hc]); (try simp only [Bh] at hc)))); all_goals clear hF))
      exact Fin.tmp' rfl rfl
theorem ev_k98 (s : ByteArray) : Ev (En Tryz.prog rfl).P 98 [.str s] (.ret (.tup [.int .i64 (qfa s).1, .int .i64 (qfa s).2])) := by
 refine Ev.of_body it_k98 (by simp) (Run.start ?_)
 unfold t_k98
 by_cases h1 : s.size = 0
 ·have : qfa s = (0, 20) := by unfold qfa; rw [if_pos h1]
  rw [this]
  have h1' : ((s.size : Int) = 0) = True := eq_true (by omega)
  (focus (have hF := @h1'; (repeat' (first | refine go1 (k:=?_) | with_reducible refine Ny.of ?_ ?_ | (refine Hyp.of ?_; intro hc; (try simp only [hc]); (try simp only [Bh] at hc)))); all_goals clear hF))
  exact Fin.all rfl rfl rfl
 ·by_cases h2 : 24 < s.size
  ·have : qfa s = (0, 21) := by unfold qfa; rw [if_neg h1, if_pos h2]
   rw [this]
   (focus (have hF := True.intro; (repeat' (first | refine go1 (k:=?_) | with_reducible refine Ny.of ?_ ?_ | (refine Hyp.of ?_; intro hc; (try simp only [hc]); (try simp only [Bh] at hc)))); all_goals clear hF))
   exact Fin.all rfl rfl rfl
  ·(focus (have hF := True.intro; (repeat' (first | refine go1 (k:=?_) | with_reducible refine Ny.of ?_ ?_ | (refine Hyp.of ?_; intro hc; (try simp only [hc]); (try simp only [Bh] at hc)))); all_goals clear hF))
   refine Run.while (σ := Nat) (fun i => ⟨tms [(0, .str s), (4, .int .i64 (i : Int))], mms []⟩) (fun i => i ≤ s.size ∧ ∀ j, j < i → q4e s j = true) (fun i => s.size - i) 0 (have hW := True.intro; q0v) ⟨Nat.zero_le _, fun j hj => absurd hj (Nat.not_lt_zero _)⟩ ?_
   rintro i ⟨hi, hp⟩
   unfold qnd
   by_cases hlt : i < s.size
   ·have hok : q4e s i = true → ∀ j, j < i + 1 → q4e s j = true := fun h j hj => by
     by_cases e : j = i
     ·rw [e]; exact h
     ·exact hp j (by omega)
    have hbad := qyt h1 h2 hlt hp
    have c1 := ev_k126 s i hlt (by omega)
    generalize q4e s i = v at c1 hok hbad
    (focus (have hF := True.intro; (repeat' (first | refine go1 (k:=?_) | with_reducible refine Ny.of ?_ ?_ | (refine Hyp.of ?_; intro hc; (try simp only [hc]); (try simp only [Bh] at hc)))); all_goals clear hF))
    refine q05 [.str s, .int .i64 (i : Int)] (he := c1) (k:=?_)
    cases v
    ·rw [hbad rfl]
     (focus (have hF := True.intro; (repeat' (first | refine go1 (k:=?_) | with_reducible refine Ny.of ?_ ?_ | (refine Hyp.of ?_; intro hc; (try simp only [hc]); (try simp only [Bh] at hc)))); all_goals clear hF))
     exact Fin.all rfl rfl rfl
    ·have hn := hok rfl
     (focus (have hF := True.intro; (repeat' (first | refine go1 (k:=?_) | with_reducible refine Ny.of ?_ ?_ | (refine Hyp.of ?_; intro hc; (try simp only [hc]); (try simp only [Bh] at hc)))); all_goals clear hF))
     (refine Fin.nextW (i + 1) ?_ (have hW := True.intro; q0v); (try dsimp only))
     exact ⟨⟨hlt, hn⟩, by omega⟩
   ·rw [zc8 h1 h2 fun j hj => hp j (by omega)]
    (focus (have hF := True.intro; (repeat' (first | refine go1 (k:=?_) | with_reducible refine Ny.of ?_ ?_ | (refine Hyp.of ?_; intro hc; (try simp only [hc]); (try simp only [Bh] at hc)))); all_goals clear hF))
    exact Fin.all rfl rfl rfl
theorem ev_k52 (s : ByteArray) : Ev (En Tryz.prog rfl).P 52 [.str s] (.ret (.bool (q69 s))) := by
 refine Ev.of_body it_k52 (by simp) (Run.start ?_)
 unfold t_k52 q69
 (focus (have hF := True.intro; (repeat' (first | refine go1 (k:=?_) | with_reducible refine Ny.of ?_ ?_ | (refine Hyp.of ?_; intro hc; (try simp only [hc]); (try simp only [Bh] at hc)))); all_goals clear hF))
 refine q05 [.str s] (he := ev_k98 s) (k:=?_)
 (focus (have hF := True.intro; (repeat' (first | refine go1 (k:=?_) | with_reducible refine Ny.of ?_ ?_ | (refine Hyp.of ?_; intro hc; (try simp only [hc]); (try simp only [Bh] at hc)))); all_goals clear hF))
 exact Fin.tmp' rfl rfl

def z5p : List SOp := [zO 4 (.assign (.const (.slice none 0 0)))]
instance : Live z5p := ⟨[0,1]⟩
def z5o : List SOp := [zM 5 1,zO 6 (.binOp .gtr 3 (.tmp 5) (.const (.int .i64 127)) 3)]
instance : Live z5o := ⟨[0,1]⟩
def z5n : List SOp := [zM 7 0,zM 8 1,zO 9 (.binOp .rem 3 (.tmp 8) (.const (.int .i64 128)) 3),zO 10 (.binOp .add 3 (.tmp 9) (.const (.int .i64 128)) 3),zO 11 (.convert 3 5 (.tmp 10)),zO 12 (.buildSlice 28 1 #[(0,.tmp 11)]),zO 13 (.call ⟨.builtin .append,#[.tmp 7,.tmp 12],#[28,28]⟩),zG 0 13]
instance : Live z5n := ⟨[0,1]⟩
def z5m : List SOp := [zM 14 1,zO 15 (.binOp .quo 3 (.tmp 14) (.const (.int .i64 128)) 3),zG 1 15]
instance : Live z5m := ⟨[0,1]⟩
def z5l : List SOp := [zM 16 0,zM 17 1,zO 18 (.convert 3 5 (.tmp 17)),zO 19 (.buildSlice 28 1 #[(0,.tmp 18)]),zO 20 (.call ⟨.builtin .append,#[.tmp 16,.tmp 19],#[28,28]⟩),zG 4 20]
instance : Live z5l := ⟨[0,1]⟩
def qnr : SC :=
 (.seq (.seq (.ops false z5o) (.cond (.tmp 6) .skip (.exit 0))) (.block 1 (.seq (.ops false z5n) (.ops false z5m))))
def t_k55 : SC :=
 (.seq (.ops false z5p) (.seq (.block 0 (.loop qnr)) (.seq (.ops false z5l) .ret)))
theorem it_k55 : FnIs Tryz.prog 55 21 [.tmp 4] t_k55 := ⟨Tryz.f55, _, Tryz.func55, rfl, rfl, rfl, rfl, by kernel_rfl⟩

def z5k : List SOp := [zO 4 (.assign (.const (.slice none 0 0)))]
instance : Live z5k := ⟨[0,1]⟩
def z5j : List SOp := [zM 6 0,zM 7 1,zO 8 (.call ⟨.builtin .len,#[.tmp 7],#[9]⟩),zO 9 (.call ⟨.value (.func 55),#[.tmp 6,.tmp 8],#[28,3]⟩),zG 0 9]
instance : Live z5j := ⟨[0,1]⟩
def z5i : List SOp := [zO 5 (.assign (.const (.int .i64 0)))]
instance : Live z5i := ⟨[0,1]⟩
def z5h : List SOp := [zM 10 5,zM 11 1,zO 12 (.call ⟨.builtin .len,#[.tmp 11],#[9]⟩),zO 13 (.binOp .lss 3 (.tmp 10) (.tmp 12) 3)]
instance : Live z5h := ⟨[0,1,5]⟩
def z5g : List SOp := [zM 16 0,zM 17 1,zM 18 5,zO 19 (.index 9 (.tmp 17) (.tmp 18)),zO 20 (.buildSlice 28 1 #[(0,.tmp 19)]),zO 21 (.call ⟨.builtin .append,#[.tmp 16,.tmp 20],#[28,28]⟩),zG 0 21]
instance : Live z5g := ⟨[0,1,5]⟩
def z5f : List SOp := [zM 14 5,zO 15 (.binOp .add 3 (.tmp 14) (.const (.int .i64 1)) 3),zG 5 15]
instance : Live z5f := ⟨[0,1,5]⟩
def z5e : List SOp := [zM 22 0,zG 4 22]
instance : Live z5e := ⟨[0]⟩
def qnq : SC :=
 (.seq (.seq (.ops false z5h) (.cond (.tmp 13) .skip (.exit 0))) (.seq (.block 1 (.ops false z5g)) (.ops false z5f)))
def t_k56 : SC :=
 (.seq (.ops false z5k) (.seq (.ops false z5j) (.seq (.seq (.ops false z5i) (.block 0 (.loop qnq))) (.seq (.ops false z5e) .ret))))
theorem it_k56 : FnIs Tryz.prog 56 23 [.tmp 4] t_k56 := ⟨Tryz.f56, _, Tryz.func56, rfl, rfl, rfl, rfl, by kernel_rfl⟩

theorem qat (b : Bs) (n : Nat) (hb : b.length ≤ 900000000000) (hn : n < 9223372036854775808) {Q : Ex → AS → Prop} (hQ : ∀ (s : AS) (e : Nat), s.T 4 = .os 0 e → s.M 0 = some (.arr e 1 (q1f (b ++ q0u n))) → Q .ret s) :
 Run (En Tryz.prog rfl) 21 Q t_k55 .done ⟨tms [(0, .os 0 0), (1, .int .i64 (n : Int))], mms [(0, .arr 0 1 (q1f b))]⟩ := by
 have hlen := q08 hn
 unfold t_k55
 have e1 := q1m b
 (focus (have hF := @e1; (repeat' (first | refine go1 (k:=?_) | with_reducible refine Ny.of ?_ ?_ | (refine Hyp.of ?_; intro hc; (try simp only [hc]); (try simp only [Bh] at hc)))); all_goals clear hF))
 refine Run.while (σ := Bs × Nat) (fun z => ⟨tms [(0, .os 0 (z.1.length - b.length)), (1, .int .i64 (z.2 : Int))], mms [(0, .arr (z.1.length - b.length) 1 (q1f z.1))]⟩) (fun z => b.length ≤ z.1.length ∧ z.2 < 9223372036854775808 ∧ z.1 ++ q0u z.2 = b ++ q0u n) (fun z => z.2) (b, n) (have hW := True.intro; q0v) ⟨Nat.le_refl _, hn, rfl⟩ ?_
 rintro ⟨c, m⟩ ⟨hc, hm, hcm⟩
 simp only at hc hm hcm
 unfold qnr
 have e2 := q1m c
 have hcl : c.length ≤ b.length + 10 := by
  have := congrArg List.length hcm
  simp only [List.length_append] at this
  omega
 by_cases hlt : m < 128
 ·have hl2 : ¬ (m : Int) > 127 := by omega
  rw [q5d hlt] at hcm
  have w1 : IntKind.u8.wrap (m : Int) = ((UInt8.ofNat m).toNat : Int) := by rw [qn9 (by omega)]; exact z0r (by omega)
  (focus (have hF := (aI (aI @e2 @hl2) (aI @w1 @q6g)); (repeat' (first | refine go1 (k:=?_) | with_reducible refine Ny.of ?_ ?_ | (refine Hyp.of ?_; intro hc; (try simp only [hc]); (try simp only [Bh] at hc)))); all_goals clear hF))
  rw [hcm]
  exact Fin.done (hQ _ _ rfl rfl)
 ·have hl2 : (m : Int) > 127 := by omega
  rw [qb5 hlt] at hcm
  have hr : ((m : Int).tmod 128) = ((m % 128 : Nat) : Int) := by rw [Int.tmod_eq_emod_of_nonneg (by omega)]; omega
  have hq : ((m : Int).tdiv 128) = ((m / 128 : Nat) : Int) := by rw [Int.tdiv_eq_ediv_of_nonneg (by omega)]; omega
  have w1 : IntKind.i64.wrap (((m % 128 : Nat) : Int) + 128) = ((m % 128 + 128 : Nat) : Int) := by rw [q0a (by omega)]; omega
  have w2 : IntKind.u8.wrap ((m % 128 + 128 : Nat) : Int) = ((UInt8.ofNat (m % 128 + 128)).toNat : Int) := by rw [qn9 (by omega)]; rw [z0r (by omega)]
  have w3 : IntKind.i64.wrap ((m % 128 : Nat) : Int) = ((m % 128 : Nat) : Int) := q0a (by omega)
  have w4 : IntKind.i64.wrap ((m / 128 : Nat) : Int) = ((m / 128 : Nat) : Int) := q0a (by omega)
  (focus (have hF := (aI (aI (aI @e2 @hl2) (aI @hr @hq)) (aI (aI @w1 @w2) (aI @w3 (aI @w4 @q6g)))); (repeat' (first | refine go1 (k:=?_) | with_reducible refine Ny.of ?_ ?_ | (refine Hyp.of ?_; intro hc; (try simp only [hc]); (try simp only [Bh] at hc)))); all_goals clear hF))
  have hl3 : c.length + 1 - b.length = c.length - b.length + 1 := by omega
  (refine Fin.nextW ((c ++ [UInt8.ofNat (m % 128 + 128)], m / 128)) ?_ (have hW := @hl3; q0v); (try dsimp only))
  refine ⟨⟨by simp only [List.length_append, List.length_singleton]; omega, by omega, ?_⟩, by omega⟩
  simpa using hcm
theorem q0l (b : Bs) (n : Nat) (hb : b.length ≤ 900000000000) (hn : n < 9223372036854775808) :
 EvOwn (En Tryz.prog rfl).P 55 [.undef, .int .i64 (n : Int)] 0 1 (q1f b) true .undef (q1f (b ++ q0u n)) := by
 refine EvOwn.of_body it_k55 (by simp) (Run.start ?_)
 unfold q8v
 exact Run.wk (have hW := True.intro; q0v) (qat b n hb hn fun s e h1 h2 => ⟨e, h1, h2, q01 _⟩)
theorem qbr (n : Nat) (hn : n < 9223372036854775808) : EvFresh (En Tryz.prog rfl).P 55 [.nil, .int .i64 (n : Int)] 1 (q1f (q0u n)) := by
 refine EvFresh.of_body it_k55 (by simp) (Run.start ?_)
 refine Run.wk (Wk.trans (Wk.own_nil 0 0 1 rfl rfl) (have hW := True.intro; q0v)) (qat [] n (by simp) hn fun s e h1 h2 => ⟨0, e, h1, h2, q01 _⟩)
theorem q6c (b : Bs) (t : ByteArray) (hb : b.length ≤ 800000000000) (hn : t.size ≤ 1000000000) :
 EvOwn (En Tryz.prog rfl).P 56 [.undef, .str t] 0 1 (q1f b) true .undef (q1f (b ++ (q0u t.size ++ t.data.toList))) := by
 refine EvOwn.of_body it_k56 (by simp) (Run.start ?_)
 unfold t_k56 q8v
 have e1 := q1m b
 (focus (have hF := @e1; (repeat' (first | refine go1 (k:=?_) | with_reducible refine Ny.of ?_ ?_ | (refine Hyp.of ?_; intro hc; (try simp only [hc]); (try simp only [Bh] at hc)))); all_goals clear hF))
 refine q0s (args' := [.undef, .int .i64 (t.size : Int)]) 0 0 rfl rfl rfl rfl rfl (q01 _) (q01 _) (q0l b t.size (by omega) (by omega)) ?_
 have e2 := q1m (b ++ q0u t.size)
 have e6 := q08 (n := t.size) (by omega)
 rw [List.length_append] at e2
 (focus (have hF := @e2; (repeat' (first | refine go1 (k:=?_) | with_reducible refine Ny.of ?_ ?_ | (refine Hyp.of ?_; intro hc; (try simp only [hc]); (try simp only [Bh] at hc)))); all_goals clear hF))
 refine Run.while (σ := Nat) (fun i => ⟨tms [(0, .os 0 (1 + i)), (1, .str t), (5, .int .i64 (i : Int))], mms [(0, .arr (1 + i) 1 (q1f (b ++ q0u t.size ++ t.data.toList.take i)))]⟩) (fun i => i ≤ t.size) (fun i => t.size - i) 0 (have hW := @List.append_nil.{0}; q0v) (Nat.zero_le _) ?_
 intro i hi
 unfold qnq
 by_cases hlt : i < t.size
 ·have hlt2 : (i : Int) < (t.size : Int) := by omega
  have hg : t[i]? = some t[i] := getElem?_pos t i hlt
  have hg2 : t.data.toList[i]? = some t[i] := by
   have : i < t.data.toList.length := hlt
   rw [List.getElem?_eq_getElem this]
   rfl
  have hsn := q21 hg2
  generalize t[i] = c at *
  have x1 : IntKind.i64.wrap ((i : Int) + 1) = ((i + 1 : Nat) : Int) := q0t (by omega)
  have e3 : (q1f (b ++ q0u t.size ++ t.data.toList.take i)).length = b.length + (q0u t.size).length + i := by
   have hl : t.data.toList.length = t.size := rfl
   rw [q1m, List.length_append, List.length_append, List.length_take]
   omega
  have e4 : 1 + (i + 1) = 1 + i + 1 := by omega
  have e5 : q1f (b ++ q0u t.size ++ t.data.toList.take i) ++ [.int .u8 (c.toNat : Int)] = q1f (b ++ q0u t.size ++ t.data.toList.take (i + 1)) := by
   rw [q6g, hsn]
   simp
  (focus (have hF := (aI (aI @hlt2 (aI @hlt @hg)) (aI @e3 (aI @e5 @x1))); (repeat' (first | refine go1 (k:=?_) | with_reducible refine Ny.of ?_ ?_ | (refine Hyp.of ?_; intro hc; (try simp only [hc]); (try simp only [Bh] at hc)))); all_goals clear hF))
  (refine Fin.nextW (i + 1) ?_ (have hW := @e4; q0v); (try dsimp only))
  omega
 ·have hin : i = t.size := by omega
  subst hin
  have hlt2 : ¬ (t.size : Int) < (t.size : Int) := by omega
  have hl : t.data.toList.take t.size = t.data.toList := List.take_of_length_le (Nat.le_refl _)
  rw [hl, List.append_assoc]
  (focus (have hF := @hlt2; (repeat' (first | refine go1 (k:=?_) | with_reducible refine Ny.of ?_ ?_ | (refine Hyp.of ?_; intro hc; (try simp only [hc]); (try simp only [Bh] at hc)))); all_goals clear hF))
  exact Fin.done ⟨_, rfl, rfl, q01 _⟩

theorem zac {t t' : Tab} (h : t.length = 16) (h' : t'.length = 16) (hx : ∀ r, r < 16 → ∀ n, inT t r n ↔ inT t' r n) : q64 t = q64 t' := by
 have : t.map q12 = t'.map q12 := by
  refine List.ext_getElem (by simp [h, h']) fun i h1 h2 => ?_
  rw [List.length_map] at h1 h2
  rw [List.getElem_map, List.getElem_map]
  refine zak fun n => ?_
  have := hx i (by omega) n
  unfold inT at this
  simpa [List.getD_eq_getElem?_getD, h1, h2] using this
 rw [qm2, qm2, this]
theorem zau {ps qs : List Pst} (h : ∀ r, r < 16 → ∀ n, (∃ p ∈ ps, inP p r n) ↔ ∃ p ∈ qs, inP p r n) : joinP ps = joinP qs :=
 zac (q3s ps).1 (q3s qs).1 fun r hr n => by rw [zae hr, zae hr, h r hr]
theorem zal {p q : Pst} (h : ∀ r, r < 16 → ∀ n, inP p r n ↔ inP q r n) : q29 p = q29 q := zau fun r hr n => by simp [h r hr]
def CanP (p : Pst) : Prop := q29 p = p
theorem CanP.ext {p q : Pst} (hp : CanP p) (hq : CanP q) (h : ∀ r, r < 16 → ∀ n, inP p r n ↔ inP q r n) : p = q := by
 rw [← hp, ← hq]
 exact zal h
def tot (t : Tab) : Nat := (t.map List.length).sum
theorem z12 : ∀ (l : List Nat) (i : Nat), (l.getD i 0) ≤ l.sum
 | [], i => by simp
 | x :: l, 0 => by simp
 | x :: l, i + 1 => by have := z12 l i; simp at this ⊢; omega
theorem qcm : ∀ (t : Tab) (r : Nat) (l : List Rn), ((t.set r l).map List.length).sum ≤ (t.map List.length).sum + (l.length - (t.getD r []).length)
 | [], r, l => by simp
 | x :: t, 0, l => by simp; omega
 | x :: t, r + 1, l => by have := qcm t r l; simp at this ⊢; omega
theorem z0x (t : Tab) (r : Nat) (x : Rn) : tot (q5q t r x) ≤ tot t + 1 := by
 have := qcm t r (t.getD r [] ++ [x])
 unfold tot q5q
 simp only [List.length_append, List.length_cons, List.length_nil] at this
 omega
theorem qfl (v : List Int) (t : Tab) : ∀ i, tot ((List.range i).foldl (q2u v) t) ≤ tot t + i
 | 0 => Nat.le_refl _
 | i + 1 => by
  rw [q6m]
  have h1 := qfl v t i
  have h2 := z0x ((List.range i).foldl (q2u v) t) i (1, q2d v i)
  unfold q2u at *
  omega
theorem qfm : ∀ (c : List Sn) (t : Tab), tot (q3e c t) ≤ tot t + c.length
 | [], t => Nat.le_refl _
 | s :: c, t => by
  have h1 := qfm c (putSn t s)
  have h2 : tot (putSn t s) ≤ tot t + 1 := by
   unfold putSn
   split
   ·exact z0x _ _ _
   ·omega
  show tot (q3e c (putSn t s)) ≤ _
  simp only [List.length_cons]
  omega
theorem qnb : ∀ (ps : List Pst) (t : Tab), tot (ps.foldl q1s t) ≤ tot t + (ps.map wt).sum
 | [], t => Nat.le_refl _
 | p :: ps, t => by
  have h1 := qnb ps (q1s t p)
  have h2 : tot (q1s t p) ≤ tot t + wt p := by
   have a := qfl p.vec t (min p.vec.length 16)
   have b := qfm p.cloud (q55 p.vec t)
   unfold q1s q55 wt at *
   omega
  simp only [List.foldl_cons, List.map_cons, List.sum_cons]
  omega
theorem z0w (ps : List Pst) : tot (q27 ps) ≤ (ps.map wt).sum := by
 have h0 : tot q9l = 0 := by decide
 have := qnb ps q9l
 unfold q27
 omega
theorem qoa (t : Tab) : ∀ m, (q1c t m).length ≤ ((List.range m).map fun r => (t.getD r []).length).sum
 | 0 => by simp [q1c]
 | m + 1 => by
  rw [q4a, List.length_append, List.range_succ, List.map_append, List.sum_append]
  have h1 := qoa t m
  have h2 : (q5l t m).length ≤ (t.getD m []).length := by
   have a := q8u (q12 (t.getD m []))
   have b := q44 (t.getD m [])
   simp only [q5l, q43, List.length_map]
   omega
  simp only [List.map_cons, List.map_nil, List.sum_cons, List.sum_nil]
  omega
theorem qzl : ∀ (t : Tab), ((List.range t.length).map fun r => (t.getD r []).length).sum = tot t
 | t => by
  unfold tot
  congr 1
  refine List.ext_getElem (by simp) fun i h1 h2 => ?_
  simp at h1 h2 ⊢
  simp [h1]
theorem zab {t : Tab} (h : t.length = 16) : wt (q64 t) ≤ 16 + tot t := by
 have h1 := qoa t 16
 have h2 := qzl t
 rw [h] at h2
 show ((q26 t 16).take (q2x t 16)).length + (q1c t 16).length ≤ _
 rw [List.length_take, q2e]
 omega
theorem joinP_wt (ps : List Pst) : wt (joinP ps) ≤ 16 + (ps.map wt).sum := by
 have h1 := zab (q3s ps).1
 have h2 := z0w ps
 show wt (q64 (q27 ps)) ≤ _
 omega
theorem q6n (p : Pst) : wt (q29 p) ≤ wt p + 16 := by
 have := joinP_wt [p]
 simp only [List.map_cons, List.map_nil, List.sum_cons, List.sum_nil] at this
 show wt (joinP [p]) ≤ _
 omega
theorem n9_ex : ∃ N : Nat, N = 1000000000 := ⟨_, rfl⟩
noncomputable def n9 : Nat := Classical.choose n9_ex
open Classical in
noncomputable def card (q : Int → Prop) : Nat := (List.range n9).countP fun (i : Nat) => decide (q ((i : Int) + 1))
open Classical in
theorem qf4 (q : Int → Prop) : card q = (List.range n9).countP fun (i : Nat) => decide (q ((i : Int) + 1)) := rfl
open Classical in
theorem qd9 {α : Type} (p q r s : α → Prop) (l : List α) (h : ∀ x, (if p x then 1 else 0) + (if q x then 1 else 0) = (if r x then 1 else 0) + (if s x then 1 else 0)) :
 l.countP (fun x => decide (p x)) + l.countP (fun x => decide (q x)) = l.countP (fun x => decide (r x)) + l.countP (fun x => decide (s x)) := by
 induction l with
 | nil => rfl
 | cons x l ih =>
  have := h x
  simp only [List.countP_cons, decide_eq_true_eq]
  omega
open Classical in
theorem card_union (p q : Int → Prop) : card (fun n => p n ∨ q n) + card (fun n => p n ∧ q n) = card p + card q := by
 simp only [qf4]
 refine qd9 _ _ _ _ _ fun x => ?_
 by_cases h1 : p ((x : Int) + 1) <;> by_cases h2 : q ((x : Int) + 1) <;> simp [h1, h2]
open Classical in
theorem card_part (p q : Int → Prop) : card (fun n => p n ∧ ¬ q n) + card (fun n => p n ∧ q n) = card p := by
 have h0 : card (fun _ => False) = 0 := by simp [qf4]
 have := qd9 (fun i : Nat => p ((i : Int) + 1) ∧ ¬ q ((i : Int) + 1)) (fun i : Nat => p ((i : Int) + 1) ∧ q ((i : Int) + 1)) (fun i : Nat => p ((i : Int) + 1)) (fun i : Nat => False) (List.range n9) (fun x => by
  by_cases h1 : p ((x : Int) + 1) <;> by_cases h2 : q ((x : Int) + 1) <;> simp [h1, h2])
 simp only [qf4] at h0 ⊢
 omega
theorem qc8 (m : List Rn) (a : Int) : m.foldl q18 a = a + m.foldl q18 0 := by
 induction m generalizing a with
 | nil => simp
 | cons x m ih =>
  simp only [List.foldl_cons]
  rw [ih, ih (q18 0 x)]
  unfold q18
  omega

def z37 : List SOp := [zO 4 (.assign (.const (.bool false)))]
instance : Live z37 := ⟨[0,1]⟩
def z36 : List SOp := [zM 6 0,zO 7 (.call ⟨.builtin .len,#[.tmp 6],#[22]⟩),zM 8 1,zO 9 (.call ⟨.builtin .len,#[.tmp 8],#[22]⟩),zO 10 (.binOp .neq 3 (.tmp 7) (.tmp 9) 3)]
instance : Live z36 := ⟨[0,1]⟩
def z35 : List SOp := [zO 4 (.assign (.const (.bool false)))]
instance : Live z35 := ⟨[]⟩
def z34 : List SOp := [zM 11 0,zO 12 (.call ⟨.builtin .len,#[.tmp 11],#[22]⟩),zO 13 (.move (.const (.int .i64 0)))]
instance : Live z34 := ⟨[0,1]⟩
def z33 : List SOp := [zO 14 (.binOp .lss 3 (.tmp 13) (.tmp 12) 3)]
instance : Live z33 := ⟨[0,1,12,13]⟩
def z32 : List SOp := [zM 15 13,zG 5 15]
instance : Live z32 := ⟨[0,1,12,13]⟩
def z31 : List SOp := [zM 16 0,zM 17 5,zI 18 22 16 17,zL 19 3 18,zM 20 1,zM 21 5,zI 22 22 20 21,zL 23 3 22,zO 24 (.binOp .neq 3 (.tmp 19) (.tmp 23) 3)]
instance : Live z31 := ⟨[0,1,5,12,13]⟩
def z30 : List SOp := [zO 4 (.assign (.const (.bool false)))]
instance : Live z30 := ⟨[]⟩
def z2z : List SOp := [zO 25 (.binOp .add 3 (.tmp 13) (.const (.int .i64 1)) 3),zM 13 25]
instance : Live z2z := ⟨[0,1,12,13]⟩
def qol : List SOp := [zO 4 (.assign (.const (.bool true)))]
instance : Live qol := ⟨[]⟩
def qnf : SC :=
 (.seq (.ops false z33) (.seq (.cond (.tmp 14) .skip (.exit 0)) (.seq (.block 1 (.seq (.ops false z32) (.seq (.ops true z31) (.cond (.tmp 24) (.seq (.ops false z30) .ret) .skip)))) (.ops false z2z))))
def t_k90 : SC :=
 (.seq (.ops false z37) (.seq (.seq (.ops false z36) (.cond (.tmp 10) (.seq (.ops false z35) .ret) .skip)) (.seq (.seq (.ops false z34) (.block 0 (.loop qnf))) (.seq (.ops false qol) .ret))))
theorem it_k90 : FnIs Tryz.prog 90 26 [.tmp 4] t_k90 := ⟨Tryz.f90, _, Tryz.func90, rfl, rfl, rfl, rfl, by kernel_rfl⟩

def z2y : List SOp := [zO 4 (.assign (.const (.bool false)))]
instance : Live z2y := ⟨[0,1]⟩
def z2x : List SOp := [zM 6 0,zO 7 (.call ⟨.builtin .len,#[.tmp 6],#[23]⟩),zM 8 1,zO 9 (.call ⟨.builtin .len,#[.tmp 8],#[23]⟩),zO 10 (.binOp .neq 3 (.tmp 7) (.tmp 9) 3)]
instance : Live z2x := ⟨[0,1]⟩
def z2w : List SOp := [zO 4 (.assign (.const (.bool false)))]
instance : Live z2w := ⟨[]⟩
def z2v : List SOp := [zM 11 0,zO 12 (.call ⟨.builtin .len,#[.tmp 11],#[23]⟩),zO 13 (.move (.const (.int .i64 0)))]
instance : Live z2v := ⟨[0,1]⟩
def z2u : List SOp := [zO 14 (.binOp .lss 3 (.tmp 13) (.tmp 12) 3)]
instance : Live z2u := ⟨[0,1,12,13]⟩
def z2t : List SOp := [zM 15 13,zG 5 15]
instance : Live z2t := ⟨[0,1,12,13]⟩
def z2s : List SOp := [zM 16 0,zM 17 5,zI 18 23 16 17,zL 19 82 18,zM 20 1,zM 21 5,zI 22 23 20 21,zL 23 82 22,zO 24 (.binOp .neq 82 (.tmp 19) (.tmp 23) 82)]
instance : Live z2s := ⟨[0,1,5,12,13]⟩
def z2r : List SOp := [zO 4 (.assign (.const (.bool false)))]
instance : Live z2r := ⟨[]⟩
def z2q : List SOp := [zO 25 (.binOp .add 3 (.tmp 13) (.const (.int .i64 1)) 3),zM 13 25]
instance : Live z2q := ⟨[0,1,12,13]⟩
def qok : List SOp := [zO 4 (.assign (.const (.bool true)))]
instance : Live qok := ⟨[]⟩
def qne : SC :=
 (.seq (.ops false z2u) (.seq (.cond (.tmp 14) .skip (.exit 0)) (.seq (.block 1 (.seq (.ops false z2t) (.seq (.ops true z2s) (.cond (.tmp 24) (.seq (.ops false z2r) .ret) .skip)))) (.ops false z2q))))
def t_k91 : SC :=
 (.seq (.ops false z2y) (.seq (.seq (.ops false z2x) (.cond (.tmp 10) (.seq (.ops false z2w) .ret) .skip)) (.seq (.seq (.ops false z2v) (.block 0 (.loop qne))) (.seq (.ops false qok) .ret))))
theorem it_k91 : FnIs Tryz.prog 91 26 [.tmp 4] t_k91 := ⟨Tryz.f91, _, Tryz.func91, rfl, rfl, rfl, rfl, by kernel_rfl⟩

def z72 : List SOp := [zO 1 (.box 25 (.tmp 0)),zO 2 (.assign (.const (.bool false)))]
instance : Live z72 := ⟨[0]⟩
def z71 : List SOp := [zL 4 25 1,zO 5 (.call ⟨.value (.func 89),#[.tmp 4],#[25]⟩),zO 3 (.alloc 25),⟨none,.store 25 (.tmp 3) (.tmp 5),none⟩]
instance : Live z71 := ⟨[1]⟩
def z6z : List SOp := [zF 6 25 1 0,zL 7 22 6,zF 8 25 3 0,zL 9 22 8,zO 10 (.call ⟨.value (.func 90),#[.tmp 7,.tmp 9],#[22,22]⟩),zM 11 10,⟨some 12,.fieldAddr 25 (.tmp 1) 1,some ((some 11),true)⟩,⟨some 13,.load 23 (.tmp 12),some ((some 11),true)⟩,⟨some 14,.fieldAddr 25 (.tmp 3) 1,some ((some 11),true)⟩,⟨some 15,.load 23 (.tmp 14),some ((some 11),true)⟩,⟨some 16,.call ⟨.value (.func 91),#[.tmp 13,.tmp 15],#[23,23]⟩,some ((some 11),true)⟩,zO 17 (.pick (.tmp 11) (.tmp 16) (.const (.bool false))),zG 2 17]
instance : Live z6z := ⟨[1,3]⟩
def t_k45 : SC :=
 (.seq (.ops false z72) (.seq (.ops false z71) (.seq (.ops false z6z) .ret)))
theorem it_k45 : FnIs Tryz.prog 45 18 [.tmp 2] t_k45 := ⟨Tryz.f45, _, Tryz.func45, rfl, rfl, rfl, rfl, by kernel_rfl⟩

theorem q84 {α : Type} {a b : List α} (hl : a.length = b.length) (h : ∀ j, j < a.length → a[j]? = b[j]?) : a = b := by
 refine List.ext_getElem? fun j => ?_
 by_cases hj : j < a.length
 ·exact h j hj
 ·rw [List.getElem?_eq_none (by omega), List.getElem?_eq_none (by omega)]
theorem qfh {α : Type} {a b : List α} {i : Nat} (h : ∀ j, j < i → a[j]? = b[j]?) (hi : a[i]? = b[i]?) : ∀ j, j < i + 1 → a[j]? = b[j]? := fun j hj => by
 by_cases e : j = i
 ·rw [e]; exact hi
 ·exact h j (by omega)
theorem ev_k90 (a b : List Int) (ha : a.length ≤ 1000000000) (hb : b.length ≤ 1000000000) : Ev (En Tryz.prog rfl).P 90 [.sl 1 (q04 a), .sl 1 (q04 b)] (.ret (.bool (decide (a = b)))) := by
 refine Ev.of_body it_k90 (by simp) (Run.start ?_)
 unfold t_k90
 have e1 := q0b a
 have e2 := q0b b
 (focus (have hF := (aI @e1 @e2); (repeat' (first | refine go1 (k:=?_) | with_reducible refine Ny.of ?_ ?_ | (refine Hyp.of ?_; intro hc; (try simp only [hc]); (try simp only [Bh] at hc)))); all_goals clear hF))
 ·rw [decide_eq_false fun h => hc (by rw [h])]
  exact Fin.tmp' rfl rfl
 ·refine Run.while (σ := Nat) (fun i => ⟨tms [(0, .sl 1 (q04 a)), (1, .sl 1 (q04 b)), (12, .int .i64 (a.length : Int)), (13, .int .i64 (i : Int))], mms []⟩) (fun i => i ≤ a.length ∧ ∀ j, j < i → a[j]? = b[j]?) (fun i => a.length - i) 0 (have hW := @q02; q0v) ⟨Nat.zero_le _, fun j hj => absurd hj (Nat.not_lt_zero _)⟩ ?_
  rintro i ⟨hi, hp⟩
  unfold qnf
  by_cases hlt : i < a.length
  ·obtain ⟨x, hx⟩ : ∃ x, a[i]? = some x := ⟨a[i], by simp [hlt]⟩
   obtain ⟨y, hy⟩ : ∃ y, b[i]? = some y := ⟨b[i]'(by omega), by simp [show i < b.length by omega]⟩
   have g1 := q0q hx
   have g2 := q0q hy
   (focus (have hF := (aI (aI @e1 @e2) (aI @g1 @g2)); (repeat' (first | refine go1 (k:=?_) | with_reducible refine Ny.of ?_ ?_ | (refine Hyp.of ?_; intro hc; (try simp only [hc]); (try simp only [Bh] at hc)))); all_goals clear hF))
   ·rw [decide_eq_false fun h => hc (by rw [h, hy] at hx; exact (Option.some.inj hx).symm)]
    exact Fin.tmp' rfl rfl
   ·have hs := qfh hp (hx.trans ((congrArg some hc).trans hy.symm))
    (refine Fin.nextW (i + 1) ?_ (have hW := @q02; q0v); (try dsimp only))
    exact ⟨⟨hlt, hs⟩, by omega⟩
  ·rw [decide_eq_true (q84 (by omega) fun j hj => hp j (by omega))]
   (focus (have hF := (aI @e1 @e2); (repeat' (first | refine go1 (k:=?_) | with_reducible refine Ny.of ?_ ?_ | (refine Hyp.of ?_; intro hc; (try simp only [hc]); (try simp only [Bh] at hc)))); all_goals clear hF))
   exact Fin.tmp' rfl rfl
theorem ev_k91 (a b : List Sn) (ha : a.length ≤ 1000000000) (hb : b.length ≤ 1000000000) : Ev (En Tryz.prog rfl).P 91 [.sl 3 (q0e a), .sl 3 (q0e b)] (.ret (.bool (decide (a = b)))) := by
 refine Ev.of_body it_k91 (by simp) (Run.start ?_)
 unfold t_k91
 have e1 := q16 a
 have e2 := q16 b
 (focus (have hF := (aI @e1 @e2); (repeat' (first | refine go1 (k:=?_) | with_reducible refine Ny.of ?_ ?_ | (refine Hyp.of ?_; intro hc; (try simp only [hc]); (try simp only [Bh] at hc)))); all_goals clear hF))
 ·rw [decide_eq_false fun h => hc (by rw [h])]
  exact Fin.tmp' rfl rfl
 ·refine Run.while (σ := Nat) (fun i => ⟨tms [(0, .sl 3 (q0e a)), (1, .sl 3 (q0e b)), (12, .int .i64 (a.length : Int)), (13, .int .i64 (i : Int))], mms []⟩) (fun i => i ≤ a.length ∧ ∀ j, j < i → a[j]? = b[j]?) (fun i => a.length - i) 0 (have hW := @q03; q0v) ⟨Nat.zero_le _, fun j hj => absurd hj (Nat.not_lt_zero _)⟩ ?_
  rintro i ⟨hi, hp⟩
  unfold qne
  by_cases hlt : i < a.length
  ·obtain ⟨x, hx⟩ : ∃ x, a[i]? = some x := ⟨a[i], by simp [hlt]⟩
   obtain ⟨y, hy⟩ : ∃ y, b[i]? = some y := ⟨b[i]'(by omega), by simp [show i < b.length by omega]⟩
   have g1 := q1x hx
   have g2 := q1x hy
   (focus (have hF := (aI (aI @e1 @e2) (aI @g1 @g2)); (repeat' (first | refine go1 (k:=?_) | with_reducible refine Ny.of ?_ ?_ | (refine Hyp.of ?_; intro hc; (try simp only [hc]); (try simp only [Bh] at hc)))); all_goals clear hF))
   ·rw [decide_eq_false fun h => by
     rw [h, hy] at hx
     have := Option.some.inj hx
     subst this
     simp at hc]
    exact Fin.tmp' rfl rfl
   ·have hxy : x = y := Prod.ext hc.1 (Prod.ext hc.2.1 hc.2.2)
    have hs := qfh hp (hx.trans ((congrArg some hxy).trans hy.symm))
    (refine Fin.nextW (i + 1) ?_ (have hW := @q03; q0v); (try dsimp only))
    exact ⟨⟨hlt, hs⟩, by omega⟩
  ·rw [decide_eq_true (q84 (by omega) fun j hj => hp j (by omega))]
   (focus (have hF := (aI @e1 @e2); (repeat' (first | refine go1 (k:=?_) | with_reducible refine Ny.of ?_ ?_ | (refine Hyp.of ?_; intro hc; (try simp only [hc]); (try simp only [Bh] at hc)))); all_goals clear hF))
   exact Fin.tmp' rfl rfl
def q15 (p : Pst) : Bool := decide (p.vec = (q29 p).vec) && decide (p.cloud = (q29 p).cloud)
theorem q5h {p : Pst} : q15 p = true ↔ CanP p := by
 unfold q15 CanP
 rw [Bool.and_eq_true, decide_eq_true_eq, decide_eq_true_eq]
 constructor
 ·rintro ⟨h1, h2⟩
  have : ∀ q : Pst, p.vec = q.vec → p.cloud = q.cloud → q = p := fun q a b => by cases p; cases q; simp at a b; rw [a, b]
  exact this _ h1 h2
 ·intro h
  rw [h]
  exact ⟨rfl, rfl⟩
theorem ev_k45 (p : Pst) (hw : wt p ≤ 40000000) : Ev (En Tryz.prog rfl).P 45 [q1k p] (.ret (.bool (q15 p))) := by
 refine Ev.of_body it_k45 (by simp) (Run.start ?_)
 unfold t_k45 q1k
 have c1 := zbi p (by omega)
 have hn := q6n p
 have hw1 : p.vec.length + p.cloud.length = wt p := rfl
 have hw2 : (q29 p).vec.length + (q29 p).cloud.length = wt (q29 p) := rfl
 have c2 := ev_k90 p.vec (q29 p).vec (by omega) (by omega)
 have c3 := ev_k91 p.cloud (q29 p).cloud (by omega) (by omega)
 (focus (have hF := True.intro; (repeat' (first | refine go1 (k:=?_) | with_reducible refine Ny.of ?_ ?_ | (refine Hyp.of ?_; intro hc; (try simp only [hc]); (try simp only [Bh] at hc)))); all_goals clear hF))
 refine q05 [q1k p] (he := c1) (k:=?_)
 unfold q1k
 (focus (have hF := True.intro; (repeat' (first | refine go1 (k:=?_) | with_reducible refine Ny.of ?_ ?_ | (refine Hyp.of ?_; intro hc; (try simp only [hc]); (try simp only [Bh] at hc)))); all_goals clear hF))
 by_cases hv : p.vec = (q29 p).vec
 ·have hr : q15 p = decide (p.cloud = (q29 p).cloud) := by unfold q15; rw [decide_eq_true hv]; rfl
  rw [decide_eq_true hv] at c2
  rw [hr]
  refine q05 [.sl 1 (q04 p.vec), .sl 1 (q04 (q29 p).vec)] (he := c2) (k:=?_)
  (focus (have hF := True.intro; (repeat' (first | refine go1 (k:=?_) | with_reducible refine Ny.of ?_ ?_ | (refine Hyp.of ?_; intro hc; (try simp only [hc]); (try simp only [Bh] at hc)))); all_goals clear hF))
  refine q05 [.sl 3 (q0e p.cloud), .sl 3 (q0e (q29 p).cloud)] (he := c3) (k:=?_)
  (focus (have hF := True.intro; (repeat' (first | refine go1 (k:=?_) | with_reducible refine Ny.of ?_ ?_ | (refine Hyp.of ?_; intro hc; (try simp only [hc]); (try simp only [Bh] at hc)))); all_goals clear hF))
  exact Fin.tmp' rfl rfl
 ·have hr : q15 p = false := by unfold q15; rw [decide_eq_false hv]; rfl
  rw [decide_eq_false hv] at c2
  rw [hr]
  refine q05 [.sl 1 (q04 p.vec), .sl 1 (q04 (q29 p).vec)] (he := c2) (k:=?_)
  (focus (have hF := True.intro; (repeat' (first | refine go1 (k:=?_) | with_reducible refine Ny.of ?_ ?_ | (refine Hyp.of ?_; intro hc; (try simp only [hc]); (try simp only [Bh] at hc)))); all_goals clear hF))
  exact Fin.tmp' rfl rfl

def qqx : List SOp := [zO 2 (.assign (.const (.bool false)))]
instance : Live qqx := ⟨[0]⟩
def qqw : List SOp := [zM 3 0,zM 4 0,zO 5 (.binOp .neq 3 (.tmp 3) (.tmp 4) 3),zG 2 5]
instance : Live qqw := ⟨[0]⟩
def t_k157 : SC :=
 (.seq (.ops false qqx) (.seq (.ops false qqw) .ret))
theorem it_k157 : FnIs Tryz.prog 157 6 [.tmp 2] t_k157 := ⟨Tryz.f157, _, Tryz.func157, rfl, rfl, rfl, rfl, by kernel_rfl⟩

def qsf : List SOp := [zO 4 (.assign (.const (.int .i64 0)))]
instance : Live qsf := ⟨[0,1]⟩
def qse : List SOp := [zM 7 0,zO 8 (.call ⟨.value (.func 157),#[.tmp 7],#[3]⟩),zG 5 8]
instance : Live qse := ⟨[0,1]⟩
def qsd : List SOp := [zM 9 1,zO 10 (.call ⟨.value (.func 157),#[.tmp 9],#[3]⟩),zG 6 10]
instance : Live qsd := ⟨[0,1,5]⟩
def qsc : List SOp := [zM 11 5]
instance : Live qsc := ⟨[0,1,5,6]⟩
def qsb : List SOp := [zM 12 6]
instance : Live qsb := ⟨[6]⟩
def qsa : List SOp := [zO 4 (.assign (.const (.int .i64 0)))]
instance : Live qsa := ⟨[]⟩
def qs9 : List SOp := [zO 4 (.assign (.const (.int .i64 (-1))))]
instance : Live qs9 := ⟨[]⟩
def qs8 : List SOp := [zM 13 6]
instance : Live qs8 := ⟨[0,1,6]⟩
def qs7 : List SOp := [zO 4 (.assign (.const (.int .i64 1)))]
instance : Live qs7 := ⟨[]⟩
def qgz : List SOp := [zM 14 0,zM 15 1,zO 16 (.binOp .lss 3 (.tmp 14) (.tmp 15) 3)]
instance : Live qgz := ⟨[0,1]⟩
def qgy : List SOp := [zO 4 (.assign (.const (.int .i64 (-1))))]
instance : Live qgy := ⟨[]⟩
def qgx : List SOp := [zM 17 0,zM 18 1,zO 19 (.binOp .gtr 3 (.tmp 17) (.tmp 18) 3)]
instance : Live qgx := ⟨[0,1]⟩
def qgw : List SOp := [zO 4 (.assign (.const (.int .i64 1)))]
instance : Live qgw := ⟨[]⟩
def qgv : List SOp := [zO 4 (.assign (.const (.int .i64 0)))]
instance : Live qgv := ⟨[]⟩
def t_k146 : SC :=
 (.seq (.ops false qsf) (.seq (.ops false qse) (.seq (.ops false qsd) (.seq (.seq (.ops false qsc) (.cond (.tmp 11) (.seq (.seq (.ops false qsb) (.cond (.tmp 12) (.seq (.ops false qsa) .ret) .skip)) (.seq (.ops false qs9) .ret)) .skip)) (.seq (.seq (.ops false qs8) (.cond (.tmp 13) (.seq (.ops false qs7) .ret) .skip)) (.seq (.seq (.ops false qgz) (.cond (.tmp 16) (.seq (.ops false qgy) .ret) .skip)) (.seq (.seq (.ops false qgx) (.cond (.tmp 19) (.seq (.ops false qgw) .ret) .skip)) (.seq (.ops false qgv) .ret))))))))
theorem it_k146 : FnIs Tryz.prog 146 20 [.tmp 4] t_k146 := ⟨Tryz.f146, _, Tryz.func146, rfl, rfl, rfl, rfl, by kernel_rfl⟩

def qrv : List SOp := [zO 2 (.assign (.const (.int .i64 0)))]
instance : Live qrv := ⟨[0]⟩
def qru : List SOp := [zO 3 (.assign (.const (.int .i64 0)))]
instance : Live qru := ⟨[0]⟩
def qrt : List SOp := [zM 6 0,zO 7 (.call ⟨.builtin .len,#[.tmp 6],#[22]⟩),zO 8 (.move (.const (.int .i64 0)))]
instance : Live qrt := ⟨[0,3]⟩
def qrs : List SOp := [zO 9 (.binOp .lss 3 (.tmp 8) (.tmp 7) 3)]
instance : Live qrs := ⟨[3,6,7,8]⟩
def qrr : List SOp := [zI 10 22 6 8,zL 11 3 10,zG 5 11]
instance : Live qrr := ⟨[3,6,7,8]⟩
def qrq : List SOp := [zM 12 5,zM 13 3,zO 14 (.binOp .neq 3 (.tmp 12) (.tmp 13) 3)]
instance : Live qrq := ⟨[3,5,6,7,8]⟩
def qrp : List SOp := [zM 15 5,zG 2 15]
instance : Live qrp := ⟨[5]⟩
def qro : List SOp := [zO 16 (.binOp .add 3 (.tmp 8) (.const (.int .i64 1)) 3),zM 8 16]
instance : Live qro := ⟨[3,6,7,8]⟩
def qrn : List SOp := [zM 17 3,zG 2 17]
instance : Live qrn := ⟨[3]⟩
def qfq : SC :=
 (.seq (.ops false qrs) (.seq (.cond (.tmp 9) .skip (.exit 0)) (.seq (.block 1 (.seq (.ops false qrr) (.seq (.ops false qrq) (.cond (.tmp 14) (.seq (.ops false qrp) .ret) .skip)))) (.ops false qro))))
def t_k149 : SC :=
 (.seq (.ops false qrv) (.seq (.ops false qru) (.seq (.seq (.ops false qrt) (.block 0 (.loop qfq))) (.seq (.ops false qrn) .ret))))
theorem it_k149 : FnIs Tryz.prog 149 18 [.tmp 2] t_k149 := ⟨Tryz.f149, _, Tryz.func149, rfl, rfl, rfl, rfl, by kernel_rfl⟩

def qrx : List SOp := [zO 2 (.box 82 (.tmp 0)),zO 3 (.box 82 (.tmp 1)),zO 4 (.assign (.const (.int .i64 0)))]
instance : Live qrx := ⟨[0,1]⟩
def qrw : List SOp := [zF 5 82 2 0,zL 6 3 5,zF 7 82 3 0,zL 8 3 7,zO 9 (.call ⟨.value (.func 146),#[.tmp 6,.tmp 8],#[3,3]⟩),zF 10 82 2 1,zL 11 3 10,zF 12 82 3 1,zL 13 3 12,zO 14 (.call ⟨.value (.func 146),#[.tmp 11,.tmp 13],#[3,3]⟩),zF 15 82 2 2,zL 16 3 15,zF 17 82 3 2,zL 18 3 17,zO 19 (.call ⟨.value (.func 146),#[.tmp 16,.tmp 18],#[3,3]⟩),zO 20 (.buildSlice 22 3 #[(0,.tmp 9),(1,.tmp 14),(2,.tmp 19)]),zO 21 (.call ⟨.value (.func 149),#[.tmp 20],#[22]⟩),zG 4 21]
instance : Live qrw := ⟨[2,3]⟩
def t_k148 : SC :=
 (.seq (.ops false qrx) (.seq (.ops true qrw) .ret))
theorem it_k148 : FnIs Tryz.prog 148 22 [.tmp 4] t_k148 := ⟨Tryz.f148, _, Tryz.func148, rfl, rfl, rfl, rfl, by kernel_rfl⟩

def qs6 : List SOp := [zO 6 (.assign (.const (.int .i64 0)))]
instance : Live qs6 := ⟨[0,1,2]⟩
def qs5 : List SOp := [zM 11 0,zO 12 (.call ⟨.builtin .len,#[.tmp 11],#[23]⟩),zO 13 (.move (.const (.int .i64 0)))]
instance : Live qs5 := ⟨[0,1,2]⟩
def qs4 : List SOp := [zO 14 (.binOp .lss 3 (.tmp 13) (.tmp 12) 3)]
instance : Live qs4 := ⟨[0,1,2,11,12,13]⟩
def qs3 : List SOp := [zM 15 13,zI 16 23 11 13,zL 17 82 16,zO 8 (.alloc 82),zG 7 15,⟨none,.store 82 (.tmp 8) (.tmp 17),none⟩]
instance : Live qs3 := ⟨[0,1,2,11,12,13]⟩
def qs2 : List SOp := [zM 18 7,zM 19 1,zO 20 (.call ⟨.builtin .len,#[.tmp 19],#[23]⟩),zO 21 (.binOp .geq 3 (.tmp 18) (.tmp 20) 3)]
instance : Live qs2 := ⟨[0,1,2,7,8,11,12,13]⟩
def qs1 : List SOp := [zO 6 (.assign (.const (.int .i64 1)))]
instance : Live qs1 := ⟨[]⟩
def qs0 : List SOp := [zM 22 1,zM 23 7,zI 24 23 22 23,zL 25 82 24,zO 9 (.alloc 82),⟨none,.store 82 (.tmp 9) (.tmp 25),none⟩]
instance : Live qs0 := ⟨[0,1,2,7,8,11,12,13]⟩
def qrz : List SOp := [zM 26 2,zL 27 82 8,zL 28 82 9,zO 29 (.call ⟨.value (.tmp 26),#[.tmp 27,.tmp 28],#[82,82]⟩),zG 10 29]
instance : Live qrz := ⟨[0,1,2,8,9,11,12,13]⟩
def qry : List SOp := [zM 30 10,zO 31 (.binOp .neq 3 (.tmp 30) (.const (.int .i64 0)) 3)]
instance : Live qry := ⟨[0,1,2,10,11,12,13]⟩
def qgu : List SOp := [zM 32 10,zG 6 32]
instance : Live qgu := ⟨[10]⟩
def qgt : List SOp := [zO 33 (.binOp .add 3 (.tmp 13) (.const (.int .i64 1)) 3),zM 13 33]
instance : Live qgt := ⟨[0,1,2,11,12,13]⟩
def qgs : List SOp := [zM 34 0,zO 35 (.call ⟨.builtin .len,#[.tmp 34],#[23]⟩),zM 36 1,zO 37 (.call ⟨.builtin .len,#[.tmp 36],#[23]⟩),zO 38 (.binOp .lss 3 (.tmp 35) (.tmp 37) 3)]
instance : Live qgs := ⟨[0,1]⟩
def qgr : List SOp := [zO 6 (.assign (.const (.int .i64 (-1))))]
instance : Live qgr := ⟨[]⟩
def qgq : List SOp := [zO 6 (.assign (.const (.int .i64 0)))]
instance : Live qgq := ⟨[]⟩
def qfr : SC :=
 (.seq (.ops false qs4) (.seq (.cond (.tmp 14) .skip (.exit 0)) (.seq (.block 1 (.seq (.ops false qs3) (.seq (.seq (.ops false qs2) (.cond (.tmp 21) (.seq (.ops false qs1) .ret) .skip)) (.seq (.ops false qs0) (.seq (.ops false qrz) (.seq (.ops false qry) (.cond (.tmp 31) (.seq (.ops false qgu) .ret) .skip))))))) (.ops false qgt))))
def t_k147 : SC :=
 (.seq (.ops false qs6) (.seq (.seq (.ops false qs5) (.block 0 (.loop qfr))) (.seq (.seq (.ops false qgs) (.cond (.tmp 38) (.seq (.ops false qgr) .ret) .skip)) (.seq (.ops false qgq) .ret))))
theorem it_k147 : FnIs Tryz.prog 147 39 [.tmp 6] t_k147 := ⟨Tryz.f147, _, Tryz.func147, rfl, rfl, rfl, rfl, by kernel_rfl⟩

def q5y (a b : Int) : Int := if a < b then -1 else if b < a then 1 else 0
theorem zbk (a : Int) : Ev (En Tryz.prog rfl).P 157 [.int .i64 a] (.ret (.bool false)) := by
 refine Ev.of_body it_k157 (by simp) (Run.start ?_)
 unfold t_k157
 (focus (have hF := True.intro; (repeat' (first | refine go1 (k:=?_) | with_reducible refine Ny.of ?_ ?_ | (refine Hyp.of ?_; intro hc; (try simp only [hc]); (try simp only [Bh] at hc)))); all_goals clear hF))
 all_goals first | exact Fin.tmp' rfl rfl | trace_state
theorem qev (a b : Int) : Ev (En Tryz.prog rfl).P 146 [.int .i64 a, .int .i64 b] (.ret (.int .i64 (q5y a b))) := by
 refine Ev.of_body it_k146 (by simp) (Run.start ?_)
 unfold t_k146
 (focus (have hF := True.intro; (repeat' (first | refine go1 (k:=?_) | with_reducible refine Ny.of ?_ ?_ | (refine Hyp.of ?_; intro hc; (try simp only [hc]); (try simp only [Bh] at hc)))); all_goals clear hF))
 refine q05 [.int .i64 a] (he := zbk a) (k:=?_)
 (focus (have hF := True.intro; (repeat' (first | refine go1 (k:=?_) | with_reducible refine Ny.of ?_ ?_ | (refine Hyp.of ?_; intro hc; (try simp only [hc]); (try simp only [Bh] at hc)))); all_goals clear hF))
 refine q05 [.int .i64 b] (he := zbk b) (k:=?_)
 (focus (have hF := True.intro; (repeat' (first | refine go1 (k:=?_) | with_reducible refine Ny.of ?_ ?_ | (refine Hyp.of ?_; intro hc; (try simp only [hc]); (try simp only [Bh] at hc)))); all_goals clear hF))
 ·rw [show q5y a b = -1 from if_pos hc]
  exact Fin.tmp' rfl rfl
 ·rename_i hc1
  rw [show q5y a b = 1 by unfold q5y; rw [if_neg hc1, if_pos hc]]
  exact Fin.tmp' rfl rfl
 ·rename_i hc1
  rw [show q5y a b = 0 by unfold q5y; rw [if_neg hc1, if_neg hc]]
  exact Fin.tmp' rfl rfl
def orI : List Int → Int
 | [] => 0
 | x :: l => if x = 0 then orI l else x
theorem orI_drop {l : List Int} {i : Nat} {x : Int} (h : l[i]? = some x) : orI (l.drop i) = if x = 0 then orI (l.drop (i + 1)) else x := by
 obtain ⟨hi, hx⟩ := List.getElem?_eq_some_iff.1 h
 rw [List.drop_eq_getElem_cons hi, hx]
 rfl
theorem ev_k149 (l : List Int) (hl : l.length ≤ 1000000000) : Ev (En Tryz.prog rfl).P 149 [.sl 1 (q04 l)] (.ret (.int .i64 (orI l))) := by
 refine Ev.of_body it_k149 (by simp) (Run.start ?_)
 unfold t_k149
 have e1 := q0b l
 (focus (have hF := @e1; (repeat' (first | refine go1 (k:=?_) | with_reducible refine Ny.of ?_ ?_ | (refine Hyp.of ?_; intro hc; (try simp only [hc]); (try simp only [Bh] at hc)))); all_goals clear hF))
 refine Run.while (σ := Nat) (fun i => ⟨tms [(3, .int .i64 0), (6, .sl 1 (q04 l)), (7, .int .i64 (l.length : Int)), (8, .int .i64 (i : Int))], mms []⟩) (fun i => i ≤ l.length ∧ orI (l.drop i) = orI l) (fun i => l.length - i) 0 (have hW := @q02; q0v) ⟨Nat.zero_le _, by rw [List.drop_zero]⟩ ?_
 rintro i ⟨hi, hp⟩
 unfold qfq
 by_cases hlt : i < l.length
 ·obtain ⟨x, hx⟩ : ∃ x, l[i]? = some x := ⟨l[i], by simp [hlt]⟩
  have g1 := q0q hx
  have hd := orI_drop hx
  (focus (have hF := (aI @e1 @g1); (repeat' (first | refine go1 (k:=?_) | with_reducible refine Ny.of ?_ ?_ | (refine Hyp.of ?_; intro hc; (try simp only [hc]); (try simp only [Bh] at hc)))); all_goals clear hF))
  ·rw [if_neg hc] at hd
   rw [← hp, hd]
   exact Fin.tmp' rfl rfl
  ·rw [if_pos hc] at hd
   (refine Fin.nextW (i + 1) ?_ (have hW := @q02; q0v); (try dsimp only))
   exact ⟨⟨hlt, hd.symm.trans hp⟩, by omega⟩
 ·rw [← hp, List.drop_eq_nil_of_le (by omega)]
  (focus (have hF := @e1; (repeat' (first | refine go1 (k:=?_) | with_reducible refine Ny.of ?_ ?_ | (refine Hyp.of ?_; intro hc; (try simp only [hc]); (try simp only [Bh] at hc)))); all_goals clear hF))
  exact Fin.tmp' rfl rfl
def cmpS (s t : Sn) : Int := orI [q5y s.1 t.1, q5y s.2.1 t.2.1, q5y s.2.2 t.2.2]
theorem ev_k148 (s t : Sn) : Ev (En Tryz.prog rfl).P 148 [encS s, encS t] (.ret (.int .i64 (cmpS s t))) := by
 refine Ev.of_body it_k148 (by simp) (Run.start ?_)
 unfold t_k148 encS
 (focus (have hF := True.intro; (repeat' (first | refine go1 (k:=?_) | with_reducible refine Ny.of ?_ ?_ | (refine Hyp.of ?_; intro hc; (try simp only [hc]); (try simp only [Bh] at hc)))); all_goals clear hF))
 refine q05 [.int .i64 s.1, .int .i64 t.1] (he := qev _ _) (k:=?_)
 (focus (have hF := True.intro; (repeat' (first | refine go1 (k:=?_) | with_reducible refine Ny.of ?_ ?_ | (refine Hyp.of ?_; intro hc; (try simp only [hc]); (try simp only [Bh] at hc)))); all_goals clear hF))
 refine q05 [.int .i64 s.2.1, .int .i64 t.2.1] (he := qev _ _) (k:=?_)
 (focus (have hF := True.intro; (repeat' (first | refine go1 (k:=?_) | with_reducible refine Ny.of ?_ ?_ | (refine Hyp.of ?_; intro hc; (try simp only [hc]); (try simp only [Bh] at hc)))); all_goals clear hF))
 refine q05 [.int .i64 s.2.2, .int .i64 t.2.2] (he := qev _ _) (k:=?_)
 (focus (have hF := True.intro; (repeat' (first | refine go1 (k:=?_) | with_reducible refine Ny.of ?_ ?_ | (refine Hyp.of ?_; intro hc; (try simp only [hc]); (try simp only [Bh] at hc)))); all_goals clear hF))
 refine q05 [.sl 1 (q04 [q5y s.1 t.1, q5y s.2.1 t.2.1, q5y s.2.2 t.2.2])] (he := ev_k149 _ (by simp)) (k:=?_)
 (focus (have hF := True.intro; (repeat' (first | refine go1 (k:=?_) | with_reducible refine Ny.of ?_ ?_ | (refine Hyp.of ?_; intro hc; (try simp only [hc]); (try simp only [Bh] at hc)))); all_goals clear hF))
 exact Fin.tmp' rfl rfl
def qf9 : List Sn → List Sn → Int
 | [], [] => 0
 | [], _ :: _ => -1
 | _ :: _, [] => 1
 | x :: l, y :: m => if cmpS x y = 0 then qf9 l m else cmpS x y
theorem q73 (a b : List Sn) (ha : a.length ≤ 1000000000) (hb : b.length ≤ 1000000000) : Ev (En Tryz.prog rfl).P 147 [.sl 3 (q0e a), .sl 3 (q0e b), .fn 148 []] (.ret (.int .i64 (qf9 a b))) := by
 refine Ev.of_body it_k147 (by simp) (Run.start ?_)
 unfold t_k147
 have e1 := q16 a
 have e2 := q16 b
 (focus (have hF := (aI @e1 @e2); (repeat' (first | refine go1 (k:=?_) | with_reducible refine Ny.of ?_ ?_ | (refine Hyp.of ?_; intro hc; (try simp only [hc]); (try simp only [Bh] at hc)))); all_goals clear hF))
 refine Run.while (σ := Nat) (fun i => ⟨tms [(0, .sl 3 (q0e a)), (1, .sl 3 (q0e b)), (2, .fn 148 []), (11, .sl 3 (q0e a)), (12, .int .i64 (a.length : Int)), (13, .int .i64 (i : Int))], mms []⟩) (fun i => i ≤ a.length ∧ i ≤ b.length ∧ qf9 (a.drop i) (b.drop i) = qf9 a b) (fun i => a.length - i) 0 (have hW := @q03; q0v) ⟨Nat.zero_le _, Nat.zero_le _, by rw [List.drop_zero, List.drop_zero]⟩ ?_
 rintro i ⟨hi, hi2, hp⟩
 unfold qfr
 by_cases hlt : i < a.length
 ·obtain ⟨x, hx⟩ : ∃ x, a[i]? = some x := ⟨a[i], by simp [hlt]⟩
  have g1 := q1x hx
  obtain ⟨_, hxa⟩ := List.getElem?_eq_some_iff.1 hx
  by_cases hlb : i < b.length
  ·obtain ⟨y, hy⟩ : ∃ y, b[i]? = some y := ⟨b[i], by simp [hlb]⟩
   have g2 := q1x hy
   obtain ⟨_, hyb⟩ := List.getElem?_eq_some_iff.1 hy
   have hd : qf9 a b = if cmpS x y = 0 then qf9 (a.drop (i + 1)) (b.drop (i + 1)) else cmpS x y := by
    rw [← hp, List.drop_eq_getElem_cons hlt, List.drop_eq_getElem_cons hlb, hxa, hyb]
    rfl
   unfold encS at g1 g2
   (focus (have hF := (aI (aI @e1 @e2) (aI @g1 @g2)); (repeat' (first | refine go1 (k:=?_) | with_reducible refine Ny.of ?_ ?_ | (refine Hyp.of ?_; intro hc; (try simp only [hc]); (try simp only [Bh] at hc)))); all_goals clear hF))
   refine q05 [.agg [.int .i64 x.1, .int .i64 x.2.1, .int .i64 x.2.2], .agg [.int .i64 y.1, .int .i64 y.2.1, .int .i64 y.2.2]] (he := ev_k148 x y) (k:=?_)
   (focus (have hF := (aI (aI @e1 @e2) (aI @g1 @g2)); (repeat' (first | refine go1 (k:=?_) | with_reducible refine Ny.of ?_ ?_ | (refine Hyp.of ?_; intro hc; (try simp only [hc]); (try simp only [Bh] at hc)))); all_goals clear hF))
   ·rw [if_neg hc] at hd
    rw [hd]
    exact Fin.tmp' rfl rfl
   ·rw [if_pos hc] at hd
    (refine Fin.nextW (i + 1) ?_ (have hW := @q03; q0v); (try dsimp only))
    exact ⟨⟨hlt, hlb, hd.symm⟩, by omega⟩
  ·have hd : qf9 a b = 1 := by
    rw [← hp, List.drop_eq_getElem_cons hlt, List.drop_eq_nil_of_le (show b.length ≤ i by omega)]
    rfl
   rw [hd]
   (focus (have hF := (aI @e1 (aI @e2 @g1)); (repeat' (first | refine go1 (k:=?_) | with_reducible refine Ny.of ?_ ?_ | (refine Hyp.of ?_; intro hc; (try simp only [hc]); (try simp only [Bh] at hc)))); all_goals clear hF))
   exact Fin.tmp' rfl rfl
 ·have hia : i = a.length := by omega
  (focus (have hF := (aI @e1 @e2); (repeat' (first | refine go1 (k:=?_) | with_reducible refine Ny.of ?_ ?_ | (refine Hyp.of ?_; intro hc; (try simp only [hc]); (try simp only [Bh] at hc)))); all_goals clear hF))
  ·have hd : qf9 a b = -1 := by
    rw [← hp, List.drop_eq_nil_of_le (show a.length ≤ i by omega), List.drop_eq_getElem_cons (show i < b.length by omega)]
    rfl
   rw [hd]
   exact Fin.tmp' rfl rfl
  ·have hd : qf9 a b = 0 := by
    rw [← hp, List.drop_eq_nil_of_le (show a.length ≤ i by omega), List.drop_eq_nil_of_le (show b.length ≤ i by omega)]
    rfl
   rw [hd]
   exact Fin.tmp' rfl rfl

def q72 : List Int → List Int → Int
 | [], [] => 0
 | [], _ :: _ => -1
 | _ :: _, [] => 1
 | x :: l, y :: m => if x < y then -1 else if y < x then 1 else q72 l m
theorem qcx : ∀ l m : List Int, q72 l m = -1 ∨ q72 l m = 0 ∨ q72 l m = 1
 | [], [] => .inr (.inl rfl)
 | [], _ :: _ => .inl rfl
 | _ :: _, [] => .inr (.inr rfl)
 | x :: l, y :: m => by
  unfold q72
  split
  ·exact .inl rfl
  ·split
   ·exact .inr (.inr rfl)
   ·exact qcx l m
theorem qjo : ∀ l : List Int, q72 l l = 0
 | [] => rfl
 | x :: l => by unfold q72; rw [if_neg (by omega), if_neg (by omega), qjo l]
theorem zas : ∀ {l m : List Int}, q72 l m = 0 → l = m
 | [], [], _ => rfl
 | [], _ :: _, h => by simp [q72] at h
 | _ :: _, [], h => by simp [q72] at h
 | x :: l, y :: m, h => by
  unfold q72 at h
  by_cases h1 : x < y
  ·rw [if_pos h1] at h; simp at h
  ·by_cases h2 : y < x
   ·rw [if_neg h1, if_pos h2] at h; simp at h
   ·rw [if_neg h1, if_neg h2] at h
    rw [zas h, show x = y by omega]
theorem qej : ∀ (l : List Int) (c d : List Int), q72 (l ++ c) (l ++ d) = q72 c d
 | [], _, _ => rfl
 | x :: l, c, d => by
  show (if x < x then (-1 : Int) else if x < x then 1 else q72 (l ++ c) (l ++ d)) = _
  rw [if_neg (by omega), if_neg (by omega), qej l]
theorem qmb : ∀ (l m : List Int) (i : Nat) (x y : Int) (c d : List Int), l[i]? = some x → m[i]? = some y → (∀ j, j < i → l[j]? = m[j]?) → x ≠ y → q72 (l ++ c) (m ++ d) = q5y x y
 | [], _, _, _, _, _, _, h, _, _, _ => by simp at h
 | _ :: _, [], _, _, _, _, _, _, h, _, _ => by simp at h
 | a :: l, b :: m, 0, x, y, c, d, h1, h2, _, hn => by
  simp at h1 h2
  subst h1; subst h2
  show q72 (a :: (l ++ c)) (b :: (m ++ d)) = _
  unfold q72 q5y
  by_cases e1 : a < b
  ·rw [if_pos e1, if_pos e1]
  ·rw [if_neg e1, if_neg e1, if_pos (by omega), if_pos (by omega)]
 | a :: l, b :: m, i + 1, x, y, c, d, h1, h2, hj, hn => by
  have e := hj 0 (by omega)
  simp at e
  subst e
  show q72 (a :: (l ++ c)) (a :: (m ++ d)) = _
  unfold q72
  rw [if_neg (by omega), if_neg (by omega)]
  refine qmb l m i x y c d (by simpa using h1) (by simpa using h2) (fun j hjl => ?_) hn
  have := hj (j + 1) (by omega)
  simpa using this
def zb9 : List Sn → List Int
 | [] => []
 | s :: l => s.1 :: s.2.1 :: s.2.2 :: zb9 l
theorem qbu : ∀ l m : List Sn, q72 (zb9 l) (zb9 m) = qf9 l m
 | [], [] => rfl
 | [], _ :: _ => rfl
 | _ :: _, [] => rfl
 | x :: l, y :: m => by
  have ih := qbu l m
  simp only [zb9, q72, qf9, cmpS, orI, q5y, ih]
  by_cases a1 : x.1 < y.1
  ·simp [a1]
  ·by_cases a2 : y.1 < x.1
   ·simp [a1, a2]
   ·by_cases b1 : x.2.1 < y.2.1
    ·simp [a1, a2, b1]
    ·by_cases b2 : y.2.1 < x.2.1
     ·simp [a1, a2, b1, b2]
     ·by_cases c1 : x.2.2 < y.2.2
      ·simp [a1, a2, b1, b2, c1]
      ·by_cases c2 : y.2.2 < x.2.2
       ·simp [a1, a2, b1, b2, c1, c2]
       ·simp [a1, a2, b1, b2, c1, c2]
def vv (p : Pst) (r : Nat) : Int := if r < p.vec.length then q2d p.vec r else 0
def qza (p : Pst) : List Int := (List.range 16).map (vv p)
def ql5 (p : Pst) : List Int := qza p ++ zb9 p.cloud
def cmpP (p q : Pst) : Int := q72 (ql5 (q29 p)) (ql5 (q29 q))
theorem q4d (p : Pst) {r : Nat} (hr : r < 16) : (qza p)[r]? = some (vv p r) := by
 unfold qza
 rw [List.getElem?_map, List.getElem?_range hr]
 rfl

def bs (s : ByteArray) : List Int := s.data.toList.map fun b => (b.toNat : Int)
def ql7 (a b : ByteArray) : Int := q72 (bs a) (bs b)
theorem q9g : ∀ a b : List UInt8, Go.Lib.compareBytes a b = q72 (a.map fun b => (b.toNat : Int)) (b.map fun b => (b.toNat : Int))
 | [], [] => rfl
 | [], _ :: _ => rfl
 | _ :: _, [] => rfl
 | x :: a, y :: b => by
  have ih := q9g a b
  unfold Go.Lib.compareBytes
  simp only [List.map_cons]
  unfold q72
  rw [ih]
  by_cases h1 : x < y
  ·have h2 : ((x.toNat : Int) < (y.toNat : Int)) := by have := UInt8.lt_iff_toNat_lt.1 h1; omega
   rw [if_pos h1, if_pos h2]
  ·have h2 : ¬ ((x.toNat : Int) < (y.toNat : Int)) := fun h => h1 (UInt8.lt_iff_toNat_lt.2 (by omega))
   rw [if_neg h1, if_neg h2]
   by_cases h3 : y < x
   ·have h4 : ((y.toNat : Int) < (x.toNat : Int)) := by have := UInt8.lt_iff_toNat_lt.1 h3; omega
    rw [if_pos h3, if_pos h4]
   ·have h4 : ¬ ((y.toNat : Int) < (x.toNat : Int)) := fun h => h3 (UInt8.lt_iff_toNat_lt.2 (by omega))
    rw [if_neg h3, if_neg h4]
theorem qy8 : ∀ a b : List UInt8, Op.bytesLess a b = decide (q72 (a.map fun b => (b.toNat : Int)) (b.map fun b => (b.toNat : Int)) < 0)
 | [], [] => rfl
 | [], _ :: _ => rfl
 | _ :: _, [] => rfl
 | x :: a, y :: b => by
  have ih := qy8 a b
  unfold Op.bytesLess
  simp only [List.map_cons]
  unfold q72
  rw [ih]
  by_cases h1 : x < y
  ·have h2 : ((x.toNat : Int) < (y.toNat : Int)) := by have := UInt8.lt_iff_toNat_lt.1 h1; omega
   rw [if_pos h2]
   simp [h1]
  ·have h2 : ¬ ((x.toNat : Int) < (y.toNat : Int)) := fun h => h1 (UInt8.lt_iff_toNat_lt.2 (by omega))
   rw [if_neg h2]
   by_cases h3 : y < x
   ·have h4 : ((y.toNat : Int) < (x.toNat : Int)) := by have := UInt8.lt_iff_toNat_lt.1 h3; omega
    have h5 : ¬ x = y := fun e => by rw [e] at h4; omega
    rw [if_pos h4]
    simp [h1, h5]
   ·have h4 : ¬ ((y.toNat : Int) < (x.toNat : Int)) := fun h => h3 (UInt8.lt_iff_toNat_lt.2 (by omega))
    have h5 : x = y := UInt8.toNat_inj.1 (by omega)
    rw [if_neg h4]
    subst h5
    simp [h1]
theorem qae (s : ByteArray) : s.toList = s.data.toList := by
 have := ByteArray.toList_eq (bs := s)
 exact this
theorem zc3 (a b : ByteArray) : Op.bytesLess a.toList b.toList = decide (ql7 a b < 0) := by
 rw [qae, qae, qy8]
 rfl
theorem bs_inj {a b : ByteArray} (h : bs a = bs b) : a = b := by
 have : ∀ l m : List UInt8, l.map (fun b => (b.toNat : Int)) = m.map (fun b => (b.toNat : Int)) → l = m := by
  intro l
  induction l with
  | nil => intro m h; cases m with | nil => rfl | cons y m => simp at h
  | cons x l ih =>
   intro m h
   cases m with
   | nil => simp at h
   | cons y m =>
    simp only [List.map_cons, List.cons.injEq] at h
    rw [ih m h.2, show x = y from UInt8.toNat_inj.1 (by omega)]
 cases a with
 | mk da => cases b with
  | mk db =>
   have := this _ _ h
   congr 1
   exact Array.toList_inj.1 this
theorem zc2 {a b : ByteArray} : ql7 a b = 0 ↔ a = b := ⟨fun h => bs_inj (zas h), fun h => by rw [h]; exact qjo _⟩
structure Ent where
 rep : Int
 num : Int
 sku : ByteArray
 qty : Int
structure Rec where
 sku : ByteArray
 past : Pst
def encE (e : Ent) : AVal := .agg [.int .i64 e.rep, .int .i64 e.num, .str e.sku, .int .i64 e.qty]
def qbp (r : Rec) : AVal := .agg [.str r.sku, .sl 1 (q04 r.past.vec), .sl 3 (q0e r.past.cloud)]
def q1j (l : List Ent) : List AVal := l.map encE
def q1i (l : List Rec) : List AVal := l.map qbp
theorem qyq (e : Ent) : (encE e).stb = true := rfl
theorem qyn (r : Rec) : (qbp r).stb = true := by simp [qbp, AVal.stb, q0m, q02, q03]
theorem q0i (l : List Ent) : q0m (q1j l) = true := q3c qyq
theorem q0p (l : List Rec) : q0m (q1i l) = true := q3c qyn
theorem qo6 : (∀ e, (encE e).stb = true) ∧ (∀ r, (qbp r).stb = true) ∧ (∀ l, q0m (q1j l) = true) ∧ (∀ l, q0m (q1i l) = true) := ⟨qyq, qyn, q0i, q0p⟩
theorem q53 (l : List Ent) : (q1j l).length = l.length := by simp [q1j]
theorem q51 (l : List Rec) : (q1i l).length = l.length := by simp [q1i]
theorem q49 {l : List Ent} {i : Nat} {e : Ent} (h : l[i]? = some e) : (q1j l)[i]? = some (.agg [.int .i64 e.rep, .int .i64 e.num, .str e.sku, .int .i64 e.qty]) := by simp [q1j, h, encE]
theorem q48 {l : List Rec} {i : Nat} {r : Rec} (h : l[i]? = some r) : (q1i l)[i]? = some (.agg [.str r.sku, .sl 1 (q04 r.past.vec), .sl 3 (q0e r.past.cloud)]) := by simp [q1i, h, qbp]
theorem qd8 (l : List Ent) (a b : Int) (s : ByteArray) (q : Int) : q1j l ++ [.agg [.int .i64 a, .int .i64 b, .str s, .int .i64 q]] = q1j (l ++ [⟨a, b, s, q⟩]) := by simp [q1j, encE]
theorem z08 (l : List Rec) (s : ByteArray) (v : List Int) (c : List Sn) : q1i l ++ [.agg [.str s, .sl 1 (q04 v), .sl 3 (q0e c)]] = q1i (l ++ [⟨s, ⟨v, c⟩⟩]) := by simp [q1i, qbp]
def q5x (a b : Rn) : Bool := decide (a.1 < b.1) || (decide (a.1 = b.1) && decide (a.2 < b.2))
def Ent.dot (e : Ent) : Rn := (e.rep, e.num)
def q3p (e : Ent) : Int := if e.rep < 0 ∨ 16 ≤ e.rep then 3 else if e.num < 1 ∨ 1000000000 < e.num then 2 else if q69 e.sku = false then 5 else if e.qty < 1 ∨ 1000000 < e.qty then 6 else 0
def qf7 (l : List Ent) : Prop := (∀ (i : Nat) e, l[i]? = some e → q3p e = 0) ∧ ∀ (i : Nat) a b, l[i]? = some a → l[i + 1]? = some b → q5x a.dot b.dot = true
open Classical in
noncomputable def q4c (l : List Ent) : Bool := decide (qf7 l)
theorem q90 {l : List Ent} (h : qf7 l) : q4c l = true := by classical exact decide_eq_true h
theorem q2r {l : List Ent} (h : ¬ qf7 l) : q4c l = false := by classical exact decide_eq_false h
theorem qjs {l : List Ent} : q4c l = true ↔ qf7 l := by classical exact decide_eq_true_iff
def qkg (a b : Rec) : Int := if ql7 a.sku b.sku = 0 then cmpP a.past b.past else ql7 a.sku b.sku
def q3o (r : Rec) : Int := if ¬ r.sku.size = 0 ∧ q69 r.sku = false then 5 else if q15 r.past = false ∨ q7s r.past = 0 then 1 else 0
def qkz (l : List Rec) : Prop := (∀ (i : Nat) r, l[i]? = some r → q3o r = 0) ∧ ∀ (i : Nat) a b, l[i]? = some a → l[i + 1]? = some b → qkg a b < 0
open Classical in
noncomputable def q4z (l : List Rec) : Bool := decide (qkz l)
theorem q8z {l : List Rec} (h : qkz l) : q4z l = true := by classical exact decide_eq_true h
theorem q5i {l : List Rec} (h : ¬ qkz l) : q4z l = false := by classical exact decide_eq_false h
theorem zb8 {l : List Rec} : q4z l = true ↔ qkz l := by classical exact decide_eq_true_iff
def wtK (r : Rec) : Nat := wt r.past + 1
def ql9 (l : List Rec) : Nat := (l.map wtK).sum
theorem wtK_le {l : List Rec} {r : Rec} (h : r ∈ l) : wtK r ≤ ql9 l := by
 unfold ql9
 obtain ⟨i, hi, rfl⟩ := List.getElem_of_mem h
 have := z12 (l.map wtK) i
 simpa [List.getD_eq_getElem?_getD, hi] using this
theorem qn5 (l : List Rec) : l.length ≤ ql9 l := by
 induction l with
 | nil => exact Nat.zero_le _
 | cons r l ih =>
  unfold ql9 at *
  simp only [List.map_cons, List.sum_cons, List.length_cons, wtK]
  omega

def z6d : List SOp := [zM 8 0,zO 9 (.nilCheck (.tmp 8)),zF 10 95 9 0,zM 11 1,zO 12 (.call ⟨.builtin .len,#[.tmp 11],#[26]⟩),zO 13 (.call ⟨.value (.func 92),#[.tmp 10,.tmp 12],#[91,3]⟩)]
instance : Live z6d := ⟨[0,1]⟩
def z6c : List SOp := [zO 4 (.assign (.const (.int .i64 0))),zO 5 (.assign (.const (.int .i64 1)))]
instance : Live z6c := ⟨[0,1]⟩
def z6b : List SOp := [zM 14 1,zO 15 (.call ⟨.builtin .len,#[.tmp 14],#[26]⟩),zO 16 (.move (.const (.int .i64 0)))]
instance : Live z6b := ⟨[0,1,4,5]⟩
def z6a : List SOp := [zO 17 (.binOp .lss 3 (.tmp 16) (.tmp 15) 3)]
instance : Live z6a := ⟨[0,4,5,14,15,16]⟩
def z69 : List SOp := [zI 18 26 14 16,zL 19 45 18,zO 7 (.alloc 45),⟨none,.store 45 (.tmp 7) (.tmp 19),none⟩]
instance : Live z69 := ⟨[0,4,5,14,15,16]⟩
def z68 : List SOp := [zF 20 45 7 0,zF 21 43 20 0,zL 22 3 21,zM 23 4,zO 24 (.binOp .neq 3 (.tmp 22) (.tmp 23) 3)]
instance : Live z68 := ⟨[0,4,5,7,14,15,16]⟩
def z67 : List SOp := [zO 5 (.assign (.const (.int .i64 1)))]
instance : Live z67 := ⟨[0,4,7,14,15,16]⟩
def qlu : List SOp := [zM 25 0,zO 26 (.nilCheck (.tmp 25)),zF 27 95 26 0,zF 28 45 7 0,zF 29 43 28 0,zL 30 3 29,zM 31 4,zO 32 (.binOp .sub 3 (.tmp 30) (.tmp 31) 3),zO 33 (.call ⟨.value (.func 92),#[.tmp 27,.tmp 32],#[91,3]⟩)]
instance : Live qlu := ⟨[0,4,5,7,14,15,16]⟩
instance : Rd qlu := ⟨fun j => j == 7⟩
def qlt : List SOp := [zM 34 0,zO 35 (.nilCheck (.tmp 34)),zF 36 95 35 0,zF 37 45 7 0,zF 38 43 37 1,zL 39 3 38,zM 40 5,zO 41 (.binOp .sub 3 (.tmp 39) (.tmp 40) 3),zO 42 (.call ⟨.value (.func 92),#[.tmp 36,.tmp 41],#[91,3]⟩)]
instance : Live qlt := ⟨[0,5,7,14,15,16]⟩
instance : Rd qlt := ⟨fun j => j == 7⟩
def qdz : List SOp := [zM 43 0,zO 44 (.nilCheck (.tmp 43)),zF 45 95 44 0,zF 46 45 7 1,zL 47 9 46,zO 48 (.call ⟨.value (.func 97),#[.tmp 45,.tmp 47],#[91,9]⟩)]
instance : Live qdz := ⟨[0,7,14,15,16]⟩
instance : Rd qdz := ⟨fun j => j == 7⟩
def qdy : List SOp := [zM 49 0,zO 50 (.nilCheck (.tmp 49)),zF 51 95 50 0,zF 52 45 7 2,zL 53 3 52,zO 54 (.binOp .sub 3 (.tmp 53) (.const (.int .i64 1)) 3),zO 55 (.call ⟨.value (.func 92),#[.tmp 51,.tmp 54],#[91,3]⟩)]
instance : Live qdy := ⟨[0,7,14,15,16]⟩
instance : Rd qdy := ⟨fun j => j == 7⟩
def qpq : List SOp := [zF 56 45 7 0,zF 57 43 56 0,zL 58 3 57,zF 59 45 7 0,zF 60 43 59 1,zL 61 3 60,zO 62 (.binOp .add 3 (.tmp 61) (.const (.int .i64 1)) 3),zG 4 58,zG 5 62]
instance : Live qpq := ⟨[0,7,14,15,16]⟩
def qpp : List SOp := [zO 63 (.binOp .add 3 (.tmp 16) (.const (.int .i64 1)) 3),zM 16 63]
instance : Live qpp := ⟨[0,4,5,14,15,16]⟩
def qnu : SC :=
 (.seq (.ops false z6a) (.seq (.cond (.tmp 17) .skip (.exit 0)) (.seq (.block 1 (.seq (.ops false z69) (.seq (.seq (.ops false z68) (.cond (.tmp 24) (.ops false z67) .skip)) (.seq (.opsW [33] qlu) (.seq (.opsW [42] qlt) (.seq (.opsW [48] qdz) (.seq (.opsW [55] qdy) (.ops true qpq)))))))) (.ops false qpp))))
def t_k50 : SC :=
 (.seq (.ops false z6d) (.seq (.ops false z6c) (.seq (.ops false z6b) (.block 0 (.loop qnu)))))
theorem it_k50 : FnIs Tryz.prog 50 64 [] t_k50 := ⟨Tryz.f50, _, Tryz.func50, rfl, rfl, rfl, rfl, by kernel_rfl⟩

def z54 : List SOp := [zM 6 0,zO 7 (.nilCheck (.tmp 6)),zF 8 95 7 0,zM 9 1,zO 10 (.call ⟨.builtin .len,#[.tmp 9],#[27]⟩),zO 11 (.call ⟨.value (.func 92),#[.tmp 8,.tmp 10],#[91,3]⟩)]
instance : Live z54 := ⟨[0,1]⟩
def z52 : List SOp := [zM 12 1,zO 13 (.call ⟨.builtin .len,#[.tmp 12],#[27]⟩),zO 14 (.move (.const (.int .i64 0)))]
instance : Live z52 := ⟨[0,1]⟩
def z51 : List SOp := [zO 15 (.binOp .lss 3 (.tmp 14) (.tmp 13) 3)]
instance : Live z51 := ⟨[0,12,13,14]⟩
def z4z : List SOp := [zI 16 27 12 14,zL 17 84 16,zO 5 (.alloc 84),⟨none,.store 84 (.tmp 5) (.tmp 17),none⟩]
instance : Live z4z := ⟨[0,12,13,14]⟩
def qls : List SOp := [zM 18 0,zO 19 (.nilCheck (.tmp 18)),zF 20 95 19 0,zF 21 84 5 0,zL 22 9 21,zO 23 (.call ⟨.value (.func 97),#[.tmp 20,.tmp 22],#[91,9]⟩)]
instance : Live qls := ⟨[0,5,12,13,14]⟩
instance : Rd qls := ⟨fun j => j == 5⟩
def z4y : List SOp := [zM 24 0,zF 25 84 5 1,zL 26 25 25,zO 27 (.call ⟨.value (.func 47),#[.tmp 24,.tmp 26],#[131,25]⟩)]
instance : Live z4y := ⟨[0,5,12,13,14]⟩
def z4x : List SOp := [zO 28 (.binOp .add 3 (.tmp 14) (.const (.int .i64 1)) 3),zM 14 28]
instance : Live z4x := ⟨[0,12,13,14]⟩
def qno : SC :=
 (.seq (.ops false z51) (.seq (.cond (.tmp 15) .skip (.exit 0)) (.seq (.block 1 (.seq (.ops false z4z) (.seq (.opsW [23] qls) (.ops false z4y)))) (.ops false z4x))))
def t_k58 : SC :=
 (.seq (.ops false z54) (.seq (.ops false z52) (.block 0 (.loop qno))))
theorem it_k58 : FnIs Tryz.prog 58 29 [] t_k58 := ⟨Tryz.f58, _, Tryz.func58, rfl, rfl, rfl, rfl, by kernel_rfl⟩

def q9d (l : List Ent) : Int := match l.getLast? with | some e => e.rep | none => 0
def q4p (l : List Ent) : Int := match l.getLast? with | some e => e.num + 1 | none => 1
theorem q4w (l : List Ent) (e : Ent) : q9d (l ++ [e]) = e.rep := by simp [q9d]
theorem q3x (l : List Ent) (e : Ent) : q4p (l ++ [e]) = e.num + 1 := by simp [q4p]
def q3w (sf : List Ent) (e : Ent) : Int := if e.rep = q9d sf then q4p sf else 1
def entB (sf : List Ent) (e : Ent) : Bs := q0u (e.rep - q9d sf).toNat ++ (q0u (e.num - q3w sf e).toNat ++ ((q0u e.sku.size ++ e.sku.data.toList) ++ q0u (e.qty - 1).toNat))
def q46 : List Ent → List Ent → Bs
 | _, [] => []
 | sf, e :: l => entB sf e ++ q46 (sf ++ [e]) l
theorem qjy (sf : List Ent) : q46 sf [] = [] := rfl
theorem q6p (e : Ent) : ∀ (l sf : List Ent), q46 sf (l ++ [e]) = q46 sf l ++ entB (sf ++ l) e
 | [], sf => by simp [q46]
 | x :: l, sf => by simp [q46, q6p e l]
def q1q (l : List Ent) : Bs := q0u l.length ++ q46 [] l
def entW (sf : List Ent) (e : Ent) : Prop := 0 ≤ q9d sf ∧ q9d sf ≤ e.rep ∧ e.rep ≤ 1000000 ∧ 1 ≤ q4p sf ∧ q4p sf ≤ 4000000000 ∧ q3w sf e ≤ e.num ∧ e.num ≤ 1000000000 ∧ e.sku.size ≤ 1000 ∧ 1 ≤ e.qty ∧ e.qty ≤ 1000000000
structure EW (l : List Ent) : Prop where
 ll : l.length ≤ 100000000
 e : ∀ i e, l[i]? = some e → entW (l.take i) e
theorem qez {sf : List Ent} {e : Ent} (h : entW sf e) : (entB sf e).length ≤ 1040 := by
 obtain ⟨h1, h2, h3, h4, h4', h5, h6, h7, h8, h9⟩ := h
 have h10 : 1 ≤ q3w sf e := by unfold q3w; split <;> omega
 have a1 := q08 (n := (e.rep - q9d sf).toNat) (by omega)
 have a2 := q08 (n := (e.num - q3w sf e).toNat) (by omega)
 have a3 := q08 (n := e.sku.size) (by omega)
 have a4 := q08 (n := (e.qty - 1).toNat) (by omega)
 have a5 : e.sku.data.toList.length = e.sku.size := rfl
 simp only [entB, List.length_append]
 omega
theorem q8f {l : List Ent} (h : EW l) : ∀ i, i ≤ l.length → (q46 [] (l.take i)).length ≤ 1040 * i
 | 0, _ => by simp [q46]
 | i + 1, hi => by
  have hg : l[i]? = some (l[i]) := List.getElem?_eq_getElem (by omega)
  rw [q21 hg, q6p, List.nil_append, List.length_append]
  have h1 := q8f h i (by omega)
  have h2 := qez (h.e i _ hg)
  omega
theorem z00 (b : Bs) (l : List Ent) (hb : b.length ≤ 600000000000) (hw : EW l) : EvW (En Tryz.prog rfl).P 50 [.sl 4 (q1j l)] b (b ++ q1q l) := by
 refine EvW.of_body it_k50 (by simp) fun v => Run.start ?_
 unfold t_k50
 have e1 := q53 l
 have hl := hw.ll
 (focus (have hF := @e1; (repeat' (first | refine go1 (k:=?_) | with_reducible refine Ny.of ?_ ?_ | (refine Hyp.of ?_; intro hc; (try simp only [hc]); (try simp only [Bh] at hc)))); all_goals clear hF))
 refine stWr 900000 [.int .i64 (l.length : Int)] (he := q4j b l.length (by omega) (by omega)) (kk := ?_)
 have l1 := q08 (n := l.length) (by omega)
 generalize hb1 : b ++ q0u l.length = b1
 have hl1 : b1.length ≤ b.length + 10 := by rw [← hb1, List.length_append]; omega
 have hfin : b1 ++ q46 [] l = b ++ q1q l := by rw [← hb1]; simp [q1q]
 (focus (have hF := @e1; (repeat' (first | refine go1 (k:=?_) | with_reducible refine Ny.of ?_ ?_ | (refine Hyp.of ?_; intro hc; (try simp only [hc]); (try simp only [Bh] at hc)))); all_goals clear hF))
 refine Run.while (σ := Nat) (fun i => ⟨tms [(0, .ptr 900000 0), (4, .int .i64 (q9d (l.take i))), (5, .int .i64 (q4p (l.take i))), (14, .sl 4 (q1j l)), (15, .int .i64 (l.length : Int)), (16, .int .i64 (i : Int))], mms [(900000, .cells (wrC (b1 ++ q46 [] (l.take i)))), (1900000, nt v)]⟩)
  (fun i => i ≤ l.length) (fun i => l.length - i) 0 (have hW := (aI (aI @q24 @qjy) (aI @List.append_nil.{0} @q0i)); q0v) (Nat.zero_le _) ?_
 intro i hi
 unfold qnu
 have hcb := q8f hw i hi
 by_cases hlt : i < l.length
 ·have hlt2 : (i : Int) < (l.length : Int) := by omega
  have hg : l[i]? = some (l[i]) := List.getElem?_eq_getElem hlt
  have g1 := q49 hg
  have hew := hw.e i _ hg
  have hen := qez hew
  obtain ⟨q1, q2, q3, q4, q4', q5, q6, q7, q8, q9⟩ := hew
  have hsn := q21 hg
  generalize l[i] = e at hg g1 q1 q2 q3 q4 q4' q5 q6 q7 q8 q9 hsn hen
  have hsp : entB (l.take i) e = q0u (e.rep - q9d (l.take i)).toNat ++ (q0u (e.num - q3w (l.take i) e).toNat ++ ((q0u e.sku.size ++ e.sku.data.toList) ++ q0u (e.qty - 1).toNat)) := rfl
  have h10 : 1 ≤ q3w (l.take i) e := by unfold q3w; split <;> omega
  have hbe : q3w (l.take i) e = if e.rep = q9d (l.take i) then q4p (l.take i) else 1 := rfl
  generalize hrp : q9d (l.take i) = rp at *
  generalize hnx : q4p (l.take i) = nx at *
  generalize hba : q3w (l.take i) e = ba at *
  obtain ⟨er, en, es, eq⟩ := e
  simp only at q2 q3 q5 q6 q7 q8 q9 hsp hbe
  have g2 : (q1j l)[i]? = some (.agg [.int .i64 er, .int .i64 en, .str es, .int .i64 eq]) := g1
  generalize hb4 : b1 ++ q46 [] (l.take i) = b4
  have hl4 : b4.length ≤ b1.length + 1040 * i := by rw [← hb4, List.length_append]; omega
  have w1 : IntKind.i64.wrap (er - rp) = (((er - rp).toNat : Nat) : Int) := by rw [q0a (by omega)]; omega
  have w2 : IntKind.i64.wrap (en - ba) = (((en - ba).toNat : Nat) : Int) := by rw [q0a (by omega)]; omega
  have w3 : IntKind.i64.wrap (eq - 1) = (((eq - 1).toNat : Nat) : Int) := by rw [q0a (by omega)]; omega
  have w4 : IntKind.i64.wrap (en + 1) = en + 1 := q0a (by omega)
  have n1 := q08 (n := (er - rp).toNat) (by omega)
  have n2 := q08 (n := (en - ba).toNat) (by omega)
  have n3 := q08 (n := es.size) (by omega)
  have n4 : es.data.toList.length = es.size := rfl
  have o1 : (er - rp).toNat < 9223372036854775808 := by omega
  have o2 : (en - ba).toNat < 9223372036854775808 := by omega
  have o3 : (eq - 1).toNat < 9223372036854775808 := by omega
  have x1 := q0t (i := i) (by omega)
  have hra : q9d (l.take (i + 1)) = er := by rw [hsn, q4w]
  have hna : q4p (l.take (i + 1)) = en + 1 := by rw [hsn, q3x]
  have hb5 : b4 ++ q0u (er - rp).toNat ++ q0u (en - ba).toNat ++ (q0u es.size ++ es.data.toList) ++ q0u (eq - 1).toNat = b1 ++ q46 [] (l.take (i + 1)) := by
   rw [hsn, q6p, List.nil_append, hsp, ← hb4]
   simp
  generalize (er - rp).toNat = m1 at *
  generalize (en - ba).toNat = m2 at *
  generalize (eq - 1).toNat = m3 at *
  by_cases hrr : er = rp
  ·have hrr2 : (er = rp) = True := eq_true hrr
   rw [if_pos hrr] at hbe
   subst hbe
   (focus (have hF := (aI (aI @e1 @hlt2) (aI @g2 @hrr2)); (repeat' (first | refine go1 (k:=?_) | with_reducible refine Ny.of ?_ ?_ | (refine Hyp.of ?_; intro hc; (try simp only [hc]); (try simp only [Bh] at hc)))); all_goals clear hF))
   ((with_reducible apply toW); refine stW (fun j => j == 7) (k:=?_))
   (focus (have hF := (aI @e1 @w1); (repeat' (first | refine go1 (k:=?_) | with_reducible refine Ny.of ?_ ?_ | (refine Hyp.of ?_; intro hc; (try simp only [hc]); (try simp only [Bh] at hc)))); all_goals clear hF))
   refine q7p [.int .i64 (m1 : Int)] (he := q4j b4 m1 (by omega) o1) (kk := ?_)
   (focus (have hF := @e1; (repeat' (first | refine go1 (k:=?_) | with_reducible refine Ny.of ?_ ?_ | (refine Hyp.of ?_; intro hc; (try simp only [hc]); (try simp only [Bh] at hc)))); all_goals clear hF))
   ((with_reducible apply toW); refine stW (fun j => j == 7) (k:=?_))
   (focus (have hF := (aI @e1 @w2); (repeat' (first | refine go1 (k:=?_) | with_reducible refine Ny.of ?_ ?_ | (refine Hyp.of ?_; intro hc; (try simp only [hc]); (try simp only [Bh] at hc)))); all_goals clear hF))
   refine q7p [.int .i64 (m2 : Int)] (he := q4j (b4 ++ q0u m1) m2 (by simp only [List.length_append]; omega) o2) (kk := ?_)
   (focus (have hF := @e1; (repeat' (first | refine go1 (k:=?_) | with_reducible refine Ny.of ?_ ?_ | (refine Hyp.of ?_; intro hc; (try simp only [hc]); (try simp only [Bh] at hc)))); all_goals clear hF))
   ((with_reducible apply toW); refine stW (fun j => j == 7) (k:=?_))
   (focus (have hF := @e1; (repeat' (first | refine go1 (k:=?_) | with_reducible refine Ny.of ?_ ?_ | (refine Hyp.of ?_; intro hc; (try simp only [hc]); (try simp only [Bh] at hc)))); all_goals clear hF))
   refine q7p [.str es] (he := qmj (b4 ++ q0u m1 ++ q0u m2) es (by simp only [List.length_append]; omega) (by omega)) (kk := ?_)
   (focus (have hF := @e1; (repeat' (first | refine go1 (k:=?_) | with_reducible refine Ny.of ?_ ?_ | (refine Hyp.of ?_; intro hc; (try simp only [hc]); (try simp only [Bh] at hc)))); all_goals clear hF))
   ((with_reducible apply toW); refine stW (fun j => j == 7) (k:=?_))
   (focus (have hF := (aI @e1 @w3); (repeat' (first | refine go1 (k:=?_) | with_reducible refine Ny.of ?_ ?_ | (refine Hyp.of ?_; intro hc; (try simp only [hc]); (try simp only [Bh] at hc)))); all_goals clear hF))
   refine q7p [.int .i64 (m3 : Int)] (he := q4j (b4 ++ q0u m1 ++ q0u m2 ++ (q0u es.size ++ es.data.toList)) m3 (by simp only [List.length_append]; omega) o3) (kk := ?_)
   rw [hb5]
   (focus (have hF := (aI @e1 (aI @x1 @w4)); (repeat' (first | refine go1 (k:=?_) | with_reducible refine Ny.of ?_ ?_ | (refine Hyp.of ?_; intro hc; (try simp only [hc]); (try simp only [Bh] at hc)))); all_goals clear hF))
   (refine Fin.nextW (i + 1) ?_ (have hW := (aI (aI @q24 @hra) (aI @hna @q0i)); q0v); (try dsimp only))
   omega
  ·have hrr2 : (er = rp) = False := eq_false hrr
   rw [if_neg hrr] at hbe
   subst hbe
   (focus (have hF := (aI (aI @e1 @hlt2) (aI @g2 @hrr2)); (repeat' (first | refine go1 (k:=?_) | with_reducible refine Ny.of ?_ ?_ | (refine Hyp.of ?_; intro hc; (try simp only [hc]); (try simp only [Bh] at hc)))); all_goals clear hF))
   ((with_reducible apply toW); refine stW (fun j => j == 7) (k:=?_))
   (focus (have hF := (aI @e1 @w1); (repeat' (first | refine go1 (k:=?_) | with_reducible refine Ny.of ?_ ?_ | (refine Hyp.of ?_; intro hc; (try simp only [hc]); (try simp only [Bh] at hc)))); all_goals clear hF))
   refine q7p [.int .i64 (m1 : Int)] (he := q4j b4 m1 (by omega) o1) (kk := ?_)
   (focus (have hF := @e1; (repeat' (first | refine go1 (k:=?_) | with_reducible refine Ny.of ?_ ?_ | (refine Hyp.of ?_; intro hc; (try simp only [hc]); (try simp only [Bh] at hc)))); all_goals clear hF))
   ((with_reducible apply toW); refine stW (fun j => j == 7) (k:=?_))
   (focus (have hF := (aI @e1 @w2); (repeat' (first | refine go1 (k:=?_) | with_reducible refine Ny.of ?_ ?_ | (refine Hyp.of ?_; intro hc; (try simp only [hc]); (try simp only [Bh] at hc)))); all_goals clear hF))
   refine q7p [.int .i64 (m2 : Int)] (he := q4j (b4 ++ q0u m1) m2 (by simp only [List.length_append]; omega) o2) (kk := ?_)
   (focus (have hF := @e1; (repeat' (first | refine go1 (k:=?_) | with_reducible refine Ny.of ?_ ?_ | (refine Hyp.of ?_; intro hc; (try simp only [hc]); (try simp only [Bh] at hc)))); all_goals clear hF))
   ((with_reducible apply toW); refine stW (fun j => j == 7) (k:=?_))
   (focus (have hF := @e1; (repeat' (first | refine go1 (k:=?_) | with_reducible refine Ny.of ?_ ?_ | (refine Hyp.of ?_; intro hc; (try simp only [hc]); (try simp only [Bh] at hc)))); all_goals clear hF))
   refine q7p [.str es] (he := qmj (b4 ++ q0u m1 ++ q0u m2) es (by simp only [List.length_append]; omega) (by omega)) (kk := ?_)
   (focus (have hF := @e1; (repeat' (first | refine go1 (k:=?_) | with_reducible refine Ny.of ?_ ?_ | (refine Hyp.of ?_; intro hc; (try simp only [hc]); (try simp only [Bh] at hc)))); all_goals clear hF))
   ((with_reducible apply toW); refine stW (fun j => j == 7) (k:=?_))
   (focus (have hF := (aI @e1 @w3); (repeat' (first | refine go1 (k:=?_) | with_reducible refine Ny.of ?_ ?_ | (refine Hyp.of ?_; intro hc; (try simp only [hc]); (try simp only [Bh] at hc)))); all_goals clear hF))
   refine q7p [.int .i64 (m3 : Int)] (he := q4j (b4 ++ q0u m1 ++ q0u m2 ++ (q0u es.size ++ es.data.toList)) m3 (by simp only [List.length_append]; omega) o3) (kk := ?_)
   rw [hb5]
   (focus (have hF := (aI @e1 (aI @x1 @w4)); (repeat' (first | refine go1 (k:=?_) | with_reducible refine Ny.of ?_ ?_ | (refine Hyp.of ?_; intro hc; (try simp only [hc]); (try simp only [Bh] at hc)))); all_goals clear hF))
   (refine Fin.nextW (i + 1) ?_ (have hW := (aI (aI @q24 @hra) (aI @hna @q0i)); q0v); (try dsimp only))
   omega
 ·have hin : i = l.length := by omega
  subst hin
  have hlt2 : ¬ (l.length : Int) < (l.length : Int) := by omega
  rw [List.take_length, hfin]
  (focus (have hF := (aI @e1 @hlt2); (repeat' (first | refine go1 (k:=?_) | with_reducible refine Ny.of ?_ ?_ | (refine Hyp.of ?_; intro hc; (try simp only [hc]); (try simp only [Bh] at hc)))); all_goals clear hF))
  exact ⟨rfl, rfl⟩
def recB (r : Rec) : Bs := (q0u r.sku.size ++ r.sku.data.toList) ++ q34 r.past
def q2q (l : List Rec) : Bs := l.flatMap recB
theorem qgc : q2q [] = [] := rfl
theorem q6l (l : List Rec) (r : Rec) : q2q (l ++ [r]) = q2q l ++ recB r := by simp [q2q]
def q19 (l : List Rec) : Bs := q0u l.length ++ q2q l
theorem qcs (l : List Rec) (i : Nat) : (q2q (l.take i)).length ≤ (q2q l).length := by
 have : q2q l = q2q (l.take i) ++ q2q (l.drop i) := by
  simp only [q2q, ← List.flatMap_append, List.take_append_drop]
 rw [this, List.length_append]
 omega
structure RW (l : List Rec) : Prop where
 ll : l.length ≤ 100000000
 r : ∀ r ∈ l, r.sku.size ≤ 1000 ∧ PW r.past
theorem qzz (b : Bs) (l : List Rec) (hb : b.length + (q2q l).length ≤ 600000000000) (hw : RW l) : EvW (En Tryz.prog rfl).P 58 [.sl 3 (q1i l)] b (b ++ q19 l) := by
 refine EvW.of_body it_k58 (by simp) fun v => Run.start ?_
 unfold t_k58
 have e1 := q51 l
 have hl := hw.ll
 (focus (have hF := @e1; (repeat' (first | refine go1 (k:=?_) | with_reducible refine Ny.of ?_ ?_ | (refine Hyp.of ?_; intro hc; (try simp only [hc]); (try simp only [Bh] at hc)))); all_goals clear hF))
 refine stWr 900000 [.int .i64 (l.length : Int)] (he := q4j b l.length (by omega) (by omega)) (kk := ?_)
 have l1 := q08 (n := l.length) (by omega)
 generalize hb1 : b ++ q0u l.length = b1
 have hl1 : b1.length ≤ b.length + 10 := by rw [← hb1, List.length_append]; omega
 have hfin : b1 ++ q2q l = b ++ q19 l := by rw [← hb1]; simp [q19]
 (focus (have hF := @e1; (repeat' (first | refine go1 (k:=?_) | with_reducible refine Ny.of ?_ ?_ | (refine Hyp.of ?_; intro hc; (try simp only [hc]); (try simp only [Bh] at hc)))); all_goals clear hF))
 refine Run.while (σ := Nat) (fun i => ⟨tms [(0, .ptr 900000 0), (12, .sl 3 (q1i l)), (13, .int .i64 (l.length : Int)), (14, .int .i64 (i : Int))], mms [(900000, .cells (wrC (b1 ++ q2q (l.take i)))), (1900000, nt v)]⟩)
  (fun i => i ≤ l.length) (fun i => l.length - i) 0 (have hW := (aI (aI @q24 @qgc) (aI @List.append_nil.{0} @q0p)); q0v) (Nat.zero_le _) ?_
 intro i hi
 unfold qno
 by_cases hlt : i < l.length
 ·have hlt2 : (i : Int) < (l.length : Int) := by omega
  have hg : l[i]? = some (l[i]) := List.getElem?_eq_getElem hlt
  have g1 := q48 hg
  obtain ⟨q1, q2⟩ := hw.r _ (List.getElem_mem hlt)
  have hsn := q21 hg
  have hcb := qcs l (i + 1)
  generalize l[i] = e at hg g1 q1 q2 hsn
  rw [hsn, q6l] at hcb
  obtain ⟨es, ⟨vec, cl⟩⟩ := e
  have g2 : (q1i l)[i]? = some (.agg [.str es, .sl 1 (q04 vec), .sl 3 (q0e cl)]) := g1
  simp only at q1 q2
  have hsp : recB ⟨es, ⟨vec, cl⟩⟩ = (q0u es.size ++ es.data.toList) ++ q34 ⟨vec, cl⟩ := rfl
  rw [hsp] at hcb
  simp only [List.length_append] at hcb
  generalize hb4 : b1 ++ q2q (l.take i) = b4
  have hl4 : b4.length = b1.length + (q2q (l.take i)).length := by rw [← hb4, List.length_append]
  have hb5 : b4 ++ (q0u es.size ++ es.data.toList) ++ q34 ⟨vec, cl⟩ = b1 ++ q2q (l.take (i + 1)) := by
   rw [hsn, q6l, hsp, ← hb4]
   simp
  have x1 := q0t (i := i) (by omega)
  (focus (have hF := (aI @e1 (aI @hlt2 @g2)); (repeat' (first | refine go1 (k:=?_) | with_reducible refine Ny.of ?_ ?_ | (refine Hyp.of ?_; intro hc; (try simp only [hc]); (try simp only [Bh] at hc)))); all_goals clear hF))
  ((with_reducible apply toW); refine stW (fun j => j == 5) (k:=?_))
  (focus (have hF := @e1; (repeat' (first | refine go1 (k:=?_) | with_reducible refine Ny.of ?_ ?_ | (refine Hyp.of ?_; intro hc; (try simp only [hc]); (try simp only [Bh] at hc)))); all_goals clear hF))
  refine q7p [.str es] (he := qmj b4 es (by omega) (by omega)) (kk := ?_)
  (focus (have hF := @e1; (repeat' (first | refine go1 (k:=?_) | with_reducible refine Ny.of ?_ ?_ | (refine Hyp.of ?_; intro hc; (try simp only [hc]); (try simp only [Bh] at hc)))); all_goals clear hF))
  refine stWr 900000 [.agg [.sl 1 (q04 vec), .sl 3 (q0e cl)]] (he := zbe _ ⟨vec, cl⟩ (by simp only [List.length_append]; omega) q2) (kk := ?_)
  rw [hb5]
  (focus (have hF := (aI @e1 @x1); (repeat' (first | refine go1 (k:=?_) | with_reducible refine Ny.of ?_ ?_ | (refine Hyp.of ?_; intro hc; (try simp only [hc]); (try simp only [Bh] at hc)))); all_goals clear hF))
  (refine Fin.nextW (i + 1) ?_ (have hW := (aI @q24 @q0p); q0v); (try dsimp only))
  omega
 ·have hin : i = l.length := by omega
  subst hin
  have hlt2 : ¬ (l.length : Int) < (l.length : Int) := by omega
  rw [List.take_length, hfin]
  (focus (have hF := (aI @e1 @hlt2); (repeat' (first | refine go1 (k:=?_) | with_reducible refine Ny.of ?_ ?_ | (refine Hyp.of ?_; intro hc; (try simp only [hc]); (try simp only [Bh] at hc)))); all_goals clear hF))
  exact ⟨rfl, rfl⟩

def odd (n : Nat) : Bool := decide (n % 2 = 1)
theorem odd_iff (n : Nat) : odd n = true ↔ n % 2 = 1 := by simp [odd]
theorem odd_succ (n : Nat) : odd (n + 1) = !odd n := by
 unfold odd
 rcases Nat.mod_two_eq_zero_or_one n with h | h
 ·have : (n + 1) % 2 = 1 := by omega
  simp [h, this]
 ·have : (n + 1) % 2 = 0 := by omega
  simp [h, this]
structure CbI (a b : List Int) (f : Bool → Bool → Bool) (i j : Nat) (v : Bool) (t : List Int) : Prop where
 hi : i ≤ a.length
 hj : j ≤ b.length
 sa : ∀ x ∈ t, ∀ y ∈ a.drop i, x < y
 sb : ∀ x ∈ t, ∀ y ∈ b.drop j, x < y
 ab : ∀ x ∈ a.take i, ∀ y ∈ b.drop j, x < y
 ba : ∀ x ∈ b.take j, ∀ y ∈ a.drop i, x < y
 rise : t.Pairwise (fun x y => x < y)
 val : v = f (odd i) (odd j)
 len : odd t.length = v
 le : t.length ≤ i + j
 mem : ∀ m, odd (cnt t m) = f (odd (cnt (a.take i) m)) (odd (cnt (b.take j) m))
theorem CbI.start {a b : List Int} {f : Bool → Bool → Bool} (hf : f false false = false) : CbI a b f 0 0 false [] := by
 refine ⟨Nat.zero_le _, Nat.zero_le _, by simp, by simp, by simp, by simp, .nil, by simp [odd, hf], rfl, Nat.le_refl _, fun m => ?_⟩
 simp [q5k, odd, hf]
theorem CbI.step {a b : List Int} {f : Bool → Bool → Bool} (hra : a.Pairwise (fun x y => x < y)) (hrb : b.Pairwise (fun x y => x < y)) {i j : Nat} {v : Bool} {t : List Int} (h : CbI a b f i j v t) {x : Int} {i' j' : Nat}
 (ha : (i' = i + 1 ∧ a[i]? = some x) ∨ (i' = i ∧ ∀ y ∈ a.drop i, x < y)) (hb : (j' = j + 1 ∧ b[j]? = some x) ∨ (j' = j ∧ ∀ y ∈ b.drop j, x < y)) (hx : i' = i + 1 ∨ j' = j + 1) :
 CbI a b f i' j' (f (odd i') (odd j')) (if f (odd i') (odd j') = v then t else t ++ [x]) := by
 have key : ∀ (l : List Int) (k k' : Nat), l.Pairwise (fun x y => x < y) → k ≤ l.length → ((k' = k + 1 ∧ l[k]? = some x) ∨ (k' = k ∧ ∀ y ∈ l.drop k, x < y)) →
  k' ≤ l.length ∧ (∀ y ∈ l.drop k', x < y) ∧ (∀ y ∈ l.take k', y ∈ l.take k ∨ y = x) ∧ (∀ y ∈ l.drop k', y ∈ l.drop k) ∧ (∀ m, m < x → cnt (l.take k') m = cnt (l.take k) m) ∧ (l.take k').length = k' := by
  intro l k k' hr hk hc
  rcases hc with ⟨rfl, hg⟩ | ⟨rfl, hg⟩
  ·obtain ⟨hlt, he⟩ := List.getElem?_eq_some_iff.1 hg
   have hd : l.drop k = x :: l.drop (k + 1) := by rw [List.drop_eq_getElem_cons hlt, he]
   have ht : l.take (k + 1) = l.take k ++ [x] := by rw [List.take_add_one, hg]; rfl
   have hp : (x :: l.drop (k + 1)).Pairwise (fun x y => x < y) := by rw [← hd]; exact hr.drop
   refine ⟨hlt, fun y hy => (List.pairwise_cons.1 hp).1 y hy, fun y hy => ?_, fun y hy => by rw [hd]; exact List.mem_cons_of_mem _ hy, fun m hm => ?_, by rw [List.length_take]; omega⟩
   ·rw [ht] at hy
    simpa using hy
   ·rw [ht, q6t, q1r, if_neg (by omega), q5k]; rfl
  ·exact ⟨hk, hg, fun y hy => .inl hy, fun y hy => hy, fun _ _ => rfl, by rw [List.length_take]; omega⟩
 obtain ⟨a1, a2, a3, a4, a5, a6⟩ := key a i i' hra h.hi ha
 obtain ⟨b1, b2, b3, b4, b5, b6⟩ := key b j j' hrb h.hj hb
 have hxin : (x ∈ a.drop i) ∨ (x ∈ b.drop j) := by
  rcases hx with e | e
  ·rcases ha with ⟨_, hg⟩ | ⟨e2, _⟩
   ·obtain ⟨hlt, he⟩ := List.getElem?_eq_some_iff.1 hg
    exact .inl (by rw [List.drop_eq_getElem_cons hlt, he]; exact List.mem_cons_self)
   ·omega
  ·rcases hb with ⟨_, hg⟩ | ⟨e2, _⟩
   ·obtain ⟨hlt, he⟩ := List.getElem?_eq_some_iff.1 hg
    exact .inr (by rw [List.drop_eq_getElem_cons hlt, he]; exact List.mem_cons_self)
   ·omega
 have tx : ∀ y ∈ t, y < x := fun y hy => by
  rcases hxin with e | e
  ·exact h.sa y hy x e
  ·exact h.sb y hy x e
 have ax : ∀ y ∈ a.take i, y < x := fun y hy => by
  rcases hxin with e | e
  ·have h1 := hra
   rw [← List.take_append_drop i a, List.pairwise_append] at h1
   exact h1.2.2 y hy x e
  ·exact h.ab y hy x e
 have bx : ∀ y ∈ b.take j, y < x := fun y hy => by
  rcases hxin with e | e
  ·exact h.ba y hy x e
  ·have h1 := hrb
   rw [← List.take_append_drop j b, List.pairwise_append] at h1
   exact h1.2.2 y hy x e
 have ax' : ∀ y ∈ a.take i', y ≤ x := fun y hy => by
  rcases a3 y hy with e | e
  ·have := ax y e; omega
  ·omega
 have bx' : ∀ y ∈ b.take j', y ≤ x := fun y hy => by
  rcases b3 y hy with e | e
  ·have := bx y e; omega
  ·omega
 have tx' : ∀ y ∈ (if f (odd i') (odd j') = v then t else t ++ [x]), y ≤ x := fun y hy => by
  split at hy
  ·have := tx y hy; omega
  ·rcases List.mem_append.1 hy with e | e
   ·have := tx y e; omega
   ·simp at e; omega
 have hlen : odd (if f (odd i') (odd j') = v then t else t ++ [x]).length = f (odd i') (odd j') := by
  by_cases e : f (odd i') (odd j') = v
  ·rw [if_pos e, h.len, e]
  ·rw [if_neg e, List.length_append]
   show odd (t.length + 1) = _
   rw [odd_succ, h.len]
   revert e
   cases v <;> cases f (odd i') (odd j') <;> simp
 refine ⟨a1, b1, fun y hy z hz => ?_, fun y hy z hz => ?_, fun y hy z hz => ?_, fun y hy z hz => ?_, ?_, rfl, hlen, ?_, fun m => ?_⟩
 ·have := tx' y hy; have := a2 z hz; omega
 ·have := tx' y hy; have := b2 z hz; omega
 ·have := ax' y hy; have := b2 z hz; omega
 ·have := bx' y hy; have := a2 z hz; omega
 ·split
  ·exact h.rise
  ·exact qaz h.rise tx
 ·have h1 := h.le
  have h2 : i + j + 1 ≤ i' + j' := by omega
  split
  ·omega
  ·simp only [List.length_append, List.length_cons, List.length_nil]; omega
 ·rcases Int.lt_or_le m x with hm | hm
  ·rw [a5 m hm, b5 m hm, ← h.mem m]
   congr 1
   split
   ·rfl
   ·rw [q6t, q1r, if_neg (by omega), q5k]; rfl
  ·rw [qbt (fun y hy => Int.le_trans (ax' y hy) hm), qbt (fun y hy => Int.le_trans (bx' y hy) hm), qbt (fun y hy => Int.le_trans (tx' y hy) hm), a6, b6, hlen]
theorem CbI.done {a b : List Int} {f : Bool → Bool → Bool} {v : Bool} {t : List Int} (h : CbI a b f a.length b.length v t) (hf : f false false = false) {p q : Int → Prop} (ha : Turns p a) (hb : Turns q b) (r : Int → Prop)
 (hr : ∀ m, r m ↔ f (odd (cnt a m)) (odd (cnt b m)) = true) : Turns r t := by
 refine ⟨h.rise, ?_, fun m => ?_⟩
 ·have h1 := h.val
  have e1 : odd a.length = false := by have := ha.even; simp [odd]; omega
  have e2 : odd b.length = false := by have := hb.even; simp [odd]; omega
  rw [e1, e2, hf] at h1
  have := h.len
  rw [h1] at this
  simp [odd] at this
  omega
 ·rw [hr, ← odd_iff, h.mem m, List.take_length, List.take_length]

structure CbS where
 i : Nat
 j : Nat
 v : Bool
 t : List Int

def z7f : List SOp := [zO 1 (.box 88 (.tmp 0)),zO 2 (.alloc 25)]
instance : Live z7f := ⟨[0]⟩
def z7e : List SOp := [zO 3 (.alloc 25)]
instance : Live z7e := ⟨[1,2]⟩
def z7d : List SOp := [zO 8 (.makeSlice 22 (.const (.int .i64 16)) (.const (.int .i64 16))),zG 4 8]
instance : Live z7d := ⟨[1,2,3]⟩
def z7c : List SOp := [zO 5 (.assign (.const (.int .i64 0)))]
instance : Live z7c := ⟨[1,2,3,4]⟩
def z7b : List SOp := [zO 6 (.assign (.const (.int .i64 0)))]
instance : Live z7b := ⟨[1,2,3,4,5]⟩
def z7a : List SOp := [zM 9 6,zO 10 (.binOp .lss 3 (.tmp 9) (.const (.int .i64 16)) 3)]
instance : Live z7a := ⟨[1,2,3,4,5,6]⟩
def z79 : List SOp := [zO 7 (.assign (.const (.int .i64 0)))]
instance : Live z79 := ⟨[1,2,3,4,5,6]⟩
def z78 : List SOp := [zM 13 7,zO 14 (.binOp .add 3 (.tmp 13) (.const (.int .i64 1)) 3),zM 15 6,zF 16 88 1 0,zI 17 86 16 15,zL 18 22 17,zO 19 (.call ⟨.builtin .len,#[.tmp 18],#[22]⟩),zO 20 (.binOp .lss 3 (.tmp 14) (.tmp 19) 3)]
instance : Live z78 := ⟨[1,2,3,4,5,6,7]⟩
def z75 : List SOp := [zM 23 6,zF 24 88 1 0,zI 25 86 24 23,zL 26 22 25,zM 27 7,zI 28 22 26 27,zL 29 3 28,zO 30 (.binOp .eql 3 (.tmp 29) (.const (.int .i64 1)) 3)]
instance : Live z75 := ⟨[1,2,3,4,5,6,7]⟩
def qq1 : List SOp := [zM 31 4,zM 32 6,zM 33 6,zF 34 88 1 0,zI 35 86 34 33,zL 36 22 35,zM 37 7,zO 38 (.binOp .add 3 (.tmp 37) (.const (.int .i64 1)) 3),zI 39 22 36 38,zL 40 3 39,zO 41 (.binOp .sub 3 (.tmp 40) (.const (.int .i64 1)) 3),zI 42 22 31 32,⟨none,.store 3 (.tmp 42) (.tmp 41),none⟩]
instance : Live qq1 := ⟨[1,2,3,4,6,7]⟩
def qq0 : List SOp := [zM 43 6,zO 44 (.binOp .add 3 (.tmp 43) (.const (.int .i64 1)) 3),zG 5 44]
instance : Live qq0 := ⟨[1,2,3,4,6,7]⟩
def qe3 : List SOp := [zF 45 25 3 1,zL 46 23 45,zM 47 6,zM 48 6,zF 49 88 1 0,zI 50 86 49 48,zL 51 22 50,zM 52 7,zI 53 22 51 52,zL 54 3 53,zM 55 6,zF 56 88 1 0,zI 57 86 56 55,zL 58 22 57,zM 59 7,zO 60 (.binOp .add 3 (.tmp 59) (.const (.int .i64 1)) 3),zI 61 22 58 60,zL 62 3 61,zO 63 (.binOp .sub 3 (.tmp 62) (.const (.int .i64 1)) 3),zO 64 (.build 82 #[(0,.tmp 47),(1,.tmp 54),(2,.tmp 63)]),zO 65 (.buildSlice 23 1 #[(0,.tmp 64)]),zO 66 (.call ⟨.builtin .append,#[.tmp 46,.tmp 65],#[23,23]⟩),zF 67 25 3 1,⟨none,.store 23 (.tmp 67) (.tmp 66),none⟩]
instance : Live qe3 := ⟨[1,2,3,4,5,6,7]⟩
instance : Rd qe3 := ⟨fun j => j == 1⟩
def qpz : List SOp := [zM 21 7,zO 22 (.binOp .add 3 (.tmp 21) (.const (.int .i64 2)) 3),zG 7 22]
instance : Live qpz := ⟨[1,2,3,4,5,6,7]⟩
def qpy : List SOp := [zM 11 6,zO 12 (.binOp .add 3 (.tmp 11) (.const (.int .i64 1)) 3),zG 6 12]
instance : Live qpy := ⟨[1,2,3,4,5,6]⟩
def qpx : List SOp := [zM 68 4,zM 69 5,zO 70 (.slice 22 (.tmp 68) none (some (.tmp 69)) none),zF 71 25 3 0,⟨none,.store 22 (.tmp 71) (.tmp 70),none⟩]
instance : Live qpx := ⟨[2,3,4,5]⟩
def qpw : List SOp := [zL 72 25 3,⟨none,.store 25 (.tmp 2) (.tmp 72),none⟩]
instance : Live qpw := ⟨[2,3]⟩
def qny : SC :=
 (.seq (.seq (.ops false z78) (.cond (.tmp 20) .skip (.exit 2))) (.seq (.block 3 (.seq (.ops false z75) (.cond (.tmp 30) (.seq (.ops false qq1) (.ops false qq0)) (.opsW [46] qe3)))) (.ops false qpz)))
def qnz : SC :=
 (.seq (.seq (.ops false z7a) (.cond (.tmp 10) .skip (.exit 0))) (.seq (.block 1 (.seq (.ops false z79) (.block 2 (.loop qny)))) (.ops false qpy)))
def t_k43 : SC :=
 (.seq (.ops false z7f) (.seq (.ops false z7e) (.seq (.ops false z7d) (.seq (.ops false z7c) (.seq (.seq (.ops false z7b) (.block 0 (.loop qnz))) (.seq (.ops false qpx) (.seq (.ops false qpw) .ret)))))))
theorem it_k43 : FnIs Tryz.prog 43 73 [.cell 2 25] t_k43 := ⟨Tryz.f43, _, Tryz.func43, rfl, rfl, rfl, rfl, by kernel_rfl⟩

end Go.Proofs.YtkionmommpgcmaaGreat.Avm
