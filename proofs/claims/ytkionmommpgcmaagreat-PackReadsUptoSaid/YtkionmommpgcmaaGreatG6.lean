/- Part 6 of the proof: lemmas. -/
import Derived.Test.YtkionmommpgcmaaGreatG5
import Derived.Test.YtkionmommpgcmaaGreatProg
import Derived.KernelRfl
set_option maxRecDepth 100000
set_option maxHeartbeats 4000000
set_option linter.unusedVariables false
set_option linter.unusedSimpArgs false
set_option linter.unusedSectionVars false
set_option linter.defProp false
namespace Go.Proofs.YtkionmommpgcmaaGreat.Avm
open Go.Proofs
section
def rdV {α : Type} (z : α) : Rs α → α
 | .ok (x, _) => x
 | .error _ => z
def qcv {α : Type} (b : Bs) (r : Rs α) : Bool := decide (q3r b (rdA r) (rdE r) = 0)
theorem qep {α : Type} {r : Rs α} (h : ∀ e a, r = .error (e, a) → e ≠ 0) : z3x r = .ret (.tup []) ∧ rdE r = 0 ∨ z3x r = .pan gup ∧ rdE r ≠ 0 := by
 cases r with
 | ok q => exact .inl ⟨rfl, rfl⟩
 | error q => exact .inr ⟨rfl, h _ _ rfl⟩
section
variable {E : Env} {n : Nat} {Q : Ex → AS → Prop} {r : List SOp} {T : q12} {M : Mem} {t : Tmp} {x : Operand} {args : Array Operand} {ts : Array TypeId} {f F : FuncId} {g o o' bs : List AVal} {v : Int}
theorem qg6 (k1 k2 : Nat) (hf : ev T x = .fn f []) (hl : evs T args.toList ++ [] = [.sl 1 bs, .fn F [.ptr k1 0, .ptr k2 0]]) (h1 : M k1 = some (.cells g)) (h2 : M k2 = some (.cells o)) (h12 : k1 ≠ k2) (hbs : q0i bs = true) (hg : g.all q0j = true) (ho : o.all q0j = true) (ho' : o'.all q0j = true)
 (he : EvM E.P f [.sl 1 bs, .fn F [.ptr 900001 0, .ptr 900002 0]] [(900001, g), (900002, o)] (.ret (.int .i64 v)) [(900001, g), (900002, o')])
 (kk : q06 E false none Q r (AS.put ⟨T, upd M k2 (some (.cells o'))⟩ (some t) (.int .i64 v))) : q06 E false none Q (⟨some t, .call ⟨.value x, args, ts⟩, none⟩ :: r) ⟨T, M⟩ := by
 have hlin : ∀ (o : List AVal) (k : Nat), lin [(900001, g), (900002, o)] k = (k == 900001 || k == 900002) := fun o k => by
  unfold lin q3v
  by_cases h1 : k = 900001
  ·subst h1; rfl
  ·by_cases h2 : k = 900002
   ·subst h2; rfl
   ·have e1 : ((900001 : Nat) == k) = false := by simpa using fun h => h1 h.symm
    have e2 : ((900002 : Nat) == k) = false := by simpa using fun h => h2 h.symm
    simp [List.find?, e1, e2, h1, h2]
 have hst : ∀ o : List AVal, o.all q0j = true → ∀ p ∈ [((900001 : Nat), g), (900002, o)], ∀ x ∈ p.2, q0j x = true := fun o ho p hp x hx => by
  simp only [List.mem_cons, List.not_mem_nil, or_false] at hp
  rcases hp with rfl | rfl
  ·exact List.all_eq_true.1 hg x hx
  ·exact List.all_eq_true.1 ho x hx
 have h21 : k2 ≠ k1 := fun e => h12 e.symm
 refine q8w (qaq (s := ⟨T, M⟩) (l := [.sl 1 bs, .fn F [.ptr k1 0, .ptr k2 0]]) (m := [(900001, g), (900002, o)]) (m' := [(900001, g), (900002, o')]) (L := fun j => j == k1 || j == k2) (ρ := fun k => if k = 900001 then k1 else k2) (σ := fun j => if j = k1 then 900001 else 900002) hf hl
  (fun j hj => ?_) (fun k hk => ?_) (fun k cs hk => ?_) (hst o ho) (hst o' ho') ?_ ?_ (out := .ret (.int .i64 v)) rfl he) ?_ ?_
 ·simp only [Bool.or_eq_true, beq_iff_eq] at hj
  rcases hj with rfl | rfl
  ·simp [hlin]
  ·simp [hlin, h21]
 ·rw [hlin] at hk
  simp only [Bool.or_eq_true, beq_iff_eq] at hk
  rcases hk with rfl | rfl
  ·simp
  ·simp [h21]
 ·obtain ⟨cs', hc, hm⟩ := q23 hk
  cases hc
  simp only [List.mem_cons, List.not_mem_nil, or_false, Prod.mk.injEq] at hm
  rcases hm with ⟨rfl, rfl⟩ | ⟨rfl, rfl⟩
  ·simpa using h1
  ·simpa using h2
 ·simpa [q7t, AVal.kin, AVal.stb] using hbs
 ·simp [q79, AVal.ren, h21]
 ·rintro y M' ⟨z, hz, rfl, rfl⟩
  cases hz
  have hM : q1w M (fun j => j == k1 || j == k2) (fun j => if j = k1 then 900001 else 900002) [(900001, g), (900002, o')] = upd M k2 (some (.cells o')) := by
   funext j
   unfold q1w
   by_cases a1 : j = k1
   ·subst a1
    rw [q0h _ _ h12]
    simp [h1, q3v]
   ·by_cases a2 : j = k2
    ·subst a2
     rw [q00]
     simp [a1, q3v]
    ·rw [q0h _ _ a2]
     simp [a1, a2]
  dsimp only
  rw [hM]
  exact kk
 ·rintro y M' ⟨z, hz, _⟩
  cases hz
end
def noZ {α : Type} (r : Rs α) : Prop := ∀ e a, r = .error (e, a) → e ≠ 0
theorem q1v {α β : Type} {r : Rs α} {f : α → Nat → Rs β} (h : noZ r) (hf : ∀ x a, noZ (f x a)) : noZ (r.bind f) := by
 cases r with
 | ok q => exact hf q.1 q.2
 | error q => intro e a he; exact h e a (by cases he; rfl)
theorem noZ_ite {α : Type} {c : Prop} [Decidable c] {x y : Rs α} (hx : noZ x) (hy : noZ y) : noZ (if c then x else y) := by
 split
 ·exact hx
 ·exact hy
theorem qby {α : Type} (q : α × Nat) : noZ (.ok q : Rs α) := fun e a h => by cases h
theorem qkv {α : Type} {e a : Nat} (h : e ≠ 0) : noZ (.error (e, a) : Rs α) := fun e' a' h' => by cases h'; exact h
theorem q4t (m : Nat) (b : Bs) (p : Nat) : noZ (q91 m b p) := fun e a h => (rNum_err h).1
theorem qbz (m : Nat) (b : Bs) (p : Nat) : noZ (q3n m b p) := by
 unfold q3n
 cases h : q91 9223372036854775807 b p with
 | error q => exact fun e a he => q4t _ b p e a (by rw [h, ← he])
 | ok q =>
  simp only
  split
  ·exact qkv (by decide)
  ·exact qby _
theorem noZ_take (m : Nat) (b : Bs) (p : Nat) : noZ (q96 m b p) := by
 unfold q96
 cases h : q91 m b p with
 | error q => exact fun e a he => q4t m b p e a (by rw [h]; cases he; rfl)
 | ok q =>
  simp only
  split
  ·exact qkv (by decide)
  ·exact qby _
theorem z07 (m : Nat) (b : Bs) (p : Nat) : noZ (qa5 m b p) := fun e a h => noZ_take m b p e a (Rs.map_error h)
theorem zcs (b : Bs) : ∀ (k : Nat) (acc : List Int) (p : Nat), noZ (qg8 b k acc p)
 | 0, acc, p => qby _
 | k + 1, acc, p => by rw [qg8]; exact q1v (q4t _ _ _) fun x a => zcs b k _ _
theorem qkw (vec : List Int) (b : Bs) : ∀ (k rep : Nat) (acc : List Sn) (p : Nat), noZ (q2z vec b k rep acc p)
 | 0, rep, acc, p => qby _
 | k + 1, rep, acc, p => by
  rw [q2z]
  refine q1v (q4t _ _ _) fun x a => ?_
  split
  ·exact qkv (by decide)
  ·refine q1v (q4t _ _ _) fun x a => q1v (q4t _ _ _) fun x a => ?_
   split
   ·exact qkv (by decide)
   ·exact qkw vec b k _ _ _
theorem qan (b : Bs) (p : Nat) : noZ (q1f b p) :=
 q1v (q4t _ _ _) fun x a => q1v (zcs _ _ _ _) fun x a => q1v (qbz _ _ _) fun x a => q1v (qkw _ _ _ _ _ _) fun x a => qby _
theorem z09 (b : Bs) : ∀ (k rep next : Nat) (acc : List Ent) (p : Nat), noZ (q7m b k rep next acc p)
 | 0, rep, next, acc, p => qby _
 | k + 1, rep, next, acc, p => by
  rw [q7m]
  exact q1v (q4t _ _ _) fun x a => q1v (q4t _ _ _) fun x a => noZ_ite (qkv (by decide)) (q1v (z07 _ _ _) fun x a => q1v (q4t _ _ _) fun x a => z09 b k _ _ _ _)
theorem q7n (b : Bs) (p : Nat) : noZ (q0a b p) := q1v (qbz _ _ _) fun x a => z09 _ _ _ _ _ _
theorem z08 (b : Bs) : ∀ (k : Nat) (acc : List Rec) (p : Nat), noZ (q62 b k acc p)
 | 0, acc, p => qby _
 | k + 1, acc, p => by
  rw [q62]
  exact q1v (z07 _ _ _) fun x a => q1v (qan _ _) fun x a => z08 b k _ _
theorem q7l (b : Bs) (p : Nat) : noZ (q08 b p) := q1v (qbz _ _ _) fun x a => z08 _ _ _ _
theorem ev_k59 (b : Bs) (hb : b.length ≤ 900000000000) : Ev (En Tryz.prog rfl).P 59 [.sl 1 (q1k b), .fn 60 []] (.ret (.tup [q10 (rdV ⟨[], []⟩ (q1f b 0)), .bool (qcv b (q1f b 0))])) := by
 have he := qo9 b hb 103 (rdA (q1f b 0)) (rdE (q1f b 0)) [.fn 60 []] [.nil, .nil] (rdO (q1f b 0) [.nil, .nil] z1o) rfl rfl (by
  cases q1f b 0 with
  | ok q => exact qf6 _
  | error q => rfl) (qo8 b hb) (qep fun e a h => qan b 0 e a h)
 refine Ev.of_body it_k59 (by simp) (Run.start ?_)
 unfold t_k59
 generalize hx : SC.ops false qnh = X
 (focus (have hF := @q00; (repeat' (first | refine go1 (k:=?_) | with_reducible refine Ny.of ?_ ?_ | (refine Hyp.of ?_; intro hc; (try simp only [hc]); (try simp only [Bh] at hc)))); all_goals clear hF))
 refine qg6 3 6 (by with_unfolding_all rfl) (by with_unfolding_all rfl) (by with_unfolding_all rfl) (by with_unfolding_all rfl) (by decide) (q0e b) rfl rfl (by
  cases q1f b 0 with
  | ok q => exact qf6 _
  | error q => rfl) he ?_
 dsimp only [AS.put]
 (focus (have hF := @q00; (repeat' (first | refine go1 (k:=?_) | with_reducible refine Ny.of ?_ ?_ | (refine Hyp.of ?_; intro hc; (try simp only [hc]); (try simp only [Bh] at hc)))); all_goals clear hF))
 have hE : (q3r b (rdA (q1f b 0)) (rdE (q1f b 0)) = 0) = (qcv b (q1f b 0) = true) := by simp [qcv]
 generalize q3r b (rdA (q1f b 0)) (rdE (q1f b 0)) = y at hE
 generalize qcv b (q1f b 0) = yo at hE ⊢
 refine Run.wk (Wk.cells_nil (k := 6) (ds := z1o (rdV ⟨[], []⟩ (q1f b 0))) (by with_unfolding_all rfl) ?_) ?_
 ·cases q1f b 0 with
  | ok q => exact q1p _
  | error q => exact sub2
 subst hx
 generalize rdV ⟨[], []⟩ (q1f b 0) = x
 have hC : z1o x = [.sl 1 (q03 x.vec), .sl 3 (q0g x.cloud)] := rfl
 have hD : decide (yo = true) = yo := by simp
 (focus (have hF := (aI (aI @q00 @hC) (aI @hE @hD)); (repeat' (first | refine go1 (k:=?_) | with_reducible refine Ny.of ?_ ?_ | (refine Hyp.of ?_; intro hc; (try simp only [hc]); (try simp only [Bh] at hc)))); all_goals clear hF))
 exact Fin.all (xs := [q10 x, .bool yo]) rfl (by simp [q0i, AVal.stb, q0c]) rfl
theorem ev_k61 (b : Bs) (hb : b.length ≤ 900000000000) : Ev (En Tryz.prog rfl).P 61 [.sl 1 (q1k b), .fn 62 []] (.ret (.tup [.sl 4 (q1b (rdV [] (q0a b 0))), .bool (qcv b (q0a b 0))])) := by
 have he := qo9 b hb 107 (rdA (q0a b 0)) (rdE (q0a b 0)) [.fn 62 []] [.nil] (rdO (q0a b 0) [.nil] qo5) rfl rfl (by
  cases q0a b 0 with
  | ok q => exact by simp [rdO, qo5, q0j, AVal.stb, q0l]
  | error q => rfl) (qlp b hb) (qep fun e a h => q7n b 0 e a h)
 refine Ev.of_body it_k61 (by simp) (Run.start ?_)
 unfold t_k61
 generalize hx : SC.ops false qnf = X
 (focus (have hF := @q00; (repeat' (first | refine go1 (k:=?_) | with_reducible refine Ny.of ?_ ?_ | (refine Hyp.of ?_; intro hc; (try simp only [hc]); (try simp only [Bh] at hc)))); all_goals clear hF))
 refine qg6 3 6 (by with_unfolding_all rfl) (by with_unfolding_all rfl) (by with_unfolding_all rfl) (by with_unfolding_all rfl) (by decide) (q0e b) rfl rfl (by
  cases q0a b 0 with
  | ok q => exact by simp [rdO, qo5, q0j, AVal.stb, q0l]
  | error q => rfl) he ?_
 dsimp only [AS.put]
 (focus (have hF := @q00; (repeat' (first | refine go1 (k:=?_) | with_reducible refine Ny.of ?_ ?_ | (refine Hyp.of ?_; intro hc; (try simp only [hc]); (try simp only [Bh] at hc)))); all_goals clear hF))
 have hE : (q3r b (rdA (q0a b 0)) (rdE (q0a b 0)) = 0) = (qcv b (q0a b 0) = true) := by simp [qcv]
 generalize q3r b (rdA (q0a b 0)) (rdE (q0a b 0)) = y at hE
 generalize qcv b (q0a b 0) = yo at hE ⊢
 refine Run.wk (Wk.cells_nil (k := 6) (ds := qo5 (rdV [] (q0a b 0))) (by with_unfolding_all rfl) ?_) ?_
 ·cases q0a b 0 with
  | ok q => exact q1p _
  | error q => exact ⟨.inr ⟨rfl, 4, rfl⟩, trivial⟩
 subst hx
 generalize rdV [] (q0a b 0) = x
 have hC : qo5 x = [.sl 4 (q1b x)] := rfl
 have hD : decide (yo = true) = yo := by simp
 (focus (have hF := (aI (aI @q00 @hC) (aI @hE @hD)); (repeat' (first | refine go1 (k:=?_) | with_reducible refine Ny.of ?_ ?_ | (refine Hyp.of ?_; intro hc; (try simp only [hc]); (try simp only [Bh] at hc)))); all_goals clear hF))
 exact Fin.all (xs := [.sl 4 (q1b x), .bool yo]) rfl (by simp [q0i, AVal.stb, q0l]) rfl
theorem ev_k65 (b : Bs) (hb : b.length ≤ 900000000000) : Ev (En Tryz.prog rfl).P 65 [.sl 1 (q1k b), .fn 66 []] (.ret (.tup [.sl 3 (q1j (rdV [] (q08 b 0))), .bool (qcv b (q08 b 0))])) := by
 have he := qo9 b hb 111 (rdA (q08 b 0)) (rdE (q08 b 0)) [.fn 66 []] [.nil] (rdO (q08 b 0) [.nil] qn3) rfl rfl (by
  cases q08 b 0 with
  | ok q => exact by simp [rdO, qn3, q0j, AVal.stb, q0p]
  | error q => rfl) (qfz b hb) (qep fun e a h => q7l b 0 e a h)
 refine Ev.of_body it_k65 (by simp) (Run.start ?_)
 unfold t_k65
 generalize hx : SC.ops false qne = X
 (focus (have hF := @q00; (repeat' (first | refine go1 (k:=?_) | with_reducible refine Ny.of ?_ ?_ | (refine Hyp.of ?_; intro hc; (try simp only [hc]); (try simp only [Bh] at hc)))); all_goals clear hF))
 refine qg6 3 6 (by with_unfolding_all rfl) (by with_unfolding_all rfl) (by with_unfolding_all rfl) (by with_unfolding_all rfl) (by decide) (q0e b) rfl rfl (by
  cases q08 b 0 with
  | ok q => exact by simp [rdO, qn3, q0j, AVal.stb, q0p]
  | error q => rfl) he ?_
 dsimp only [AS.put]
 (focus (have hF := @q00; (repeat' (first | refine go1 (k:=?_) | with_reducible refine Ny.of ?_ ?_ | (refine Hyp.of ?_; intro hc; (try simp only [hc]); (try simp only [Bh] at hc)))); all_goals clear hF))
 have hE : (q3r b (rdA (q08 b 0)) (rdE (q08 b 0)) = 0) = (qcv b (q08 b 0) = true) := by simp [qcv]
 generalize q3r b (rdA (q08 b 0)) (rdE (q08 b 0)) = y at hE
 generalize qcv b (q08 b 0) = yo at hE ⊢
 refine Run.wk (Wk.cells_nil (k := 6) (ds := qn3 (rdV [] (q08 b 0))) (by with_unfolding_all rfl) ?_) ?_
 ·cases q08 b 0 with
  | ok q => exact q1p _
  | error q => exact ⟨.inr ⟨rfl, 3, rfl⟩, trivial⟩
 subst hx
 generalize rdV [] (q08 b 0) = x
 have hC : qn3 x = [.sl 3 (q1j x)] := rfl
 have hD : decide (yo = true) = yo := by simp
 (focus (have hF := (aI (aI @q00 @hC) (aI @hE @hD)); (repeat' (first | refine go1 (k:=?_) | with_reducible refine Ny.of ?_ ?_ | (refine Hyp.of ?_; intro hc; (try simp only [hc]); (try simp only [Bh] at hc)))); all_goals clear hF))
 exact Fin.all (xs := [.sl 3 (q1j x), .bool yo]) rfl (by simp [q0i, AVal.stb, q0p]) rfl
def qmj {α : Type} (z : α) (ok : α → Bool) (b : Bs) (r : Rs α) : α := if (qcv b r && ok (rdV z r)) = true then rdV z r else z
def ql3 {α : Type} (z : α) (ok : α → Bool) (b : Bs) (r : Rs α) : Int := if (qcv b r && ok (rdV z r)) = true then 0 else 8
theorem ev_k23 (b : Bs) (hb : b.length ≤ 900000000000) (hw : wt (rdV ⟨[], []⟩ (q1f b 0)) ≤ 40000000) : Ev (En Tryz.prog rfl).P 23 [.sl 1 (q1k b)] (.ret (.tup [q10 (qmj ⟨[], []⟩ q0o b (q1f b 0)), .int .i64 (ql3 ⟨[], []⟩ q0o b (q1f b 0))])) := by
 refine Ev.of_body it_k23 (by simp) (AW.wkEnd (Run.start ?_))
 unfold t_k23
 (focus (have hF := @q00; (repeat' (first | refine go1 (k:=?_) | with_reducible refine Ny.of ?_ ?_ | (refine Hyp.of ?_; intro hc; (try simp only [hc]); (try simp only [Bh] at hc)))); all_goals clear hF))
 refine q05 [.sl 1 (q1k b), .fn 60 []] (he := ev_k59 b hb) (k:=?_)
 unfold qmj ql3
 generalize rdV ⟨[], []⟩ (q1f b 0) = x at *
 generalize qcv b (q1f b 0) = yo
 unfold q10
 cases yo with
 | false =>
  (focus (have hF := @q00; (repeat' (first | refine go1 (k:=?_) | with_reducible refine Ny.of ?_ ?_ | (refine Hyp.of ?_; intro hc; (try simp only [hc]); (try simp only [Bh] at hc)))); all_goals clear hF))
  exact Fin.done ⟨_, Wk.cells_nil (k := 2) rfl sub2, [q10 ⟨[], []⟩, .int .i64 8], by with_unfolding_all rfl, by simp [q0i, q0c, AVal.stb], _, q1p _, rfl⟩
 | true =>
  (focus (have hF := @q00; (repeat' (first | refine go1 (k:=?_) | with_reducible refine Ny.of ?_ ?_ | (refine Hyp.of ?_; intro hc; (try simp only [hc]); (try simp only [Bh] at hc)))); all_goals clear hF))
  refine q05 [q10 x] (he := zdm x hw) (k:=?_)
  cases hn : q0o x with
  | false =>
   (focus (have hF := @q00; (repeat' (first | refine go1 (k:=?_) | with_reducible refine Ny.of ?_ ?_ | (refine Hyp.of ?_; intro hc; (try simp only [hc]); (try simp only [Bh] at hc)))); all_goals clear hF))
   exact Fin.done ⟨_, Wk.cells_nil (k := 2) rfl sub2, [q10 ⟨[], []⟩, .int .i64 8], by with_unfolding_all rfl, by simp [q0i, q0c, AVal.stb], _, q1p _, rfl⟩
  | true =>
   (focus (have hF := @q00; (repeat' (first | refine go1 (k:=?_) | with_reducible refine Ny.of ?_ ?_ | (refine Hyp.of ?_; intro hc; (try simp only [hc]); (try simp only [Bh] at hc)))); all_goals clear hF))
   exact Fin.done ⟨_, Wk.refl _ _, [q10 x, .int .i64 0], by with_unfolding_all rfl, by simp [q0i, q0c, AVal.stb], _, q1p _, rfl⟩
theorem ev_k24 (b : Bs) (hb : b.length ≤ 900000000000) (hw : (rdV [] (q0a b 0)).length ≤ 1000000000) : Ev (En Tryz.prog rfl).P 24 [.sl 1 (q1k b)] (.ret (.tup [.sl 4 (q1b (qmj [] q4k b (q0a b 0))), .int .i64 (ql3 [] q4k b (q0a b 0))])) := by
 refine Ev.of_body it_k24 (by simp) (Run.start ?_)
 unfold t_k24
 have hS := z1d
 (focus (have hF := @q00; (repeat' (first | refine go1 (k:=?_) | with_reducible refine Ny.of ?_ ?_ | (refine Hyp.of ?_; intro hc; (try simp only [hc]); (try simp only [Bh] at hc)))); all_goals clear hF))
 refine q05 [.sl 1 (q1k b), .fn 62 []] (he := ev_k61 b hb) (k:=?_)
 unfold qmj ql3
 generalize rdV [] (q0a b 0) = x at *
 generalize qcv b (q0a b 0) = yo
 cases yo with
 | false =>
  (focus (have hF := @q00; (repeat' (first | refine go1 (k:=?_) | with_reducible refine Ny.of ?_ ?_ | (refine Hyp.of ?_; intro hc; (try simp only [hc]); (try simp only [Bh] at hc)))); all_goals clear hF))
  exact Fin.two rfl rfl rfl rfl (.inr ⟨rfl, 4, rfl⟩) (.inl rfl)
 | true =>
  (focus (have hF := @q00; (repeat' (first | refine go1 (k:=?_) | with_reducible refine Ny.of ?_ ?_ | (refine Hyp.of ?_; intro hc; (try simp only [hc]); (try simp only [Bh] at hc)))); all_goals clear hF))
  refine q05 [.sl 4 (q1b x)] (he := ev_k49 x hw) (k:=?_)
  cases hn : q4k x with
  | false =>
   (focus (have hF := @q00; (repeat' (first | refine go1 (k:=?_) | with_reducible refine Ny.of ?_ ?_ | (refine Hyp.of ?_; intro hc; (try simp only [hc]); (try simp only [Bh] at hc)))); all_goals clear hF))
   exact Fin.two rfl rfl rfl rfl (.inr ⟨rfl, 4, rfl⟩) (.inl rfl)
  | true =>
   (focus (have hF := @q00; (repeat' (first | refine go1 (k:=?_) | with_reducible refine Ny.of ?_ ?_ | (refine Hyp.of ?_; intro hc; (try simp only [hc]); (try simp only [Bh] at hc)))); all_goals clear hF))
   exact Fin.two (y := .sl 4 (q1b x)) rfl (q0l x) rfl rfl (.inl rfl) (.inl rfl)
theorem ev_k26 (b : Bs) (hb : b.length ≤ 900000000000) (hl : (rdV [] (q08 b 0)).length ≤ 1000000000) (hw : ∀ r ∈ rdV [] (q08 b 0), wt r.past ≤ 40000000) : Ev (En Tryz.prog rfl).P 26 [.sl 1 (q1k b)] (.ret (.tup [.sl 3 (q1j (qmj [] q4f b (q08 b 0))), .int .i64 (ql3 [] q4f b (q08 b 0))])) := by
 refine Ev.of_body it_k26 (by simp) (Run.start ?_)
 unfold t_k26
 have hS := z1d
 (focus (have hF := @q00; (repeat' (first | refine go1 (k:=?_) | with_reducible refine Ny.of ?_ ?_ | (refine Hyp.of ?_; intro hc; (try simp only [hc]); (try simp only [Bh] at hc)))); all_goals clear hF))
 refine q05 [.sl 1 (q1k b), .fn 66 []] (he := ev_k65 b hb) (k:=?_)
 unfold qmj ql3
 generalize rdV [] (q08 b 0) = x at *
 generalize qcv b (q08 b 0) = yo
 cases yo with
 | false =>
  (focus (have hF := @q00; (repeat' (first | refine go1 (k:=?_) | with_reducible refine Ny.of ?_ ?_ | (refine Hyp.of ?_; intro hc; (try simp only [hc]); (try simp only [Bh] at hc)))); all_goals clear hF))
  exact Fin.two rfl rfl rfl rfl (.inr ⟨rfl, 3, rfl⟩) (.inl rfl)
 | true =>
  (focus (have hF := @q00; (repeat' (first | refine go1 (k:=?_) | with_reducible refine Ny.of ?_ ?_ | (refine Hyp.of ?_; intro hc; (try simp only [hc]); (try simp only [Bh] at hc)))); all_goals clear hF))
  refine q05 [.sl 3 (q1j x)] (he := qfs x hl hw) (k:=?_)
  cases hn : q4f x with
  | false =>
   (focus (have hF := @q00; (repeat' (first | refine go1 (k:=?_) | with_reducible refine Ny.of ?_ ?_ | (refine Hyp.of ?_; intro hc; (try simp only [hc]); (try simp only [Bh] at hc)))); all_goals clear hF))
   exact Fin.two rfl rfl rfl rfl (.inr ⟨rfl, 3, rfl⟩) (.inl rfl)
  | true =>
   (focus (have hF := @q00; (repeat' (first | refine go1 (k:=?_) | with_reducible refine Ny.of ?_ ?_ | (refine Hyp.of ?_; intro hc; (try simp only [hc]); (try simp only [Bh] at hc)))); all_goals clear hF))
   exact Fin.two (y := .sl 3 (q1j x)) rfl (q0p x) rfl rfl (.inl rfl) (.inl rfl)
end
theorem qfg (t : Tab) (r : Nat) : 0 ≤ q5k t r ∧ q5k t r ≤ 1000000000 ∧ (q4a t r).Pairwise qmx ∧ ∀ x ∈ q4a t r, okR x ∧ q5k t r + 2 ≤ x.1 := by
 unfold q5k q4a
 have hc := q2k (t.getD r [])
 cases hl : q11 (t.getD r []) with
 | nil => simp [q1r]
 | cons x l =>
  rw [hl] at hc
  have hp := hc.1
  have ho := hc.2
  have hx : okR x := ho x (by simp)
  rw [List.pairwise_cons] at hp
  unfold okR at hx
  by_cases h1 : x.1 = 1
  ·rw [qap h1]
   refine ⟨by simp only; omega, by simp only; omega, hp.2, fun y hy => ⟨ho y (by simp [hy]), ?_⟩⟩
   have := hp.1 y hy
   unfold qmx at this
   simp only
   omega
  ·rw [qao h1]
   refine ⟨by simp, by simp, by simp only; rw [List.pairwise_cons]; exact hp, fun y hy => ⟨ho y hy, ?_⟩⟩
   simp only at hy ⊢
   rcases List.mem_cons.1 hy with rfl | hy
   ·omega
   ·have := hp.1 y hy
    unfold qmx at this
    omega
theorem lowI_T (t : Tab) {r : Nat} (hr : r < 16) : qg9 (q69 t).vec r = q5k t r + 2 := by
 unfold qg9 q69
 simp only
 rw [List.getElem?_take]
 by_cases h : r < q2v t 16
 ·rw [if_pos h, z1s t hr]
 ·rw [if_neg h]
  have h1 := qdd t 16 r hr (by omega)
  have h2 := (qfg t r).1
  simp only
  omega
theorem z1b {vec : List Int} : ∀ {l sf m : List Sn}, zeq vec sf l → zeq vec (sf ++ l) m → zeq vec sf (l ++ m)
 | [], sf, m, _, h => by simpa using h
 | x :: l, sf, m, h1, h2 => ⟨h1.1, z1b h1.2 (by simpa using h2)⟩
theorem qnv {vec : List Int} {r : Nat} (sf : List Sn) (lo hi : Int) : q1e vec r (sf ++ [((r : Int), lo, hi)]) = hi + 2 := by
 unfold q1e
 rw [List.getLast?_append]
 simp
theorem z19 {vec : List Int} {r : Nat} (hr : r ≤ 15) : ∀ (xs : List Rn) (sf : List Sn), xs.Pairwise qmx → (∀ x ∈ xs, okR x) → 0 ≤ q52 sf → q52 sf ≤ (r : Int) → (∀ x ∈ xs, q1e vec r sf ≤ x.1) → zeq vec sf (xs.map (q3u r))
 | [], sf, _, _, _, _, _ => trivial
 | x :: xs, sf, hp, ho, h1, h2, h3 => by
  rw [List.pairwise_cons] at hp
  have hx := ho x (by simp)
  unfold okR at hx
  refine ⟨⟨h1, h2, by simp only [q3u]; omega, ?_, by simp only [q3u]; omega, by simp only [q3u]; omega⟩, z19 hr xs _ hp.2 (fun y hy => ho y (by simp [hy])) ?_ ?_ fun y hy => ?_⟩
  ·simp only [q3u, Int.toNat_natCast]
   exact h3 x (by simp)
  ·rw [q51]
   simp only [q3u]
   omega
  ·rw [q51]
   simp only [q3u]
   omega
  ·have := hp.1 y hy
   unfold qmx at this
   unfold q3u
   rw [qnv]
   omega
theorem qlv (t : Tab) : ∀ n, n ≤ 16 → zeq (q69 t).vec [] (q19 t n) ∧ ∀ s ∈ q19 t n, 0 ≤ s.1 ∧ s.1 < (n : Int)
 | 0, _ => ⟨trivial, fun s hs => by simp [q19] at hs⟩
 | n + 1, hn => by
  obtain ⟨h1, h2⟩ := qlv t n (by omega)
  obtain ⟨l1, l2, l3, l4⟩ := qfg t n
  rw [q4h]
  have hrep : 0 ≤ q52 (q19 t n) ∧ q52 (q19 t n) ≤ (n : Int) := by
   unfold q52
   cases hg : (q19 t n).getLast? with
   | none => simp only; omega
   | some s => have := h2 s (List.mem_of_getLast? hg); simp only; omega
  have hle : q1e (q69 t).vec n (q19 t n) = q5k t n + 2 := by
   rw [← lowI_T t (by omega : n < 16)]
   unfold q1e
   cases hg : (q19 t n).getLast? with
   | none => rfl
   | some s =>
    have := h2 s (List.mem_of_getLast? hg)
    simp only
    rw [if_neg (by omega)]
  refine ⟨z1b h1 ?_, fun s hs => ?_⟩
  ·rw [List.nil_append]
   refine z19 (by omega) _ _ l3 (fun x hx => (l4 x hx).1) hrep.1 hrep.2 fun x hx => ?_
   rw [hle]
   exact (l4 x hx).2
  ·rcases List.mem_append.1 hs with hs | hs
   ·have := h2 s hs; omega
   ·simp only [q5q, List.mem_map] at hs
    obtain ⟨x, _, rfl⟩ := hs
    simp only [q3u]
    omega
theorem pastT_PF (t : Tab) : PF (q69 t) := by
 refine ⟨?_, fun x hx => ?_, (qlv t 16 (Nat.le_refl _)).1⟩
 ·show ((q24 t 16).take (q2v t 16)).length ≤ 16
  rw [List.length_take, q2c]
  omega
 ·have hx : x ∈ q24 t 16 := List.mem_of_mem_take hx
  simp only [q24, List.mem_map] at hx
  obtain ⟨r, _, rfl⟩ := hx
  exact ⟨(qfg t r).1, (qfg t r).2.1⟩
theorem qe7 {p : Pst} (h : q0o p = true) : PF p := by
 have := q5l.1 h
 unfold CanP at this
 rw [← this]
 exact pastT_PF _
theorem z1a {vec : List Int} : ∀ {l sf : List Sn} {i : Nat} {s : Sn}, zeq vec sf l → l[i]? = some s → spanF vec (sf ++ l.take i) s
 | [], sf, i, s, _, h => by simp at h
 | x :: l, sf, 0, s, hc, h => by simp at h; subst h; simpa using hc.1
 | x :: l, sf, i + 1, s, hc, h => by
  have := z1a hc.2 (by simpa using h)
  simpa using this
theorem zep {vec : List Int} (hv : qmh vec) : ∀ {l sf : List Sn}, zcp sf → zeq vec sf l → zcp (sf ++ l)
 | [], sf, h, _ => by simpa using h
 | x :: l, sf, h, hc => by
  have := zep hv (qbw hv h hc.1) hc.2
  simpa using this
theorem PF.pw {p : Pst} (h : PF p) (hl : p.cloud.length ≤ 1000000000) : PW p := by
 have hcr : zcp p.cloud := by simpa using zep h.v (fun s hs => by cases hs) h.c
 have := h.vl
 refine ⟨by omega, h.v, hl, hcr, fun i s hs => ?_⟩
 have h1 := z1a h.c hs
 rw [List.nil_append] at h1
 obtain ⟨q1, q2, q3, q4, q5, q6⟩ := h1
 exact ⟨q1, q2, by omega, q4, q5, q6⟩
theorem EntsF_of {l : List Ent} : ∀ {sf : List Ent}, (∀ (i : Nat) e, l[i]? = some e → entF (sf ++ l.take i) e) → qoo sf l := by
 induction l with
 | nil => intro sf _; trivial
 | cons x l ih =>
  intro sf h
  refine ⟨by simpa using h 0 x rfl, ih fun i e he => ?_⟩
  have := h (i + 1) e (by simpa using he)
  simpa using this
theorem qcf {e : Ent} (h : q3w e = 0) : 0 ≤ e.rep ∧ e.rep ≤ 15 ∧ 1 ≤ e.num ∧ e.num ≤ 1000000000 ∧ q4e e.sku = true ∧ 1 ≤ e.qty ∧ e.qty ≤ 1000000 := by
 unfold q3w at h
 by_cases h1 : e.rep < 0 ∨ 16 ≤ e.rep
 ·rw [if_pos h1] at h; omega
 ·rw [if_neg h1] at h
  by_cases h2 : e.num < 1 ∨ 1000000000 < e.num
  ·rw [if_pos h2] at h; omega
  ·rw [if_neg h2] at h
   by_cases h3 : q4e e.sku = false
   ·rw [if_pos h3] at h; omega
   ·rw [if_neg h3] at h
    by_cases h4 : e.qty < 1 ∨ 1000000 < e.qty
    ·rw [if_pos h4] at h; omega
    ·refine ⟨by omega, by omega, by omega, by omega, by simpa using h3, by omega, by omega⟩
theorem q9a {s : ByteArray} (h : q4e s = true) : 1 ≤ s.size ∧ s.size ≤ 24 := by
 unfold q4e qgb at h
 by_cases h1 : s.size = 0
 ·rw [if_pos h1] at h; simp at h
 ·rw [if_neg h1] at h
  by_cases h2 : 24 < s.size
  ·rw [if_pos h2] at h; simp at h
  ·omega
theorem z1x {l : List Ent} (h : q4k l = true) (i : Nat) (e : Ent) (he : l[i]? = some e) : entF (l.take i) e := by
 obtain ⟨h1, h2⟩ := ql5.1 h
 obtain ⟨a1, a2, a3, a4, a5, a6, a7⟩ := qcf (h1 i e he)
 have a8 := q9a a5
 cases i with
 | zero =>
  refine ⟨by simp [qhn], by simp [qhn]; omega, a2, by simp [q8f], by simp [q8f], ?_, a4, a8.2, a6, by omega⟩
  unfold q8u
  simp only [List.take_zero, qhn, q8f, List.getLast?_nil, ite_self]
  omega
 | succ j =>
  have hlt : j + 1 < l.length := (List.getElem?_eq_some_iff.1 he).1
  have hg : l[j]? = some (l[j]) := List.getElem?_eq_getElem (by omega)
  obtain ⟨b1, b2, b3, b4, b5, b6, b7⟩ := qcf (h1 j _ hg)
  have hd := h2 j _ _ hg he
  rw [q7x hg]
  generalize l[j] = x at *
  have hdl : x.rep < e.rep ∨ (x.rep = e.rep ∧ x.num < e.num) := by
   unfold q63 Ent.dot at hd
   simpa using hd
  refine ⟨by rw [q68]; omega, by rw [q68]; omega, a2, by rw [q54]; omega, by rw [q54]; omega, ?_, a4, a8.2, a6, by omega⟩
  unfold q8u
  rw [q68, q54]
  split <;> omega
theorem qo0 {l : List Ent} (h : q4k l = true) : qoo [] l := EntsF_of fun i e he => by
 rw [List.nil_append]
 exact z1x h i e he
theorem qfl {l : List Ent} (h : q4k l = true) : ∀ e ∈ l, 1 ≤ e.sku.size ∧ e.qty ≤ 1000000 := fun e he => by
 obtain ⟨i, hi⟩ := List.mem_iff_getElem?.1 he
 obtain ⟨a1, a2, a3, a4, a5, a6, a7⟩ := qcf ((ql5.1 h).1 i e hi)
 exact ⟨(q9a a5).1, a7⟩
theorem size_empty : q83 ⟨[], []⟩ = 0 := by
 have h : q25 [⟨[], []⟩] = List.replicate 16 [] := by decide
 have n0 : q11 [] = [] := q1q Can.nil
 unfold q83 q1x
 rw [h]
 have : ∀ r, (List.replicate 16 ([] : List Rn)).getD r [] = [] := fun r => by
  rw [List.getD_eq_getElem?_getD, List.getElem?_replicate]
  split <;> rfl
 simp only [this, n0]
 rfl
theorem qar {l : List Rec} (h : q4f l = true) : ∀ r ∈ l, (r.sku.size ≤ 24 ∧ PF r.past) ∧ (r.past.vec ≠ [] ∨ r.past.cloud ≠ []) := fun r hr => by
 obtain ⟨i, hi⟩ := List.mem_iff_getElem?.1 hr
 have he := (ql4.1 h).1 i r hi
 unfold q3m at he
 by_cases h1 : ¬ r.sku.size = 0 ∧ q4e r.sku = false
 ·rw [if_pos h1] at he; omega
 ·rw [if_neg h1] at he
  by_cases h2 : q0o r.past = false ∨ q83 r.past = 0
  ·rw [if_pos h2] at he; omega
  ·have hn : q0o r.past = true := by
    cases hq : q0o r.past with
    | true => rfl
    | false => exact absurd (.inl hq) h2
   refine ⟨⟨?_, qe7 hn⟩, ?_⟩
   ·by_cases h0 : r.sku.size = 0
    ·omega
    ·refine (q9a ?_).2
     cases hg : q4e r.sku with
     | true => rfl
     | false => exact absurd ⟨h0, hg⟩ h1
   ·by_cases hv : r.past.vec = []
    ·refine .inr fun hc => h2 (.inr ?_)
     obtain ⟨s, ⟨v, c⟩⟩ := r
     simp only at hv hc
     subst hv
     subst hc
     exact size_empty
    ·exact .inl hv
theorem qn4 {b : Bs} : q3r b b.length 0 = 0 := by simp [q3r]
theorem qpx {α : Type} {b : Bs} {r : Rs α} (hz : noZ r) (hle : ∀ x a, r = .ok (x, a) → a ≤ b.length) : qcv b r = true ↔ ∃ x, r = .ok (x, b.length) := by
 unfold qcv
 rw [decide_eq_true_eq]
 constructor
 ·intro h
  cases hr : r with
  | error q =>
   obtain ⟨e, a⟩ := q
   rw [hr] at h
   have he := hz e a hr
   simp only [rdE, rdA, q3r, if_neg he] at h
   omega
  | ok q =>
   obtain ⟨x, a⟩ := q
   rw [hr] at h
   have := hle x a hr
   change q3r b a 0 = 0 at h
   by_cases hlt : a < b.length
   ·have h52 : q3r b a 0 = 52 := by simp [q3r, hlt]
    omega
   ·exact ⟨x, by rw [show a = b.length by omega]⟩
 ·rintro ⟨x, rfl⟩
  exact qn4

def fixP : Pst := ⟨[4], [(0, 6, 12), (1, 2, 2)]⟩
def qo1 : List Ent := [⟨2, 1, ⟨#[65]⟩, 5⟩]
def qmk : List Rec := [⟨⟨#[]⟩, ⟨[1], []⟩⟩]
def z21 : Bs := [1, 4, 2, 0, 0, 6, 1, 0, 0]
def qfo : Bs := [1, 2, 0, 1, 65, 4]
def qfn : Bs := [1, 0, 1, 1, 0]
theorem qku {p : Pst} {m : Tab} (h : q25 [p] = m) (hm : m.map q11 = m) : q26 p = pastN m := by
 unfold q26
 rw [qnl, h, hm]
theorem zdd : q0o fixP = true := by
 refine q5l.2 ?_
 unfold CanP
 have h : q25 [fixP] = [[(1, 4), (6, 12)], [(2, 2)], [], [], [], [], [], [], [], [], [], [], [], [], [], []] := by decide
 have n0 : q11 [] = [] := q1q Can.nil
 have n1 : q11 [(1, 4), (6, 12)] = [(1, 4), (6, 12)] := q1q ⟨by simp [qmx], by simp [okR]⟩
 have n2 : q11 [(2, 2)] = [(2, 2)] := q1q ⟨by simp, by simp [okR]⟩
 rw [qku h (by simp only [List.map_cons, List.map_nil, n0, n1, n2])]
 rfl
theorem qkq : q0o ⟨[1], []⟩ = true := by
 refine q5l.2 ?_
 unfold CanP
 have h : q25 [⟨[1], []⟩] = [[(1, 1)], [], [], [], [], [], [], [], [], [], [], [], [], [], [], []] := by decide
 have n0 : q11 [] = [] := q1q Can.nil
 have n1 : q11 [(1, 1)] = [(1, 1)] := q1q ⟨by simp, by simp [okR]⟩
 rw [qku h (by simp only [List.map_cons, List.map_nil, n0, n1])]
 rfl
theorem qkp : q83 ⟨[1], []⟩ ≠ 0 := by
 have h : q25 [⟨[1], []⟩] = [[(1, 1)], [], [], [], [], [], [], [], [], [], [], [], [], [], [], []] := by decide
 have n0 : q11 [] = [] := q1q Can.nil
 have n1 : q11 [(1, 1)] = [(1, 1)] := q1q ⟨by simp, by simp [okR]⟩
 unfold q83 q1x
 rw [h]
 have hr : List.range 16 = [0, 1, 2, 3, 4, 5, 6, 7, 8, 9, 10, 11, 12, 13, 14, 15] := rfl
 rw [hr]
 simp [n0, n1, qej, q16]
theorem z20 : q4j fixP = z21 := by
 have e1 : q1e [4] 0 [] = 6 := rfl
 have e2 : q1e [4] 1 [(0, 6, 12)] = 2 := rfl
 simp [q4j, qcy, q28, qcz, fixP, z21, q52, e1, e2, q3b]
theorem z23 : q5n qo1 = qfo := by
 have e0 : ByteArray.size ⟨#[65]⟩ = 1 := rfl
 simp [q5n, qa8, entB, qo1, qfo, qhn, q8f, q8u, q3b, e0]
theorem z1z : q5f qmk = qfn := by
 have e0 : ByteArray.size ⟨#[]⟩ = 0 := rfl
 simp [q5f, q89, recB, q4j, qcy, q28, qmk, qfn, q3b, e0]
theorem qcc : q4k qo1 = true := by
 refine q9c ⟨fun i e he => ?_, fun i a b ha hb => ?_⟩
 ·match i with
  | 0 =>
   simp [qo1] at he
   subst he
   decide
  | i + 1 => simp [qo1] at he
 ·match i with
  | 0 => simp [qo1] at hb
  | i + 1 => simp [qo1] at hb
theorem qcb : q4f qmk = true := by
 refine q9b ⟨fun i r he => ?_, fun i a b ha hb => ?_⟩
 ·match i with
  | 0 =>
   simp [qmk] at he
   subst he
   have e0 : ByteArray.size ⟨#[]⟩ = 0 := rfl
   simp [q3m, qkq, qkp, e0]
  | i + 1 => simp [qmk] at he
 ·match i with
  | 0 => simp [qmk] at hb
  | i + 1 => simp [qmk] at hb

def z4t : List SOp := [zO 2 (.assign (.const (.slice none 0 0)))]
instance : Live z4t := ⟨[0]⟩
def z4s : List SOp := [zM 3 0,zO 4 (.binOp .eql 28 (.tmp 3) (.const (.slice none 0 0)) 28)]
instance : Live z4s := ⟨[0]⟩
def z4r : List SOp := [zO 2 (.assign (.const (.slice none 0 0)))]
instance : Live z4r := ⟨[]⟩
def z4q : List SOp := [zO 5 (.buildSlice 28 0 #[]),zM 6 0,zO 7 (.call ⟨.builtin .append,#[.tmp 5,.tmp 6],#[28,28]⟩),zG 2 7]
instance : Live z4q := ⟨[0]⟩
def t_k94 : SC :=
 (.seq (.ops false z4t) (.seq (.seq (.ops false z4s) (.cond (.tmp 4) (.seq (.ops false z4r) .ret) .skip)) (.seq (.ops false z4q) .ret)))
theorem it_k94 : FnIs Tryz.prog 94 8 [.tmp 2] t_k94 := ⟨Tryz.f94, _, Tryz.func94, rfl, rfl, rfl, rfl, by kernel_rfl⟩

def z8s : List SOp := [zO 2 (.assign (.const (.slice none 0 0))),zO 3 (.assign (.const (.int .i64 0)))]
instance : Live z8s := ⟨[0]⟩
def z8r : List SOp := [zM 4 0,zO 5 (.binOp .eql 92 (.tmp 4) (.const (.pointer none)) 92),zM 6 5,⟨some 7,.move (.tmp 0),some ((some 6),false)⟩,⟨some 8,.nilCheck (.tmp 7),some ((some 6),false)⟩,⟨some 9,.fieldAddr 91 (.tmp 8) 1,some ((some 6),false)⟩,⟨some 10,.load 4 (.tmp 9),some ((some 6),false)⟩,zO 11 (.pick (.tmp 6) (.const (.bool true)) (.tmp 10))]
instance : Live z8r := ⟨[0]⟩
def z8q : List SOp := [zO 2 (.assign (.const (.slice none 0 0))),zO 3 (.assign (.const (.int .i64 2)))]
instance : Live z8q := ⟨[]⟩
def z8p : List SOp := [zM 12 0,zO 13 (.nilCheck (.tmp 12)),zF 14 91 13 0,zL 15 28 14,zO 16 (.call ⟨.value (.func 94),#[.tmp 15],#[28]⟩),zG 2 16,zO 3 (.assign (.const (.int .i64 0)))]
instance : Live z8p := ⟨[0]⟩
def t_k48 : SC :=
 (.seq (.ops false z8s) (.seq (.seq (.ops false z8r) (.cond (.tmp 11) (.seq (.ops false z8q) .ret) .skip)) (.seq (.ops false z8p) .ret)))
theorem it_k48 : FnIs Tryz.prog 48 17 [.tmp 2, .tmp 3] t_k48 := ⟨Tryz.f48, _, Tryz.func48, rfl, rfl, rfl, rfl, by kernel_rfl⟩

def z91 : List SOp := [zO 0 (.assign (.const (.pointer none)))]
instance : Live z91 := ⟨[]⟩
def z90 : List SOp := [zO 1 (.build 91 #[]),zO 2 (.box 91 (.tmp 1)),zG 0 2]
instance : Live z90 := ⟨[]⟩
def t_k46 : SC :=
 (.seq (.ops false z91) (.seq (.ops false z90) .ret))
theorem it_k46 : FnIs Tryz.prog 46 3 [.tmp 0] t_k46 := ⟨Tryz.f46, _, Tryz.func46, rfl, rfl, rfl, rfl, by kernel_rfl⟩

def zby : List SOp := [zO 1 (.box 25 (.tmp 0)),zO 2 (.assign (.const (.slice none 0 0))),zO 3 (.assign (.const (.int .i64 0)))]
instance : Live zby := ⟨[0]⟩
def zbx : List SOp := [zL 5 25 1,zO 6 (.call ⟨.value (.func 45),#[.tmp 5],#[25]⟩),zO 7 (.unOp .not 4 (.tmp 6))]
instance : Live zbx := ⟨[1]⟩
def zbw : List SOp := [zO 2 (.assign (.const (.slice none 0 0))),zO 3 (.assign (.const (.int .i64 1)))]
instance : Live zbw := ⟨[]⟩
def zbv : List SOp := [zO 8 (.call ⟨.value (.func 46),#[],#[]⟩),zO 9 (.nilCheck (.tmp 8)),zL 10 91 9,zO 11 (.build 95 #[(0,.tmp 10)]),zO 4 (.alloc 95),⟨none,.store 95 (.tmp 4) (.tmp 11),none⟩]
instance : Live zbv := ⟨[1]⟩
def qnk : List SOp := [zL 12 25 1,zO 13 (.call ⟨.value (.func 47),#[.tmp 4,.tmp 12],#[95,25]⟩)]
instance : Live qnk := ⟨[1,4]⟩
def zbu : List SOp := [zF 14 95 4 0,zO 15 (.call ⟨.value (.func 48),#[.tmp 14],#[91]⟩),zX 16 15 0,zX 17 15 1,zG 2 16,zG 3 17]
instance : Live zbu := ⟨[4]⟩
def t_k12 : SC :=
 (.seq (.ops false zby) (.seq (.seq (.ops false zbx) (.cond (.tmp 7) (.seq (.ops false zbw) .ret) .skip)) (.seq (.ops false zbv) (.seq (.ops false qnk) (.seq (.ops false zbu) .ret)))))
theorem it_k12 : FnIs Tryz.prog 12 18 [.tmp 2, .tmp 3] t_k12 := ⟨Tryz.f12, _, Tryz.func12, rfl, rfl, rfl, rfl, by kernel_rfl⟩



theorem ev_k94 (b : Bs) (h0 : b ≠ []) (hl : b.length ≤ 900000000000) : Ev (En Tryz.prog rfl).P 94 [.sl 1 (q1k b)] (.ret (.sl 1 (q1k b))) := by
 refine Ev.of_body it_k94 (by simp) (Run.start ?_)
 unfold t_k94
 cases b with
 | nil => exact absurd rfl h0
 | cons x l =>
  have e1 : q1k (x :: l) = .int .u8 (x.toNat : Int) :: q1k l := rfl
  have e2 : (q1k l).length = l.length := q18 l
  have e3 : (l.length + 1 ≤ 70368744177664) = True := by simp only [eq_iff_iff, iff_true]; simp at hl; omega
  have e4 : (l.length + 1 ≤ 4611686018427387904) = True := by simp only [eq_iff_iff, iff_true]; simp at hl; omega
  rw [e1]
  (focus (have hF := (aI @e2 (aI @e3 @e4)); (repeat' (first | refine go0 (k:=?_) | fail)); all_goals clear hF))
  exact Fin.tmp' rfl (q0e (x :: l))
theorem em_Done (b : Bs) (h0 : b ≠ []) (hl : b.length ≤ 900000000000) : EvM (En Tryz.prog rfl).P 48 [.ptr 900000 0] [(900000, wrC b)] (.ret (.tup [.sl 1 (q1k b), .int .i64 0])) [(900000, [.hole, .bool false])] := by
 refine EvM.of_body it_k48 (by simp) (fun k => by rw [q31, q31]) (fun q hq => by rw [List.mem_singleton.1 hq]; exact (by decide : 900000 < q53)) (fun q hq x hx => by
  rw [List.mem_singleton.1 hq] at hx
  simp only [List.mem_cons, List.not_mem_nil, or_false] at hx
  rcases hx with rfl | rfl <;> rfl) fun β => ?_
 have e0 : lnt [(900000, wrC b)] β = [(900000, .cells (wrC b)), (1900000, .note (.ptr 900000 0) (q38 (β 900000)))] := by
  simp only [lnt, q53, List.flatMap_cons, List.flatMap_nil, List.cons_append, List.nil_append, List.append_nil, Nat.reduceAdd]
 rw [e0]
 refine Run.start ?_
 unfold t_k48
 have e1 := q18 b
 (focus (have hF := (aI @q65 @e1); (repeat' (first | refine go1 (k:=?_) | with_reducible refine Ny.of ?_ ?_ | (refine Hyp.of ?_; intro hc; (try simp only [hc]); (try simp only [Bh] at hc)))); all_goals clear hF))
 refine z3c (fun j => j == 15) [.sl 1 (q1k b)] (he := ev_k94 b h0 hl) (k:=?_)
 (focus (have hF := (aI @q65 @e1); (repeat' (first | refine go1 (k:=?_) | with_reducible refine Ny.of ?_ ?_ | (refine Hyp.of ?_; intro hc; (try simp only [hc]); (try simp only [Bh] at hc)))); all_goals clear hF))
 refine ⟨[.sl 1 (q1k b), .int .i64 0], rfl, by simp [q0i, AVal.stb, q0e], ⟨[.sl 1 (q1k b), .int .i64 0], ⟨.inl rfl, .inl rfl, trivial⟩, rfl⟩, fun p hp => ?_, fun p hp => ?_⟩
 ·rw [List.mem_singleton.1 hp]; rfl
 ·rw [List.mem_singleton.1 hp]; exact ⟨1900000, rfl⟩
theorem qlo : EvNew (En Tryz.prog rfl).P 46 [] [.nil, .bool false] := by
 refine EvNew.of_body it_k46 (by simp) (Run.start ?_)
 unfold t_k46
 (focus (have hF := @q00; (repeat' (first | refine go1 (k:=?_) | with_reducible refine Ny.of ?_ ?_ | (refine Hyp.of ?_; intro hc; (try simp only [hc]); (try simp only [Bh] at hc)))); all_goals clear hF))
 exact ⟨2, rfl, rfl, rfl⟩
def putR (ok : Bool) (b : Bs) : AVal := .tup [.sl 1 (q1k (if ok = true then b else [])), .int .i64 (if ok = true then 0 else 1)]
theorem zch {p : Pst} (h : PW p) : (q4j p).length ≤ 20 + 10 * p.vec.length + 30 * p.cloud.length := by
 have h1 := qos (l := p.vec) (fun x hx => by have := h.v x hx; omega)
 have h2 := q9h h p.cloud.length (Nat.le_refl _)
 rw [List.take_length] at h2
 have hv := h.vl
 have hc := h.cl
 have a1 := q1g (n := p.vec.length) (by omega)
 have a2 := q1g (n := p.cloud.length) (by omega)
 simp only [q4j, List.length_append]
 omega
theorem ev_k12 (p : Pst) (hw : wt p ≤ 40000000) (h : q0o p = true → PW p) : Ev (En Tryz.prog rfl).P 12 [q10 p] (.ret (putR (q0o p) (q4j p))) := by
 refine Ev.of_body it_k12 (by simp) (Run.start ?_)
 unfold t_k12 q10
 generalize hx : SC.ops false qnk = X
 (focus (have hF := @q00; (repeat' (first | refine go1 (k:=?_) | with_reducible refine Ny.of ?_ ?_ | (refine Hyp.of ?_; intro hc; (try simp only [hc]); (try simp only [Bh] at hc)))); all_goals clear hF))
 refine q05 [q10 p] (he := zdm p hw) (k:=?_)
 cases hn : q0o p with
 | false =>
  (focus (have hF := @q00; (repeat' (first | refine go1 (k:=?_) | with_reducible refine Ny.of ?_ ?_ | (refine Hyp.of ?_; intro hc; (try simp only [hc]); (try simp only [Bh] at hc)))); all_goals clear hF))
  exact Fin.two rfl rfl rfl rfl (.inr ⟨rfl, 1, rfl⟩) (.inl rfl)
 | true =>
  have hp := h hn
  (focus (have hF := @q00; (repeat' (first | refine go1 (k:=?_) | with_reducible refine Ny.of ?_ ?_ | (refine Hyp.of ?_; intro hc; (try simp only [hc]); (try simp only [Bh] at hc)))); all_goals clear hF))
  refine stNew [] (he := qlo) (k:=?_)
  (focus (have hF := @q00; (repeat' (first | refine go1 (k:=?_) | with_reducible refine Ny.of ?_ ?_ | (refine Hyp.of ?_; intro hc; (try simp only [hc]); (try simp only [Bh] at hc)))); all_goals clear hF))
  refine Run.wk (Wk.own_cells (k := 4) (cs' := wrC []) rfl rfl fun i x y hx hy => ?_) ?_
  ·match i with
   | 0 => simp at hx; simp [wrC] at hy; subst hx; subst hy; exact .inr ⟨rfl, 1, rfl⟩
   | 1 => simp at hx; simp [wrC] at hy; subst hx; subst hy; exact .inl rfl
   | i + 2 => simp at hx
  subst hx
  (focus (have hF := @q65; (repeat' (first | refine go1 (k:=?_) | with_reducible refine Ny.of ?_ ?_ | (refine Hyp.of ?_; intro hc; (try simp only [hc]); (try simp only [Bh] at hc)))); all_goals clear hF))
  refine stWr 4 [q10 p] (he := ew_past [] p (by simp) hp) (kk := ?_)
  rw [List.nil_append]
  have h0 : q4j p ≠ [] := fun e => by
   have := congrArg List.length e
   have h1 := q1m p.vec.length
   simp only [q4j, List.length_append, List.length_nil] at this
   omega
  (focus (have hF := @q65; (repeat' (first | refine go1 (k:=?_) | with_reducible refine Ny.of ?_ ?_ | (refine Hyp.of ?_; intro hc; (try simp only [hc]); (try simp only [Bh] at hc)))); all_goals clear hF))
  refine q5t 900000 4 (f := 48) (by with_unfolding_all rfl) (by with_unfolding_all rfl) (by with_unfolding_all rfl) (by with_unfolding_all rfl) (by with_unfolding_all rfl) (qge _) rfl (by simp [AVal.stb, q0i, q0e]) (em_Done (q4j p) h0 (by have := zch hp; have := hp.vl; have := hp.cl; omega)) ?_
  dsimp only [AS.put]
  (focus (have hF := @q65; (repeat' (first | refine go1 (k:=?_) | with_reducible refine Ny.of ?_ ?_ | (refine Hyp.of ?_; intro hc; (try simp only [hc]); (try simp only [Bh] at hc)))); all_goals clear hF))
  exact Fin.two rfl (q0e _) rfl rfl (.inl rfl) (.inl rfl)

theorem z05 (p : Pst) : 3 * p.cloud.length ≤ (q4j p).length := by
 have := q6o p.vec p.cloud []
 simp only [q4j, List.length_append]
 omega
theorem St.le' {b x : Bs} {p q : Nat} (h : St b p x q) : x.length ≤ b.length := by
 have := h.1
 have := h.2.1
 omega
theorem qam {b : Bs} {p : Pst} {s q : Nat} (h : q1f b s = .ok (p, q)) : wt p ≤ 16 + b.length ∧ q ≤ b.length := by
 obtain ⟨h1, h2⟩ := qbo h
 have h3 := z05 p
 have h4 := h1.le'
 have h5 := h2.vl
 exact ⟨by unfold wt; omega, h1.le⟩
theorem rPast_wt (b : Bs) : wt (rdV ⟨[], []⟩ (q1f b 0)) ≤ 16 + b.length := by
 cases hr : q1f b 0 with
 | error q => exact Nat.le_trans (Nat.zero_le _) (Nat.le_refl _)
 | ok q => exact (qam (q := q.2) (p := q.1) (by rw [hr])).1
theorem qlb : ∀ (l sf : List Ent), 4 * l.length ≤ (qa8 sf l).length
 | [], sf => by simp
 | e :: l, sf => by
  have := qlb l (sf ++ [e])
  have h1 := q1m (e.rep - qhn sf).toNat
  have h2 := q1m (e.num - q8u sf e).toNat
  have h3 := q1m e.sku.size
  have h4 := q1m (e.qty - 1).toNat
  simp only [qa8, entB, List.length_append, List.length_cons]
  omega
theorem q5g {b : Bs} {l : List Ent} {s q : Nat} (h : q0a b s = .ok (l, q)) : l.length ≤ b.length ∧ q ≤ b.length := by
 obtain ⟨h1, h2⟩ := q9w h
 have h3 := qlb l []
 have h4 := h1.le'
 simp only [q5n, List.length_append] at h4
 exact ⟨by omega, h1.le⟩
theorem qkm (b : Bs) : (rdV [] (q0a b 0)).length ≤ b.length := by
 cases hr : q0a b 0 with
 | error q => exact Nat.zero_le _
 | ok q => exact (q5g (q := q.2) (l := q.1) (by rw [hr])).1
theorem z3v {l : List Rec} {r : Rec} (h : r ∈ l) : (recB r).length ≤ (q89 l).length := by
 induction l with
 | nil => cases h
 | cons x l ih =>
  simp only [q89, List.flatMap_cons, List.length_append]
  rcases List.mem_cons.1 h with rfl | h
  ·omega
  ·have := ih h
   simp only [q89] at this
   omega
theorem qho : ∀ l : List Rec, l.length ≤ (q89 l).length
 | [] => Nat.zero_le _
 | r :: l => by
  have h1 := qho l
  have h2 := q1m r.sku.size
  have h3 : 1 ≤ (recB r).length := by simp only [recB, List.length_append]; omega
  simp only [q89, List.flatMap_cons, List.length_append, List.length_cons] at h1 ⊢
  omega
theorem q4b {b : Bs} {l : List Rec} {s q : Nat} (h : q08 b s = .ok (l, q)) : l.length ≤ b.length ∧ (∀ r ∈ l, wt r.past ≤ 16 + b.length) ∧ q ≤ b.length := by
 obtain ⟨h1, h2⟩ := q9u h
 have h3 := qho l
 have h4 := h1.le'
 simp only [q5f, List.length_append] at h4
 refine ⟨by omega, fun r hr => ?_, h1.le⟩
 have h5 := z3v hr
 have h6 := z05 r.past
 have h7 := (h2 r hr).2.vl
 simp only [recB, List.length_append] at h5
 unfold wt
 omega
theorem qkj (b : Bs) : (rdV [] (q08 b 0)).length ≤ b.length ∧ ∀ r ∈ rdV [] (q08 b 0), wt r.past ≤ 16 + b.length := by
 cases hr : q08 b 0 with
 | error q => exact ⟨Nat.zero_le _, fun r hr => by cases hr⟩
 | ok q =>
  have := q4b (q := q.2) (l := q.1) (by rw [hr])
  exact ⟨this.1, this.2.1⟩
theorem q6e {α : Type} {z : α} {ok : α → Bool} {b : Bs} {r : Rs α} (hz : noZ r) (hle : ∀ x a, r = .ok (x, a) → a ≤ b.length) :
 (ql3 z ok b r = 0 ∧ ok (qmj z ok b r) = true ∧ r = .ok (qmj z ok b r, b.length)) ∨ (ql3 z ok b r = 8 ∧ qmj z ok b r = z ∧ ∀ x, r = .ok (x, b.length) → ok x = false) := by
 unfold ql3 qmj
 cases hb : (qcv b r && ok (rdV z r)) with
 | true =>
  simp only [Bool.and_eq_true] at hb
  obtain ⟨h1, h2⟩ := hb
  obtain ⟨x, hx⟩ := (qpx hz hle).1 h1
  have hv : rdV z r = x := by rw [hx]; rfl
  rw [hv] at h2 ⊢
  exact .inl ⟨rfl, h2, hx⟩
 | false =>
  refine .inr ⟨rfl, rfl, fun x hx => ?_⟩
  have h1 := (qpx hz hle).2 ⟨x, hx⟩
  have hv : rdV z r = x := by rw [hx]; rfl
  rw [h1, hv] at hb
  simpa using hb

structure Kd (α : Type) where
 z : α
 ok : α → Bool
 rd : Bs → Rs α
 nz : ∀ b, noZ (rd b)
 le : ∀ b x a, rd b = .ok (x, a) → a ≤ b.length
 ext : ∀ b c x q, b.length + c.length ≤ 900000000 → ok x = true → rd b = .ok (x, q) → rd (b ++ c) = .ok (x, q)
def Kd.tk {α : Type} (k : Kd α) (b : Bs) : Bool := decide (ql3 k.z k.ok b (k.rd b) = 0)
theorem Kd.taken {α : Type} (k : Kd α) {b : Bs} (h : k.tk b = true) : ∃ x, k.ok x = true ∧ k.rd b = .ok (x, b.length) := by
 have h0 : ql3 k.z k.ok b (k.rd b) = 0 := by simpa [Kd.tk] using h
 rcases q6e (z := k.z) (ok := k.ok) (k.nz b) (k.le b) with ⟨_, h1, h2⟩ | ⟨h1, _⟩
 ·exact ⟨_, h1, h2⟩
 ·omega
theorem Kd.more {α : Type} (k : Kd α) {b c : Bs} {x : α} (hb : b.length + c.length ≤ 900000000) (h : k.rd b = .ok (x, b.length)) (ho : k.ok x = true) (hc : c ≠ []) : k.tk (b ++ c) = false := by
 cases ht : k.tk (b ++ c) with
 | false => rfl
 | true =>
  obtain ⟨y, _, hy⟩ := k.taken ht
  rw [k.ext b c x _ hb ho h] at hy
  simp only [Except.ok.injEq, Prod.mk.injEq, List.length_append] at hy
  have : 0 < c.length := List.length_pos_iff.2 hc
  omega
def kd1 : Kd Pst := ⟨⟨[], []⟩, q0o, fun b => q1f b 0, fun b => qan b 0, fun b x a h => (qam h).2, fun b c x q hb ho h => by
 obtain ⟨h1, h2⟩ := qbo h
 exact qkk (h1.ext c) h2 (by rw [List.length_append]; omega)⟩
noncomputable def kd2 : Kd (List Ent) := ⟨[], q4k, fun b => q0a b 0, fun b => q7n b 0, fun b x a h => (q5g h).2, fun b c x q hb ho h => by
 obtain ⟨h1, h2⟩ := q9w h
 exact q9v (h1.ext c) h2 (qfl ho) (by rw [List.length_append]; omega)⟩
noncomputable def kd3 : Kd (List Rec) := ⟨[], q4f, fun b => q08 b 0, fun b => q7l b 0, fun b x a h => (q4b h).2.2, fun b c x q hb ho h => by
 obtain ⟨h1, h2⟩ := q9u h
 exact q9t (h1.ext c) h2 (fun r hr => (qar ho r hr).2) (by rw [List.length_append]; omega)⟩
noncomputable def tkK (kind : Nat) (b : Bs) : Bool := if kind = 1 then kd1.tk b else if kind = 2 then kd2.tk b else kd3.tk b
structure WholeB (kind : Nat) (b : Bs) : Prop where
 l : b.length ≤ 109000000
 no : ∀ n, n < b.length → tkK kind (b.take n) = false
 more : ∀ c, tkK kind (b ++ [c]) = false
 yes : tkK kind b = true

def FrQ (t : Tmp) (sz : Nat) (xs : List AVal) : Ex → AS → Prop
 | .ret, s => ∃ k e, s.T t = .os k e ∧ s.M k = some (.arr e sz xs) ∧ q0i xs = true
 | _, _ => False
theorem EvFresh.of_body {E : Env} {f : FuncId} {n : Nat} {t : Tmp} {sc : SC} (hf : FnIs E.P f n [.tmp t] sc) {args xs : List AVal} {sz : Nat} (hl : args.length ≤ n)
 (h : AW E n sc (FrQ t sz xs) ⟨q41 args, NoM⟩) : EvFresh E.P f args sz xs := by
 obtain ⟨fn, c, h1, h2, h3, rfl, hrs, h6⟩ := hf
 refine ⟨⟨fn, h1, h2, by simp [h3]⟩, fun B w vs G hG hsz hv hB => ?_⟩
 refine calls_of_wp h1 h3 ?_
 have hR : Rel fn.ntmps B G ⟨q41 args, NoM⟩ { tmps := vs ++ Array.replicate (fn.ntmps - vs.size) undef, defers := [] } w := by
  refine ⟨by simp; omega, rfl, fun t => ?_, fun k blk hk => by simp [NoM] at hk, fun b hb => ⟨hB b hb, hG b⟩, fun b hb => absurd (hG b) hb⟩
  simp only [q41]
  cases ht : args[t]? with
  | none => exact .undef _
  | some x =>
   have hlt : t < vs.size := by
    rw [hsz]
    rcases Nat.lt_or_ge t args.length with h' | h'
    ·exact h'
    ·rw [List.getElem?_eq_none h'] at ht; cases ht
   have : (vs ++ Array.replicate (fn.ntmps - vs.size) undef).getD t undef = vs[t] := by
    rw [Array.getD_eq_getD_getElem?, Array.getElem?_append_left hlt]
    simp [hlt]
   simp only [Option.getD_some, this]
   exact hv t x _ ht (by simp [hlt])
 refine h c h6 B G _ w hR _ fun e s a' w' G' hA hR' hq => ?_
 cases e with
 | normal => exact hq.elim
 | exit id => exact hq.elim
 | pan x => exact hq.elim
 | ret =>
  obtain ⟨k, e, q1, q2, q3⟩ := hq
  have hx := hR'.temps t
  rw [q1] at hx
  have e1 : a'.tmps.getD t undef = G'.hd k e := by generalize a'.tmps.getD t undef = q at hx; cases hx with | os _ _ _ v hv => exact hv
  have hb : OwnAt (Dm s.M) G' B w' (.arr k) sz xs (G'.hd k e) := hR'.mem k _ q2
  let G2 : Gh := { G' with ow := fun b => if G'.ow b = some (.arr k) then some (.arr k) else none }
  have g2 : ∀ b, G'.ow b = none → G2.ow b = none := fun b hb => by simp [G2, hb]
  refine ⟨hR'.defers, _, qbk hrs a'.tmps w', G2, G'.hd k e, .arr k, by rw [e1], ⟨hA.os, hA.tape, hA.output, hA.size, fun b hb ho => ⟨(hA.keep b hb ho).1, g2 b (hA.keep b hb ho).2⟩⟩, fun b hb' => hR'.ol b fun hn => hb' (g2 b hn), ?_⟩
  exact hb.trade (fun b hb ho => ⟨hb, by simp [G2, ho]⟩) fun x hx u hr => hr.stable (fun b _ hn ho => ⟨rfl, hn, g2 b ho⟩) (q2j q3 x hx)

def z89 : List SOp := [zO 4 (.assign (.const (.slice none 0 0)))]
instance : Live z89 := ⟨[0,1]⟩
def z88 : List SOp := [zM 5 1,zO 6 (.binOp .gtr 3 (.tmp 5) (.const (.int .i64 127)) 3)]
instance : Live z88 := ⟨[0,1]⟩
def z87 : List SOp := [zM 7 0,zM 8 1,zO 9 (.binOp .rem 3 (.tmp 8) (.const (.int .i64 128)) 3),zO 10 (.binOp .add 3 (.tmp 9) (.const (.int .i64 128)) 3),zO 11 (.convert 3 5 (.tmp 10)),zO 12 (.buildSlice 28 1 #[(0,.tmp 11)]),zO 13 (.call ⟨.builtin .append,#[.tmp 7,.tmp 12],#[28,28]⟩),zG 0 13]
instance : Live z87 := ⟨[0,1]⟩
def z86 : List SOp := [zM 14 1,zO 15 (.binOp .quo 3 (.tmp 14) (.const (.int .i64 128)) 3),zG 1 15]
instance : Live z86 := ⟨[0,1]⟩
def z85 : List SOp := [zM 16 0,zM 17 1,zO 18 (.convert 3 5 (.tmp 17)),zO 19 (.buildSlice 28 1 #[(0,.tmp 18)]),zO 20 (.call ⟨.builtin .append,#[.tmp 16,.tmp 19],#[28,28]⟩),zG 4 20]
instance : Live z85 := ⟨[0,1]⟩
def qp9 : SC :=
 (.seq (.seq (.ops false z88) (.cond (.tmp 6) .skip (.exit 0))) (.block 1 (.seq (.ops false z87) (.ops false z86))))
def t_k55 : SC :=
 (.seq (.ops false z89) (.seq (.block 0 (.loop qp9)) (.seq (.ops false z85) .ret)))
theorem it_k55 : FnIs Tryz.prog 55 21 [.tmp 4] t_k55 := ⟨Tryz.f55, _, Tryz.func55, rfl, rfl, rfl, rfl, by kernel_rfl⟩


theorem qn1 (b : Bs) (n : Nat) (hb : b.length ≤ 900000000000) (hn : n < 9223372036854775808) {Q : Ex → AS → Prop} (hQ : ∀ (s : AS) (e : Nat), s.T 4 = .os 0 e → s.M 0 = some (.arr e 1 (q1k (b ++ q20 n))) → Q .ret s) :
 Run (En Tryz.prog rfl) 21 Q t_k55 .done ⟨tms [(0, .os 0 0), (1, .int .i64 (n : Int))], mms [(0, .arr 0 1 (q1k b))]⟩ := by
 have hlen := q1g hn
 unfold t_k55
 have e1 := q18 b
 (focus (have hF := @e1; (repeat' (first | refine go1 (k:=?_) | with_reducible refine Ny.of ?_ ?_ | (refine Hyp.of ?_; intro hc; (try simp only [hc]); (try simp only [Bh] at hc)))); all_goals clear hF))
 refine Run.while (σ := Bs × Nat) (fun z => ⟨tms [(0, .os 0 (z.1.length - b.length)), (1, .int .i64 (z.2 : Int))], mms [(0, .arr (z.1.length - b.length) 1 (q1k z.1))]⟩) (fun z => b.length ≤ z.1.length ∧ z.2 < 9223372036854775808 ∧ z.1 ++ q20 z.2 = b ++ q20 n) (fun z => z.2) (b, n) (have hW := True.intro; q0t) ⟨Nat.le_refl _, hn, rfl⟩ ?_
 rintro ⟨c, m⟩ ⟨hc, hm, hcm⟩
 simp only at hc hm hcm
 unfold qp9
 have e2 := q18 c
 have hcl : c.length ≤ b.length + 10 := by
  have := congrArg List.length hcm
  simp only [List.length_append] at this
  omega
 by_cases hlt : m < 128
 ·have hl2 : ¬ (m : Int) > 127 := by omega
  rw [q3b hlt] at hcm
  have w1 : IntKind.u8.wrap (m : Int) = ((UInt8.ofNat m).toNat : Int) := by rw [qot (by omega)]; exact z2x (by omega)
  (focus (have hF := (aI (aI @e2 @hl2) (aI @w1 @q8r)); (repeat' (first | refine go1 (k:=?_) | with_reducible refine Ny.of ?_ ?_ | (refine Hyp.of ?_; intro hc; (try simp only [hc]); (try simp only [Bh] at hc)))); all_goals clear hF))
  rw [hcm]
  exact Fin.done (hQ _ _ rfl rfl)
 ·have hl2 : (m : Int) > 127 := by omega
  rw [q6a hlt] at hcm
  have hr : ((m : Int).tmod 128) = ((m % 128 : Nat) : Int) := by rw [Int.tmod_eq_emod_of_nonneg (by omega)]; omega
  have hq : ((m : Int).tdiv 128) = ((m / 128 : Nat) : Int) := by rw [Int.tdiv_eq_ediv_of_nonneg (by omega)]; omega
  have w1 : IntKind.i64.wrap (((m % 128 : Nat) : Int) + 128) = ((m % 128 + 128 : Nat) : Int) := by rw [q0b (by omega)]; omega
  have w2 : IntKind.u8.wrap ((m % 128 + 128 : Nat) : Int) = ((UInt8.ofNat (m % 128 + 128)).toNat : Int) := by rw [qot (by omega)]; rw [z2x (by omega)]
  have w3 : IntKind.i64.wrap ((m % 128 : Nat) : Int) = ((m % 128 : Nat) : Int) := q0b (by omega)
  have w4 : IntKind.i64.wrap ((m / 128 : Nat) : Int) = ((m / 128 : Nat) : Int) := q0b (by omega)
  (focus (have hF := (aI (aI (aI @e2 @hl2) (aI @hr @hq)) (aI (aI @w1 @w2) (aI @w3 (aI @w4 @q8r)))); (repeat' (first | refine go1 (k:=?_) | with_reducible refine Ny.of ?_ ?_ | (refine Hyp.of ?_; intro hc; (try simp only [hc]); (try simp only [Bh] at hc)))); all_goals clear hF))
  have hl3 : c.length + 1 - b.length = c.length - b.length + 1 := by omega
  (refine Fin.nextW ((c ++ [UInt8.ofNat (m % 128 + 128)], m / 128)) ?_ (have hW := @hl3; q0t); (try dsimp only))
  refine ⟨⟨by simp only [List.length_append, List.length_singleton]; omega, by omega, ?_⟩, by omega⟩
  simpa using hcm
theorem qcg (n : Nat) (hn : n < 9223372036854775808) : EvFresh (En Tryz.prog rfl).P 55 [.nil, .int .i64 (n : Int)] 1 (q1k (q20 n)) := by
 refine EvFresh.of_body it_k55 (by simp) (Run.start ?_)
 refine Run.wk (Wk.trans (Wk.own_nil 0 0 1 rfl rfl) (have hW := True.intro; q0t)) (qn1 [] n (by simp) hn fun s e h1 h2 => ⟨0, e, h1, h2, q0e _⟩)

def z6h : List SOp := [zO 4 (.assign (.const (.int .i64 0)))]
instance : Live z6h := ⟨[0,1]⟩
def z6g : List SOp := [zO 5 (.assign (.const (.int .i64 0))),zO 6 (.assign (.const (.int .i64 1)))]
instance : Live z6g := ⟨[0,1]⟩
def z6f : List SOp := [zM 10 0,zO 11 (.nilCheck (.tmp 10)),zF 12 123 11 1,zL 13 3 12,zG 7 13]
instance : Live z6f := ⟨[0,1,5,6]⟩
def z6e : List SOp := [zO 8 (.assign (.const (.int .i64 0)))]
instance : Live z6e := ⟨[0,1,5,6,7]⟩
def z6d : List SOp := [zM 14 8,zO 15 (.binOp .lss 3 (.tmp 14) (.const (.int .i64 6)) 3),zM 16 15,⟨some 17,.move (.tmp 0),some ((some 16),true)⟩,⟨some 18,.nilCheck (.tmp 17),some ((some 16),true)⟩,⟨some 19,.fieldAddr 123 (.tmp 18) 2,some ((some 16),true)⟩,⟨some 20,.load 4 (.tmp 19),some ((some 16),true)⟩,⟨some 21,.unOp .not 4 (.tmp 20),some ((some 16),true)⟩,zO 22 (.pick (.tmp 16) (.tmp 21) (.const (.bool false)))]
instance : Live z6d := ⟨[0,1,5,6,7,8]⟩
def z6c : List SOp := [zM 25 0,zO 26 (.nilCheck (.tmp 25)),zF 27 123 26 1,zL 28 3 27,zM 29 0,zO 30 (.nilCheck (.tmp 29)),zF 31 123 30 0,zL 32 28 31,zO 33 (.call ⟨.builtin .len,#[.tmp 32],#[28]⟩),zO 34 (.binOp .geq 3 (.tmp 28) (.tmp 33) 3)]
instance : Live z6c := ⟨[0,1,5,6,7,8]⟩
def z6b : List SOp := [zM 35 0,zO 36 (.nilCheck (.tmp 35)),zF 37 123 36 2,⟨none,.store 4 (.tmp 37) (.const (.bool true)),none⟩]
instance : Live z6b := ⟨[0]⟩
def z6a : List SOp := [zO 4 (.assign (.const (.int .i64 0)))]
instance : Live z6a := ⟨[]⟩
def z69 : List SOp := [zM 38 0,zO 39 (.nilCheck (.tmp 38)),zF 40 123 39 0,zL 41 28 40,zM 42 0,zO 43 (.nilCheck (.tmp 42)),zF 44 123 43 1,zL 45 3 44,zI 46 28 41 45,zL 47 5 46,zO 48 (.convert 5 3 (.tmp 47)),zG 9 48]
instance : Live z69 := ⟨[0,1,5,6,7,8]⟩
def qqr : List SOp := [zM 49 0,zO 50 (.nilCheck (.tmp 49)),zF 51 123 50 1,zL 52 3 51,zO 53 (.binOp .add 3 (.tmp 52) (.const (.int .i64 1)) 3),zO 54 (.nilCheck (.tmp 49)),zF 55 123 54 1,⟨none,.store 3 (.tmp 55) (.tmp 53),none⟩]
instance : Live qqr := ⟨[0,1,5,6,7,8,9]⟩
def qqq : List SOp := [zM 56 5,zM 57 9,zO 58 (.binOp .rem 3 (.tmp 57) (.const (.int .i64 128)) 3),zM 59 6,zO 60 (.binOp .mul 3 (.tmp 58) (.tmp 59) 3),zO 61 (.binOp .add 3 (.tmp 56) (.tmp 60) 3),zG 5 61]
instance : Live qqq := ⟨[0,1,5,6,7,8,9]⟩
def qqp : List SOp := [zM 62 6,zO 63 (.binOp .mul 3 (.tmp 62) (.const (.int .i64 128)) 3),zG 6 63]
instance : Live qqp := ⟨[0,1,5,6,7,8,9]⟩
def qqo : List SOp := [zM 64 9,zO 65 (.binOp .lss 3 (.tmp 64) (.const (.int .i64 128)) 3)]
instance : Live qqo := ⟨[0,1,5,6,7,8,9]⟩
def qqn : List SOp := [zM 66 5,zM 67 1,zO 68 (.binOp .gtr 3 (.tmp 66) (.tmp 67) 3),zM 69 68,⟨some 70,.move (.tmp 5),some ((some 69),false)⟩,⟨some 71,.call ⟨.value (.func 55),#[.const (.slice none 0 0),.tmp 70],#[28,3]⟩,some ((some 69),false)⟩,⟨some 72,.call ⟨.builtin .len,#[.tmp 71],#[28]⟩,some ((some 69),false)⟩,⟨some 73,.move (.tmp 0),some ((some 69),false)⟩,⟨some 74,.nilCheck (.tmp 73),some ((some 69),false)⟩,⟨some 75,.fieldAddr 123 (.tmp 74) 1,some ((some 69),false)⟩,⟨some 76,.load 3 (.tmp 75),some ((some 69),false)⟩,⟨some 77,.move (.tmp 7),some ((some 69),false)⟩,⟨some 78,.binOp .sub 3 (.tmp 76) (.tmp 77) 3,some ((some 69),false)⟩,⟨some 79,.binOp .neq 3 (.tmp 72) (.tmp 78) 3,some ((some 69),false)⟩,zO 80 (.pick (.tmp 69) (.const (.bool true)) (.tmp 79))]
instance : Live qqn := ⟨[0,1,5,7]⟩
def qqm : List SOp := [zM 81 0,zO 82 (.nilCheck (.tmp 81)),zF 83 123 82 2,⟨none,.store 4 (.tmp 83) (.const (.bool true)),none⟩]
instance : Live qqm := ⟨[0]⟩
def qql : List SOp := [zO 4 (.assign (.const (.int .i64 0)))]
instance : Live qql := ⟨[]⟩
def qqk : List SOp := [zM 84 5,zG 4 84]
instance : Live qqk := ⟨[5]⟩
def qqj : List SOp := [zM 23 8,zO 24 (.binOp .add 3 (.tmp 23) (.const (.int .i64 1)) 3),zG 8 24]
instance : Live qqj := ⟨[0,1,5,6,7,8]⟩
def qqi : List SOp := [zM 85 0,zO 86 (.nilCheck (.tmp 85)),zF 87 123 86 2,⟨none,.store 4 (.tmp 87) (.const (.bool true)),none⟩]
instance : Live qqi := ⟨[0]⟩
def qqh : List SOp := [zO 4 (.assign (.const (.int .i64 0)))]
instance : Live qqh := ⟨[]⟩
def qea : SC :=
 (.seq (.seq (.ops false z6d) (.cond (.tmp 22) .skip (.exit 0))) (.seq (.block 1 (.seq (.seq (.ops true z6c) (.cond (.tmp 34) (.seq (.ops false z6b) (.seq (.ops false z6a) .ret)) .skip)) (.seq (.ops true z69) (.seq (.ops false qqr) (.seq (.ops false qqq) (.seq (.ops false qqp) (.seq (.ops false qqo) (.cond (.tmp 65) (.seq (.seq (.ops true qqn) (.cond (.tmp 80) (.seq (.ops false qqm) (.seq (.ops false qql) .ret)) .skip)) (.seq (.ops false qqk) .ret)) .skip)))))))) (.ops false qqj)))
def t_k86 : SC :=
 (.seq (.ops false z6h) (.seq (.ops false z6g) (.seq (.ops false z6f) (.seq (.seq (.ops false z6e) (.block 0 (.loop qea))) (.seq (.ops false qqi) (.seq (.ops false qqh) .ret))))))
theorem it_k86 : FnIs Tryz.prog 86 88 [.tmp 4] t_k86 := ⟨Tryz.f86, _, Tryz.func86, rfl, rfl, rfl, rfl, by kernel_rfl⟩

section
def scC (b : Bs) (a : Nat) (bad : Bool) : List AVal := [.sl 1 (q1k b), .int .i64 (a : Int), .bool bad]
theorem q04 (b : Bs) (a : Nat) (bad : Bool) : scC b a bad = [.sl 1 (q1k b), .int .i64 (a : Int), .bool bad] := rfl
theorem qpo (b : Bs) (a : Nat) (bad : Bool) : (scC b a bad).all q0j = true := by simp [scC, q0j, AVal.stb, q0e]
def EvS (P : Program) (f : FuncId) (args : List AVal) (b : Bs) (st : Nat × Bool) (v : AVal) (st' : Nat × Bool) : Prop := EvM P f (.ptr 900000 0 :: args) [(900000, scC b st.1 st.2)] (.ret v) [(900000, scC b st'.1 st'.2)]
def FnSc (TE : TyE) (rs : List ResultVar) (b : Bs) (x : AVal) (st' : Nat × Bool) (v : Value) : Ex → AS → Prop
 | .normal, s => (∃ xs, q1n KRd TE s rs = some xs ∧ q0i xs = true ∧ ∃ ys, qeg xs ys ∧ x = q75 ys) ∧ s.M 900000 = some (.cells (scC b st'.1 st'.2)) ∧ s.M 1900000 = some (nt v)
 | .ret, s => (∃ xs, q1n KRd TE s rs = some xs ∧ q0i xs = true ∧ ∃ ys, qeg xs ys ∧ x = q75 ys) ∧ s.M 900000 = some (.cells (scC b st'.1 st'.2)) ∧ s.M 1900000 = some (nt v)
 | _, _ => False
theorem EvS.of_body {E : Env} {f : FuncId} {n : Nat} {rs : List ResultVar} {sc : SC} (hf : FnIs E.P f n rs sc) {args : List AVal} {b : Bs} {st st' : Nat × Bool} {x : AVal} (hl : args.length + 1 ≤ n)
 (h : ∀ v, AW E n sc (FnSc E.TE rs b x st' v) ⟨q41 (.ptr 900000 0 :: args), mms [(900000, .cells (scC b st.1 st.2)), (1900000, nt v)]⟩) : EvS E.P f args b st x st' := by
 refine EvM.of_body hf (by simpa using hl) (fun k => by rw [q31, q31]) (fun q hq => by rw [List.mem_singleton.1 hq]; exact (by decide : 900000 < q53)) (fun q hq x hx => by
  rw [List.mem_singleton.1 hq] at hx; exact List.all_eq_true.1 (qpo b _ _) x hx) fun β => ?_
 refine AW.mono (h (q38 (β 900000))) fun e s hq => ?_
 have fin : s.M 900000 = some (.cells (scC b st'.1 st'.2)) → s.M 1900000 = some (nt (q38 (β 900000))) → FinM [(900000, scC b st.1 st.2)] [(900000, scC b st'.1 st'.2)] β s := fun h1 h2 =>
  ⟨fun q hq => by rw [List.mem_singleton.1 hq]; exact h1, fun q hq => ⟨1900000, by rw [List.mem_singleton.1 hq]; exact h2⟩⟩
 cases e with
 | normal =>
  obtain ⟨⟨xs, q1, q2, ys, q3, q4⟩, q5, q6⟩ := hq
  exact ⟨xs, by rw [q31]; exact q1, q2, ⟨ys, q3, by rw [q4]⟩, fin q5 q6⟩
 | ret =>
  obtain ⟨⟨xs, q1, q2, ys, q3, q4⟩, q5, q6⟩ := hq
  exact ⟨xs, by rw [q31]; exact q1, q2, ⟨ys, q3, by rw [q4]⟩, fin q5 q6⟩
 | exit _ => exact hq.elim
 | pan x => exact hq.elim
theorem FnSc.ret1 {E : Env} {n : Nat} {T : q12} {M : Mem} {t : Tmp} {b : Bs} {st' : Nat × Bool} {v : Value} {y x : AVal} (h : fz KRd M (T t) = y := by with_unfolding_all rfl) (hs : y.stb = true := by with_unfolding_all rfl) (hsub : sub1 y x := by exact .inl rfl)
 (h1 : M 900000 = some (.cells (scC b st'.1 st'.2)) := by with_unfolding_all rfl) (h2 : M 1900000 = some (nt v) := by with_unfolding_all rfl) : Fin E n (FnSc E.TE [.tmp t] b x st' v) .done .ret ⟨T, M⟩ :=
 ⟨⟨[y], by simp [q1n, q3a, h], by simp [q0i, hs], [x], ⟨hsub, trivial⟩, rfl⟩, h1, h2⟩
section
variable {E : Env} {n : Nat} {Q : Ex → AS → Prop} {k : Kont} {r : List SOp} {T : q12} {M : Mem} {t : Tmp} {x : Operand} {args : Array Operand} {ts : Array TypeId} {f : FuncId} {caps : List AVal} {b : Bs} {st st' : Nat × Bool} {v : AVal}
theorem qh7 (j : Nat) (args' : List AVal) (hf : ev T x = .fn f caps := by with_unfolding_all rfl) (hl : evs T args.toList ++ caps = .ptr j 0 :: args' := by with_unfolding_all rfl) (hM : M j = some (.cells (scC b st.1 st.2)) := by with_unfolding_all rfl)
 (hs : q0i args' = true := by with_unfolding_all rfl) (hv : v.stb = true := by first | with_unfolding_all rfl | simp [AVal.stb]) (he : EvS E.P f args' b st v st')
 (kk : q06 E false none Q r ⟨upd T t v, upd M j (some (.cells (scC b st'.1 st'.2)))⟩) : q06 E false none Q (⟨some t, .call ⟨.value x, args, ts⟩, none⟩ :: r) ⟨T, M⟩ := by
 have hk : q7t (fun i => i == j) (AVal.ptr j 0 :: args') = true := by
  simp [q7t, AVal.kin, (q1u (ρ := fun k => k) args' hs).2]
 have hr : q79 (fun _ => 900000) (AVal.ptr j 0 :: args') = .ptr 900000 0 :: args' := by
  simp [q79, AVal.ren, (q1u (ρ := fun _ => 900000) args' hs).1]
 exact q5t 900000 j hf hl hM hk hr (qpo b _ _) (qpo b _ _) hv he kk
theorem stScW {ws : List Nat} {Kk : Nat → Bool} (args' : List AVal) (hf : ev T x = .fn f caps := by with_unfolding_all rfl) (hl : evs T args.toList ++ caps = .ptr 900000 0 :: args' := by with_unfolding_all rfl) (hM : M 900000 = some (.cells (scC b st.1 st.2)) := by with_unfolding_all rfl)
 (hs : q0i args' = true := by with_unfolding_all rfl) (hv : v.stb = true := by first | with_unfolding_all rfl | simp [AVal.stb]) (hc : qaa ws (some t) (.call ⟨.value x, args, ts⟩) = .m := by with_unfolding_all rfl) (hK : Kk 900000 = false := by with_unfolding_all rfl) (he : EvS E.P f args' b st v st')
 (kk : q06 E true (some (ws, Kk)) Q r ⟨upd T t v, upd M 900000 (some (.cells (scC b st'.1 st'.2)))⟩) : q06 E true (some (ws, Kk)) Q (⟨some t, .call ⟨.value x, args, ts⟩, none⟩ :: r) ⟨T, M⟩ := by
 have hk : q7t (fun j => j == 900000) (evs T args.toList ++ caps) = true := by
  rw [hl]
  simp [q7t, AVal.kin, (q1u (ρ := fun k => k) args' hs).2]
 have hr : q79 (fun _ => 900000) (evs T args.toList ++ caps) = .ptr 900000 0 :: args' := by
  rw [hl]
  simp [q79, AVal.ren, (q1u (ρ := fun _ => 900000) args' hs).1]
 have hst : ∀ a : Nat × Bool, ∀ q ∈ [((900000 : Nat), scC b a.1 a.2)], ∀ x ∈ q.2, q0j x = true := fun a q hq x hx => by
  rw [List.mem_singleton.1 hq] at hx; exact List.all_eq_true.1 (qpo b _ _) x hx
 have hL : ∀ j, (j == 900000) = true → q5s j = true ∧ Kk j = false := fun j hj => by
  have := beq_iff_eq.1 hj
  subst this
  exact ⟨rfl, hK⟩
 have hm : ∀ (k : Nat) (cs : List AVal), q3v [(900000, scC b st.1 st.2)] k = some (.cells cs) → M 900000 = some (.cells cs) := fun k cs hk => by
  rw [q5j] at hk
  split at hk
  ·cases hk; exact hM
  ·cases hk
 obtain ⟨r1, r2⟩ := AVal.stb_ren (ρ := fun _ => 900000) v hv
 have key : CallsM E.P ⟨T, M⟩ (.call ⟨.value x, args, ts⟩) (fun j => j == 900000) (.ret v) (upd M 900000 (some (.cells (scC b st'.1 st'.2)))) :=
  ⟨x, args, ts, f, caps, [(900000, scC b st.1 st.2)], [(900000, scC b st'.1 st'.2)], fun _ => 900000, fun _ => 900000, .ret v, rfl, hf, fun j hj => ⟨q30.2 rfl, (beq_iff_eq.1 hj).symm⟩, fun j hj => ⟨rfl, (q30.1 hj).symm⟩, hm, hst st, hst st', hk, by rw [hr]; exact he, by rw [q4y], r2 _, by rw [r1]⟩
 exact .inr (.inr (.inr ⟨ws, Kk, fun j => j == 900000, .ret v, _, rfl, hc, hL, key, kk⟩))
end
def slN (b : Bs) (most fr : Nat) : (k n u a : Nat) → Nat × Nat × Bool
 | 0, _, _, a => (0, a, true)
 | k + 1, n, u, a => match b[a]? with
  | none => (0, a, true)
  | some c => if c.toNat < 128 then (if most < n + c.toNat % 128 * u ∨ (q20 (n + c.toNat % 128 * u)).length ≠ a + 1 - fr then (0, a + 1, true) else (n + c.toNat % 128 * u, a + 1, false)) else slN b most fr k (n + c.toNat % 128 * u) (u * 128) (a + 1)
def sN (most : Nat) (b : Bs) (st : Nat × Bool) : Nat × Nat × Bool := if st.2 = true then (0, st.1, true) else slN b most st.1 6 0 1 st.1
theorem q5z (most : Nat) (hmost : most ≤ 4400000000000) (b : Bs) (st : Nat × Bool) (hb : b.length ≤ 900000000000) (ha : st.1 ≤ b.length) : EvS (En Tryz.prog rfl).P 86 [.int .i64 (most : Int)] b st (.int .i64 ((sN most b st).1 : Int)) (sN most b st).2 := by
 obtain ⟨a0, bad⟩ := st
 simp only at ha
 refine EvS.of_body it_k86 (by simp) fun v => Run.start ?_
 unfold t_k86
 have e1 := q18 b
 (focus (have hF := (aI @q04 @e1); (repeat' (first | refine go1 (k:=?_) | with_reducible refine Ny.of ?_ ?_ | (refine Hyp.of ?_; intro hc; (try simp only [hc]); (try simp only [Bh] at hc)))); all_goals clear hF))
 cases bad with
 | true =>
  refine Run.while (σ := Unit) (fun _ => ⟨tms [(0, .ptr 900000 0), (1, .int .i64 (most : Int)), (5, .int .i64 0), (6, .int .i64 1), (7, .int .i64 (a0 : Int)), (8, .int .i64 0)], mms [(900000, .cells (scC b a0 true)), (1900000, nt v)]⟩) (fun _ => True) (fun _ => 0) () (have hW := @q04; q0t) trivial ?_
  intro _ _
  unfold qea
  (focus (have hF := (aI @q04 @e1); (repeat' (first | refine go1 (k:=?_) | with_reducible refine Ny.of ?_ ?_ | (refine Hyp.of ?_; intro hc; (try simp only [hc]); (try simp only [Bh] at hc)))); all_goals clear hF))
  exact FnSc.ret1
 | false =>
  have hR : sN most b (a0, false) = slN b most a0 6 0 1 a0 := rfl
  rw [hR]
  generalize hres : slN b most a0 6 0 1 a0 = res
  refine Run.while (σ := Nat × Nat × Nat) (fun z => ⟨tms [(0, .ptr 900000 0), (1, .int .i64 (most : Int)), (5, .int .i64 (z.2.1 : Int)), (6, .int .i64 (z.2.2 : Int)), (7, .int .i64 (a0 : Int)), (8, .int .i64 (z.1 : Int))], mms [(900000, .cells (scC b (a0 + z.1) false)), (1900000, nt v)]⟩)
   (fun z => z.1 ≤ 6 ∧ z.2.2 = 128 ^ z.1 ∧ z.2.1 < 128 ^ z.1 ∧ a0 + z.1 ≤ b.length ∧ slN b most a0 (6 - z.1) z.2.1 z.2.2 (a0 + z.1) = res) (fun z => 6 - z.1) (0, 0, 1) (have hW := @q04; q0t) ⟨by omega, rfl, by decide, ha, hres⟩ ?_
  rintro ⟨k, n, u⟩ ⟨hk, hu, hn, hle, hr⟩
  simp only at hk hu hn hle hr
  unfold qea
  by_cases hk6 : k < 6
  ·have hk6' : (k : Int) < 6 := by omega
   obtain ⟨m, hm⟩ : ∃ m, 6 - k = m + 1 := ⟨5 - k, by omega⟩
   rw [hm, slN] at hr
   have hp : 128 ^ k ≤ 128 ^ 5 := Nat.pow_le_pow_right (by decide) (by omega)
   have hp' : (128 : Nat) ^ 5 = 34359738368 := by decide
   have hps : (128 : Nat) ^ (k + 1) = 128 ^ k * 128 := Nat.pow_succ 128 k
   by_cases hend : b.length ≤ a0 + k
   ·rw [List.getElem?_eq_none hend] at hr
    have h1 : ((a0 + k : Nat) : Int) ≥ (b.length : Int) := by omega
    (focus (have hF := (aI (aI @q04 @e1) (aI @hk6' @h1)); (repeat' (first | refine go1 (k:=?_) | with_reducible refine Ny.of ?_ ?_ | (refine Hyp.of ?_; intro hc; (try simp only [hc]); (try simp only [Bh] at hc)))); all_goals clear hF))
    rw [← hr]
    exact FnSc.ret1
   ·obtain ⟨c, hc0⟩ : ∃ c, b[a0 + k]? = some c := ⟨b[a0 + k]'(by omega), List.getElem?_eq_getElem (by omega)⟩
    rw [hc0] at hr
    simp only at hr
    have g1 : (q1k b)[a0 + k]? = some (.int .u8 (c.toNat : Int)) := by
     unfold q1k
     rw [List.getElem?_map, hc0]
     rfl
    have h1 : ¬ ((a0 + k : Nat) : Int) ≥ (b.length : Int) := by omega
    have hcl := c.toNat_lt
    have hlt3 : a0 + k < b.length := by omega
    have w0 : IntKind.i64.wrap (c.toNat : Int) = (c.toNat : Int) := q0b (by omega)
    have w1 : IntKind.i64.wrap (((a0 + k : Nat) : Int) + 1) = ((a0 + (k + 1) : Nat) : Int) := by rw [q0b (by omega)]; omega
    have q1 : ((c.toNat : Int)).tmod 128 = ((c.toNat % 128 : Nat) : Int) := by rw [Int.tmod_eq_emod_of_nonneg (by omega)]; omega
    have w2 : IntKind.i64.wrap ((c.toNat % 128 : Nat) : Int) = ((c.toNat % 128 : Nat) : Int) := q0b (by omega)
    have hmu : c.toNat % 128 * u ≤ 127 * 34359738368 := Nat.mul_le_mul (by omega) (by omega)
    have w3 : IntKind.i64.wrap (((c.toNat % 128 : Nat) : Int) * (u : Int)) = ((c.toNat % 128 * u : Nat) : Int) := by
     rw [← Int.natCast_mul]
     exact q0b (by omega)
    have w4 : IntKind.i64.wrap ((n : Int) + ((c.toNat % 128 * u : Nat) : Int)) = ((n + c.toNat % 128 * u : Nat) : Int) := by rw [q0b (by omega)]; omega
    have w5 : IntKind.i64.wrap ((u : Int) * 128) = ((u * 128 : Nat) : Int) := by rw [q0b (by omega)]; omega
    have w6 : IntKind.i64.wrap ((k : Int) + 1) = ((k + 1 : Nat) : Int) := q0u (by omega)
    have hn' : n + c.toNat % 128 * u < 128 ^ (k + 1) := by
     rw [hps, hu]
     have : c.toNat % 128 * 128 ^ k ≤ 127 * 128 ^ k := Nat.mul_le_mul_right _ (by omega)
     omega
    have hu' : u * 128 = 128 ^ (k + 1) := by rw [hps, hu]
    have hbound : n + c.toNat % 128 * u < 9223372036854775808 := by omega
    generalize n + c.toNat % 128 * u = n' at *
    by_cases hlast : c.toNat < 128
    ·rw [if_pos hlast] at hr
     have hl2 : (c.toNat : Int) < 128 := by omega
     by_cases hgt : most < n'
     ·have hg : (n' : Int) > (most : Int) := by omega
      rw [if_pos (.inl hgt)] at hr
      (focus (have hF := (aI (aI (aI (aI @q04 @e1) (aI @hk6' @h1)) (aI (aI @g1 @hlt3) (aI @w0 @w1))) (aI (aI (aI @q1 @w2) (aI @w3 @w4)) (aI (aI @w5 @w6) (aI @hl2 @hg)))); (repeat' (first | refine go1 (k:=?_) | with_reducible refine Ny.of ?_ ?_ | (refine Hyp.of ?_; intro hc; (try simp only [hc]); (try simp only [Bh] at hc)))); all_goals clear hF))
      rw [← hr]
      exact FnSc.ret1
     ·have hg : ¬ (n' : Int) > (most : Int) := by omega
      have eL := q18 (q20 n')
      have hnl := q1g hbound
      have w7 : IntKind.i64.wrap (((a0 + (k + 1) : Nat) : Int) - (a0 : Int)) = ((k + 1 : Nat) : Int) := by rw [q0b (by omega)]; omega
      by_cases hlen : (q20 n').length = k + 1
      ·rw [if_neg (by rintro (h | h); exact hgt h; exact h (by omega))] at hr
       have hl3 : (((q20 n').length : Int) = ((k + 1 : Nat) : Int)) = True := eq_true (by omega)
       (focus (have hF := (aI (aI (aI (aI @q04 @e1) (aI @hk6' @h1)) (aI (aI @g1 @hlt3) (aI @w0 @w1))) (aI (aI (aI @q1 @w2) (aI @w3 @w4)) (aI (aI @w5 @w6) (aI @hl2 @hg)))); (repeat' (first | refine go1 (k:=?_) | with_reducible refine Ny.of ?_ ?_ | (refine Hyp.of ?_; intro hc; (try simp only [hc]); (try simp only [Bh] at hc)))); all_goals clear hF))
       refine z3d [.nil, .int .i64 (n' : Int)] (he := qcg n' hbound) (k:=?_)
       generalize q20 n' = nb at *
       (focus (have hF := (aI (aI @q04 @eL) (aI @w7 @hl3)); (repeat' (first | refine go1 (k:=?_) | with_reducible refine Ny.of ?_ ?_ | (refine Hyp.of ?_; intro hc; (try simp only [hc]); (try simp only [Bh] at hc)))); all_goals clear hF))
       rw [← hr]
       exact FnSc.ret1
      ·rw [if_pos (.inr (by omega))] at hr
       have hl3 : (((q20 n').length : Int) = ((k + 1 : Nat) : Int)) = False := eq_false (by omega)
       (focus (have hF := (aI (aI (aI (aI @q04 @e1) (aI @hk6' @h1)) (aI (aI @g1 @hlt3) (aI @w0 @w1))) (aI (aI (aI @q1 @w2) (aI @w3 @w4)) (aI (aI @w5 @w6) (aI @hl2 @hg)))); (repeat' (first | refine go1 (k:=?_) | with_reducible refine Ny.of ?_ ?_ | (refine Hyp.of ?_; intro hc; (try simp only [hc]); (try simp only [Bh] at hc)))); all_goals clear hF))
       refine z3d [.nil, .int .i64 (n' : Int)] (he := qcg n' hbound) (k:=?_)
       generalize q20 n' = nb at *
       (focus (have hF := (aI (aI @q04 @eL) (aI @w7 @hl3)); (repeat' (first | refine go1 (k:=?_) | with_reducible refine Ny.of ?_ ?_ | (refine Hyp.of ?_; intro hc; (try simp only [hc]); (try simp only [Bh] at hc)))); all_goals clear hF))
       rw [← hr]
       exact FnSc.ret1
    ·rw [if_neg hlast] at hr
     have hl2 : ¬ (c.toNat : Int) < 128 := by omega
     (focus (have hF := (aI (aI (aI @q04 (aI @e1 @hk6')) (aI (aI @h1 @g1) (aI @hlt3 @w0))) (aI (aI (aI @w1 @q1) (aI @w2 @w3)) (aI (aI @w4 @w5) (aI @w6 @hl2)))); (repeat' (first | refine go1 (k:=?_) | with_reducible refine Ny.of ?_ ?_ | (refine Hyp.of ?_; intro hc; (try simp only [hc]); (try simp only [Bh] at hc)))); all_goals clear hF))
     (refine Fin.nextW ((k + 1, n', u * 128)) ?_ (have hW := @q04; q0t); (try dsimp only))
     exact ⟨⟨by omega, hu', hn', by omega, by rw [show 6 - (k + 1) = m by omega]; exact hr⟩, by omega⟩
  ·have hk7 : k = 6 := by omega
   subst hk7
   rw [show 6 - 6 = 0 from rfl, slN] at hr
   (focus (have hF := (aI @q04 @e1); (repeat' (first | refine go1 (k:=?_) | with_reducible refine Ny.of ?_ ?_ | (refine Hyp.of ?_; intro hc; (try simp only [hc]); (try simp only [Bh] at hc)))); all_goals clear hF))
   rw [← hr]
   exact FnSc.ret1
end
def z68 : List SOp := [zO 4 (.assign (.const (.string ⟨#[]⟩)))]
instance : Live z68 := ⟨[0,1]⟩
def z67 : List SOp := [zM 7 0,zM 8 1,zO 9 (.call ⟨.value (.func 86),#[.tmp 7,.tmp 8],#[156,3]⟩),zG 5 9]
instance : Live z67 := ⟨[0,1]⟩
def z65 : List SOp := [zM 10 0,zO 11 (.nilCheck (.tmp 10)),zF 12 123 11 2,zL 13 4 12,zM 14 13,⟨some 15,.move (.tmp 5),some ((some 14),false)⟩,⟨some 16,.move (.tmp 0),some ((some 14),false)⟩,⟨some 17,.nilCheck (.tmp 16),some ((some 14),false)⟩,⟨some 18,.fieldAddr 123 (.tmp 17) 0,some ((some 14),false)⟩,⟨some 19,.load 28 (.tmp 18),some ((some 14),false)⟩,⟨some 20,.call ⟨.builtin .len,#[.tmp 19],#[28]⟩,some ((some 14),false)⟩,⟨some 21,.move (.tmp 0),some ((some 14),false)⟩,⟨some 22,.nilCheck (.tmp 21),some ((some 14),false)⟩,⟨some 23,.fieldAddr 123 (.tmp 22) 1,some ((some 14),false)⟩,⟨some 24,.load 3 (.tmp 23),some ((some 14),false)⟩,⟨some 25,.binOp .sub 3 (.tmp 20) (.tmp 24) 3,some ((some 14),false)⟩,⟨some 26,.binOp .gtr 3 (.tmp 15) (.tmp 25) 3,some ((some 14),false)⟩,zO 27 (.pick (.tmp 14) (.const (.bool true)) (.tmp 26))]
instance : Live z65 := ⟨[0,5]⟩
def z64 : List SOp := [zM 28 0,zO 29 (.nilCheck (.tmp 28)),zF 30 123 29 2,⟨none,.store 4 (.tmp 30) (.const (.bool true)),none⟩]
instance : Live z64 := ⟨[0]⟩
def z63 : List SOp := [zO 4 (.assign (.const (.string ⟨#[]⟩)))]
instance : Live z63 := ⟨[]⟩
def z62 : List SOp := [zM 31 0,zO 32 (.nilCheck (.tmp 31)),zF 33 123 32 0,zL 34 28 33,zM 35 0,zO 36 (.nilCheck (.tmp 35)),zF 37 123 36 1,zL 38 3 37,zM 39 0,zO 40 (.nilCheck (.tmp 39)),zF 41 123 40 1,zL 42 3 41,zM 43 5,zO 44 (.binOp .add 3 (.tmp 42) (.tmp 43) 3),zO 45 (.slice 28 (.tmp 34) (some (.tmp 38)) (some (.tmp 44)) none),zO 46 (.convert 28 9 (.tmp 45)),zG 6 46]
instance : Live z62 := ⟨[0,5]⟩
def z61 : List SOp := [zM 47 0,zO 48 (.nilCheck (.tmp 47)),zF 49 123 48 1,zL 50 3 49,zM 51 5,zO 52 (.binOp .add 3 (.tmp 50) (.tmp 51) 3),zO 53 (.nilCheck (.tmp 47)),zF 54 123 53 1,⟨none,.store 3 (.tmp 54) (.tmp 52),none⟩]
instance : Live z61 := ⟨[0,5,6]⟩
def z60 : List SOp := [zM 55 6,zG 4 55]
instance : Live z60 := ⟨[6]⟩
def t_k87 : SC :=
 (.seq (.ops false z68) (.seq (.ops false z67) (.seq (.seq (.ops true z65) (.cond (.tmp 27) (.seq (.ops false z64) (.seq (.ops false z63) .ret)) .skip)) (.seq (.ops true z62) (.seq (.ops false z61) (.seq (.ops false z60) .ret))))))
theorem it_k87 : FnIs Tryz.prog 87 56 [.tmp 4] t_k87 := ⟨Tryz.f87, _, Tryz.func87, rfl, rfl, rfl, rfl, by kernel_rfl⟩

theorem slN_le {b : Bs} {most fr : Nat} : ∀ (k n u a : Nat), a ≤ b.length → (slN b most fr k n u a).2.1 ≤ b.length ∧ a ≤ (slN b most fr k n u a).2.1 ∧ (slN b most fr k n u a).1 ≤ most
 | 0, n, u, a, h => ⟨h, Nat.le_refl _, Nat.zero_le _⟩
 | k + 1, n, u, a, h => by
  rw [slN]
  cases hg : b[a]? with
  | none => exact ⟨h, Nat.le_refl _, Nat.zero_le _⟩
  | some c =>
   have hlt := (List.getElem?_eq_some_iff.1 hg).1
   simp only
   by_cases hc : c.toNat < 128
   ·rw [if_pos hc]
    by_cases hm : most < n + c.toNat % 128 * u ∨ (q20 (n + c.toNat % 128 * u)).length ≠ a + 1 - fr
    ·rw [if_pos hm]; exact ⟨hlt, Nat.le_succ _, Nat.zero_le _⟩
    ·rw [if_neg hm]; exact ⟨hlt, Nat.le_succ _, by simp only; omega⟩
   ·rw [if_neg hc]
    obtain ⟨h1, h2, h3⟩ := slN_le (most := most) (fr := fr) k (n + c.toNat % 128 * u) (u * 128) (a + 1) hlt
    exact ⟨h1, by omega, h3⟩
theorem q2p {b : Bs} {most : Nat} {st : Nat × Bool} (h : st.1 ≤ b.length) : (sN most b st).2.1 ≤ b.length ∧ st.1 ≤ (sN most b st).2.1 ∧ (sN most b st).1 ≤ most := by
 unfold sN
 split
 ·exact ⟨h, Nat.le_refl _, Nat.zero_le _⟩
 ·exact slN_le 6 0 1 st.1 h
def sT (most : Nat) (b : Bs) (st : Nat × Bool) : ByteArray × Nat × Bool :=
 if (sN most b st).2.2 = true ∨ b.length - (sN most b st).2.1 < (sN most b st).1 then (ByteArray.empty, (sN most b st).2.1, true)
 else (⟨((b.take ((sN most b st).2.1 + (sN most b st).1)).drop (sN most b st).2.1).toArray⟩, (sN most b st).2.1 + (sN most b st).1, false)
theorem sT_le {b : Bs} {most : Nat} {st : Nat × Bool} (h : st.1 ≤ b.length) : (sT most b st).2.1 ≤ b.length ∧ st.1 ≤ (sT most b st).2.1 := by
 obtain ⟨h1, h2, h3⟩ := q2p (most := most) h
 unfold sT
 split
 ·exact ⟨h1, h2⟩
 ·rename_i hc
  simp only
  omega
theorem zdy (most : Nat) (hmost : most ≤ 4400000000000) (b : Bs) (st : Nat × Bool) (hb : b.length ≤ 900000000000) (ha : st.1 ≤ b.length) : EvS (En Tryz.prog rfl).P 87 [.int .i64 (most : Int)] b st (.str (sT most b st).1) (sT most b st).2 := by
 refine EvS.of_body it_k87 (by simp) fun v => Run.start ?_
 unfold t_k87
 have e1 := q18 b
 have hes := q5z most hmost b st hb ha
 obtain ⟨h1, h2, h3⟩ := q2p (most := most) ha
 unfold sT
 generalize sN most b st = r at *
 obtain ⟨n, a, bad⟩ := r
 simp only at hes h1 h2 h3 ⊢
 (focus (have hF := (aI @q04 @e1); (repeat' (first | refine go1 (k:=?_) | with_reducible refine Ny.of ?_ ?_ | (refine Hyp.of ?_; intro hc; (try simp only [hc]); (try simp only [Bh] at hc)))); all_goals clear hF))
 refine qh7 900000 [.int .i64 (most : Int)] (he := hes) (kk := ?_)
 dsimp only
 cases bad with
 | true =>
  rw [if_pos (.inl rfl)]
  (focus (have hF := (aI @q04 @e1); (repeat' (first | refine go1 (k:=?_) | with_reducible refine Ny.of ?_ ?_ | (refine Hyp.of ?_; intro hc; (try simp only [hc]); (try simp only [Bh] at hc)))); all_goals clear hF))
  exact FnSc.ret1
 | false =>
  have w1 : IntKind.i64.wrap ((b.length : Int) - (a : Int)) = ((b.length - a : Nat) : Int) := by rw [q0b (by omega)]; omega
  by_cases hlt : b.length - a < n
  ·rw [if_pos (.inr hlt)]
   have hl : (n : Int) > ((b.length - a : Nat) : Int) := by omega
   (focus (have hF := (aI (aI @q04 @e1) (aI @w1 @hl)); (repeat' (first | refine go1 (k:=?_) | with_reducible refine Ny.of ?_ ?_ | (refine Hyp.of ?_; intro hc; (try simp only [hc]); (try simp only [Bh] at hc)))); all_goals clear hF))
   exact FnSc.ret1
  ·rw [if_neg (by rintro (h | h); cases h; exact hlt h)]
   have hl : ¬ (n : Int) > ((b.length - a : Nat) : Int) := by omega
   have w2 : IntKind.i64.wrap ((a : Int) + (n : Int)) = ((a + n : Nat) : Int) := by rw [q0b (by omega)]; omega
   have k1 : ((q1k b).take (a + n)).drop a = q1k ((b.take (a + n)).drop a) := by simp [q1k]
   generalize (b.take (a + n)).drop a = y at *
   have n1 := q6t y
   have s1 := qbb y
   (focus (have hF := (aI (aI (aI @q04 @e1) (aI @w1 @w2)) (aI (aI @hl @k1) (aI @n1 @s1))); (repeat' (first | refine go1 (k:=?_) | with_reducible refine Ny.of ?_ ?_ | (refine Hyp.of ?_; intro hc; (try simp only [hc]); (try simp only [Bh] at hc)))); all_goals clear hF))
   exact FnSc.ret1

def z43 : List SOp := [zO 2 (.box 25 (.tmp 0)),zO 4 (.assign (.const (.int .i64 0)))]
instance : Live z43 := ⟨[0,1]⟩
def z42 : List SOp := [zM 5 1,zF 6 25 2 0,zL 7 22 6,zO 8 (.call ⟨.builtin .len,#[.tmp 7],#[22]⟩),zO 9 (.binOp .lss 3 (.tmp 5) (.tmp 8) 3)]
instance : Live z42 := ⟨[1,2]⟩
def z41 : List SOp := [zF 10 25 2 0,zL 11 22 10,zM 12 1,zI 13 22 11 12,zL 14 3 13,zG 4 14]
instance : Live z41 := ⟨[1,2]⟩
def z40 : List SOp := [zO 4 (.assign (.const (.int .i64 0)))]
instance : Live z40 := ⟨[]⟩
def t_k99 : SC :=
 (.seq (.ops false z43) (.seq (.seq (.ops false z42) (.cond (.tmp 9) (.seq (.ops false z41) .ret) .skip)) (.seq (.ops false z40) .ret)))
theorem it_k99 : FnIs Tryz.prog 99 15 [.tmp 4] t_k99 := ⟨Tryz.f99, _, Tryz.func99, rfl, rfl, rfl, rfl, by kernel_rfl⟩



theorem ev_k99 (p : Pst) (r : Nat) (hv : qmh p.vec) (hl : p.vec.length ≤ 1000000000) : Ev (En Tryz.prog rfl).P 99 [q10 p, .int .i64 (r : Int)] (.ret (.int .i64 (qg9 p.vec r - 2))) := by
 refine Ev.of_body it_k99 (by simp) (Run.start ?_)
 unfold t_k99 q10 qg9
 have e1 := q0d p.vec
 by_cases hlt : r < p.vec.length
 ·have g1 : p.vec[r]? = some p.vec[r] := List.getElem?_eq_getElem hlt
  have g2 := q0r g1
  have hlt2 : (r : Int) < (p.vec.length : Int) := by omega
  rw [g1]
  simp only
  generalize p.vec[r] = z at *
  rw [show z + 2 - 2 = z by omega]
  (focus (have hF := (aI @e1 (aI @hlt2 @g2)); (repeat' (first | refine go1 (k:=?_) | with_reducible refine Ny.of ?_ ?_ | (refine Hyp.of ?_; intro hc; (try simp only [hc]); (try simp only [Bh] at hc)))); all_goals clear hF))
  exact Fin.tmp' rfl rfl
 ·rw [List.getElem?_eq_none (by omega)]
  have hlt2 : ¬ (r : Int) < (p.vec.length : Int) := by omega
  simp only
  (focus (have hF := (aI @e1 @hlt2); (repeat' (first | refine go1 (k:=?_) | with_reducible refine Ny.of ?_ ?_ | (refine Hyp.of ?_; intro hc; (try simp only [hc]); (try simp only [Bh] at hc)))); all_goals clear hF))
  exact Fin.tmp' rfl rfl

def qnd : List SOp := [zO 2 (.alloc 25)]
instance : Live qnd := ⟨[0]⟩
def qnc : List SOp := [zO 3 (.alloc 25)]
instance : Live qnc := ⟨[0,2]⟩
def qnb : List SOp := [zM 13 0,zO 14 (.call ⟨.value (.func 86),#[.tmp 13,.const (.int .i64 16)],#[156,3]⟩),zG 4 14]
instance : Live qnb := ⟨[0,2,3]⟩
def qna : List SOp := [zO 5 (.assign (.const (.int .i64 0)))]
instance : Live qna := ⟨[0,2,3,4]⟩
def z6j : List SOp := [zM 15 5,zM 16 4,zO 17 (.binOp .lss 3 (.tmp 15) (.tmp 16) 3),zM 18 17,⟨some 19,.move (.tmp 0),some ((some 18),true)⟩,⟨some 20,.nilCheck (.tmp 19),some ((some 18),true)⟩,⟨some 21,.fieldAddr 123 (.tmp 20) 2,some ((some 18),true)⟩,⟨some 22,.load 4 (.tmp 21),some ((some 18),true)⟩,⟨some 23,.unOp .not 4 (.tmp 22),some ((some 18),true)⟩,zO 24 (.pick (.tmp 18) (.tmp 23) (.const (.bool false)))]
instance : Live z6j := ⟨[0,2,3,4,5]⟩
def qn9 : List SOp := [zF 27 25 3 0,zL 28 22 27,zM 29 0,zO 30 (.call ⟨.value (.func 86),#[.tmp 29,.const (.int .i64 1000000000)],#[156,3]⟩),zO 31 (.buildSlice 22 1 #[(0,.tmp 30)]),zO 32 (.call ⟨.builtin .append,#[.tmp 28,.tmp 31],#[22,22]⟩),zF 33 25 3 0,⟨none,.store 22 (.tmp 33) (.tmp 32),none⟩]
instance : Live qn9 := ⟨[0,2,3,4,5]⟩
instance : Rd qn9 := ⟨fun j => false⟩
def z6i : List SOp := [zM 25 5,zO 26 (.binOp .add 3 (.tmp 25) (.const (.int .i64 1)) 3),zG 5 26]
instance : Live z6i := ⟨[0,2,3,4,5]⟩
def qn8 : List SOp := [zM 34 0,zM 35 0,zO 36 (.nilCheck (.tmp 35)),zF 37 123 36 0,zL 38 28 37,zO 39 (.call ⟨.builtin .len,#[.tmp 38],#[28]⟩),zO 40 (.call ⟨.value (.func 86),#[.tmp 34,.tmp 39],#[156,3]⟩),zG 4 40]
instance : Live qn8 := ⟨[0,2,3]⟩
def qn7 : List SOp := [zO 6 (.assign (.const (.int .i64 0))),zO 7 (.assign (.const (.int .i64 0)))]
instance : Live qn7 := ⟨[0,2,3,4]⟩
def qev : List SOp := [zO 8 (.assign (.const (.int .i64 0)))]
instance : Live qev := ⟨[0,2,3,4,6,7]⟩
def qr2 : List SOp := [zM 41 8,zM 42 4,zO 43 (.binOp .lss 3 (.tmp 41) (.tmp 42) 3),zM 44 43,⟨some 45,.move (.tmp 0),some ((some 44),true)⟩,⟨some 46,.nilCheck (.tmp 45),some ((some 44),true)⟩,⟨some 47,.fieldAddr 123 (.tmp 46) 2,some ((some 44),true)⟩,⟨some 48,.load 4 (.tmp 47),some ((some 44),true)⟩,⟨some 49,.unOp .not 4 (.tmp 48),some ((some 44),true)⟩,zO 50 (.pick (.tmp 44) (.tmp 49) (.const (.bool false)))]
instance : Live qr2 := ⟨[0,2,3,4,6,7,8]⟩
def qr1 : List SOp := [zM 53 0,zO 54 (.call ⟨.value (.func 86),#[.tmp 53,.const (.int .i64 16)],#[156,3]⟩),zM 55 0,zO 56 (.call ⟨.value (.func 86),#[.tmp 55,.const (.int .i64 1000000000)],#[156,3]⟩),zM 57 0,zO 58 (.call ⟨.value (.func 86),#[.tmp 57,.const (.int .i64 1000000000)],#[156,3]⟩),zG 9 54,zG 10 56,zG 11 58]
instance : Live qr1 := ⟨[0,2,3,4,6,7,8]⟩
def qr0 : List SOp := [zL 59 25 3,zM 60 6,zM 61 9,zO 62 (.binOp .add 3 (.tmp 60) (.tmp 61) 3),zO 63 (.call ⟨.value (.func 99),#[.tmp 59,.tmp 62],#[25,3]⟩),zO 64 (.binOp .add 3 (.tmp 63) (.const (.int .i64 2)) 3),zG 12 64]
instance : Live qr0 := ⟨[0,2,3,4,6,7,8,9,10,11]⟩
def qqz : List SOp := [zM 65 8,zO 66 (.binOp .gtr 3 (.tmp 65) (.const (.int .i64 0)) 3),zM 67 66,⟨some 68,.move (.tmp 9),some ((some 67),true)⟩,⟨some 69,.binOp .eql 3 (.tmp 68) (.const (.int .i64 0)) 3,some ((some 67),true)⟩,zO 70 (.pick (.tmp 67) (.tmp 69) (.const (.bool false)))]
instance : Live qqz := ⟨[0,2,3,4,6,7,8,9,10,11,12]⟩
def qqy : List SOp := [zM 71 7,zO 72 (.binOp .add 3 (.tmp 71) (.const (.int .i64 2)) 3),zG 12 72]
instance : Live qqy := ⟨[0,2,3,4,6,7,8,9,10,11]⟩
def qqx : List SOp := [zM 73 6,zM 74 9,zO 75 (.binOp .add 3 (.tmp 73) (.tmp 74) 3),zG 6 75]
instance : Live qqx := ⟨[0,2,3,4,6,8,9,10,11,12]⟩
def qqw : List SOp := [zM 76 12,zM 77 10,zO 78 (.binOp .add 3 (.tmp 76) (.tmp 77) 3),zM 79 11,zO 80 (.binOp .add 3 (.tmp 78) (.tmp 79) 3),zG 7 80]
instance : Live qqw := ⟨[0,2,3,4,6,8,10,11,12]⟩
def qqv : List SOp := [zF 81 25 3 1,zL 82 23 81,zM 83 6,zM 84 12,zM 85 10,zO 86 (.binOp .add 3 (.tmp 84) (.tmp 85) 3),zM 87 7,zO 88 (.build 82 #[(0,.tmp 83),(1,.tmp 86),(2,.tmp 87)]),zO 89 (.buildSlice 23 1 #[(0,.tmp 88)]),zO 90 (.call ⟨.builtin .append,#[.tmp 82,.tmp 89],#[23,23]⟩),zF 91 25 3 1,⟨none,.store 23 (.tmp 91) (.tmp 90),none⟩]
instance : Live qqv := ⟨[0,2,3,4,6,7,8,10,12]⟩
def qqu : List SOp := [zM 92 6,zO 93 (.binOp .geq 3 (.tmp 92) (.const (.int .i64 16)) 3),zM 94 93,⟨some 95,.move (.tmp 7),some ((some 94),false)⟩,⟨some 96,.binOp .gtr 3 (.tmp 95) (.const (.int .i64 1000000000)) 3,some ((some 94),false)⟩,zO 97 (.pick (.tmp 94) (.const (.bool true)) (.tmp 96))]
instance : Live qqu := ⟨[0,2,3,4,6,7,8]⟩
def qqt : List SOp := [zM 98 0,zO 99 (.nilCheck (.tmp 98)),zF 100 123 99 2,⟨none,.store 4 (.tmp 100) (.const (.bool true)),none⟩]
instance : Live qqt := ⟨[0,2,3,4,6,7,8]⟩
def qqs : List SOp := [zM 51 8,zO 52 (.binOp .add 3 (.tmp 51) (.const (.int .i64 1)) 3),zG 8 52]
instance : Live qqs := ⟨[0,2,3,4,6,7,8]⟩
def qeu : List SOp := [zL 101 25 3,zO 102 (.call ⟨.value (.func 22),#[.tmp 101],#[25]⟩),zO 103 (.unOp .not 4 (.tmp 102))]
instance : Live qeu := ⟨[0,2,3]⟩
def qet : List SOp := [zM 104 0,zO 105 (.nilCheck (.tmp 104)),zF 106 123 105 2,⟨none,.store 4 (.tmp 106) (.const (.bool true)),none⟩]
instance : Live qet := ⟨[0,2,3]⟩
def qes : List SOp := [zL 107 25 3,⟨none,.store 25 (.tmp 2) (.tmp 107),none⟩]
instance : Live qes := ⟨[2,3]⟩
def qec : SC :=
 (.seq (.seq (.ops false z6j) (.cond (.tmp 24) .skip (.exit 0))) (.seq (.block 1 (.opsW [28, 30] qn9)) (.ops false z6i)))
def qeb : SC :=
 (.seq (.seq (.ops false qr2) (.cond (.tmp 50) .skip (.exit 2))) (.seq (.block 3 (.seq (.ops false qr1) (.seq (.ops false qr0) (.seq (.seq (.ops false qqz) (.cond (.tmp 70) (.ops false qqy) .skip)) (.seq (.ops false qqx) (.seq (.ops false qqw) (.seq (.ops false qqv) (.seq (.ops false qqu) (.cond (.tmp 97) (.ops false qqt) .skip))))))))) (.ops false qqs)))
def t_k85 : SC :=
 (.seq (.ops false qnd) (.seq (.ops false qnc) (.seq (.ops false qnb) (.seq (.seq (.ops false qna) (.block 0 (.loop qec))) (.seq (.ops false qn8) (.seq (.ops false qn7) (.seq (.seq (.ops false qev) (.block 2 (.loop qeb))) (.seq (.seq (.ops false qeu) (.cond (.tmp 103) (.ops false qet) .skip)) (.seq (.ops false qes) .ret)))))))))
theorem it_k85 : FnIs Tryz.prog 85 108 [.cell 2 25] t_k85 := ⟨Tryz.f85, _, Tryz.func85, rfl, rfl, rfl, rfl, by kernel_rfl⟩

def qct (b : Bs) : (k : Nat) → List Int → Nat × Bool → List Int × Nat × Bool
 | 0, acc, st => (acc, st)
 | k + 1, acc, st => if st.2 = true then (acc, st) else qct b k (acc ++ [((sN 1000000000 b st).1 : Int)]) (sN 1000000000 b st).2
def qcu (vec : List Int) (b : Bs) : (k i rep : Nat) → Int → List Sn → Nat × Bool → List Sn × Nat × Bool
 | 0, _, _, _, acc, st => (acc, st)
 | k + 1, i, rep, hi, acc, st => if st.2 = true then (acc, st) else
  let r1 := sN 16 b st
  let r2 := sN 1000000000 b r1.2
  let r3 := sN 1000000000 b r2.2
  let least : Int := if 0 < i ∧ r1.1 = 0 then hi + 2 else qg9 vec (rep + r1.1)
  qcu vec b k (i + 1) (rep + r1.1) (least + (r2.1 : Int) + (r3.1 : Int)) (acc ++ [(((rep + r1.1 : Nat) : Int), least + (r2.1 : Int), least + (r2.1 : Int) + (r3.1 : Int))])
   (if 16 ≤ rep + r1.1 ∨ 1000000000 < least + (r2.1 : Int) + (r3.1 : Int) then (r3.2.1, true) else r3.2)
def q37 (b : Bs) (st : Nat × Bool) : Pst × Nat × Bool :=
 let r := sN 16 b st
 let v := qct b r.1 [] r.2
 let r2 := sN b.length b v.2
 let c := qcu v.1 b r2.1 0 0 0 [] r2.2
 (⟨v.1, c.1⟩, if q0o ⟨v.1, c.1⟩ = true then c.2 else (c.2.1, true))
def z3j : SC := .seq (.seq (.ops false qeu) (.cond (.tmp 103) (.ops false qet) .skip)) (.seq (.ops false qes) .ret)
def z3k : SC := .seq (.ops false qn8) (.seq (.ops false qn7) (.seq (.seq (.ops false qev) (.block 2 (.loop qeb))) z3j))
theorem scan_cut : t_k85 = .seq (.ops false qnd) (.seq (.ops false qnc) (.seq (.ops false qnb) (.seq (.seq (.ops false qna) (.block 0 (.loop qec))) z3k))) := rfl
abbrev scanQ (b : Bs) (p : Pst) (st : Nat × Bool) (v : Value) : Ex → AS → Prop := FnSc (En Tryz.prog rfl).TE [.cell 2 25] b (q10 p) st v
def qh8 (b : Bs) (acc : List Int) (cl : List Sn) (a : Nat) (bad : Bool) (v : Value) : List (Nat × ABlk) := [(2, .cells [.nil, .nil]), (3, .cells [.os 100 acc.length, .os 101 cl.length]), (100, .arr acc.length 1 (q03 acc)), (101, .arr cl.length 3 (q0g cl)), (900000, .cells (scC b a bad)), (1900000, nt v)]
theorem scan_3 (b : Bs) (acc : List Int) (cl : List Sn) (a : Nat) (bad : Bool) (v : Value) (hw : acc.length + cl.length ≤ 30000000) :
 Run (En Tryz.prog rfl) 108 (scanQ b ⟨acc, cl⟩ (if q0o ⟨acc, cl⟩ = true then (a, bad) else (a, true)) v) z3j .done ⟨tms [(0, .ptr 900000 0), (2, .ptr 2 0), (3, .ptr 3 0)], mms (qh8 b acc cl a bad v)⟩ := by
 have c1 := ev_k22 ⟨acc, cl⟩ hw
 unfold z3j qh8
 (focus (have hF := @q04; (repeat' (first | refine go1 (k:=?_) | with_reducible refine Ny.of ?_ ?_ | (refine Hyp.of ?_; intro hc; (try simp only [hc]); (try simp only [Bh] at hc)))); all_goals clear hF))
 refine q73 (fun j => j == 100 || j == 101) (l := [q10 ⟨acc, cl⟩]) rfl (by simp [evs, ev, fz, fzc, upd, tms, mms, q10]) (by simp [q0i, AVal.stb, q0c]) c1 rfl rfl ?_
 cases hn : q0o ⟨acc, cl⟩ with
 | true =>
  (focus (have hF := @q04; (repeat' (first | refine go1 (k:=?_) | with_reducible refine Ny.of ?_ ?_ | (refine Hyp.of ?_; intro hc; (try simp only [hc]); (try simp only [Bh] at hc)))); all_goals clear hF))
  exact ⟨⟨[q10 ⟨acc, cl⟩], by simp [q1n, q3a, qcs, zem, TD.isAgg, KRd, fzc, upd, tms, mms, q10], by simp [q0i, q0c], [q10 ⟨acc, cl⟩], q1p _, rfl⟩, rfl, rfl⟩
 | false =>
  (focus (have hF := @q04; (repeat' (first | refine go1 (k:=?_) | with_reducible refine Ny.of ?_ ?_ | (refine Hyp.of ?_; intro hc; (try simp only [hc]); (try simp only [Bh] at hc)))); all_goals clear hF))
  exact ⟨⟨[q10 ⟨acc, cl⟩], by simp [q1n, q3a, qcs, zem, TD.isAgg, KRd, fzc, upd, tms, mms, q10], by simp [q0i, q0c], [q10 ⟨acc, cl⟩], q1p _, rfl⟩, rfl, rfl⟩
theorem lowI_le {vec : List Int} {r : Nat} (hv : qmh vec) : 2 ≤ qg9 vec r ∧ qg9 vec r ≤ 1000000002 := by
 have := q55 (rep := r) hv (cl := []) (fun s hs => by cases hs)
 simpa [q1e] using this
theorem scan_2 (b : Bs) (acc : List Int) (st : Nat × Bool) (v : Value) (hb : b.length ≤ 20000000) (ha : st.1 ≤ b.length) (hv : qmh acc) (hl : acc.length ≤ 16) (n0 : Nat) (R : Pst × Nat × Bool)
 (hR : (let r2 := sN b.length b st; let c := qcu acc b r2.1 0 0 0 [] r2.2; ((⟨acc, c.1⟩, if q0o ⟨acc, c.1⟩ = true then c.2 else (c.2.1, true)) : Pst × Nat × Bool)) = R) :
 Run (En Tryz.prog rfl) 108 (scanQ b R.1 R.2 v) z3k .done ⟨tms [(0, .ptr 900000 0), (2, .ptr 2 0), (3, .ptr 3 0)], mms (qh8 b acc [] st.1 st.2 v)⟩ := by
 subst hR
 unfold z3k qh8
 have e1 := q18 b
 obtain ⟨a1, a2, a3⟩ := q2p (b := b) (most := b.length) (st := st) ha
 have hs1 := q5z b.length (by omega) b st (by omega) ha
 generalize sN b.length b st = r at *
 obtain ⟨m, st1⟩ := r
 simp only at hs1 a1 a3 ⊢
 (focus (have hF := (aI @q04 @e1); (repeat' (first | refine go1 (k:=?_) | with_reducible refine Ny.of ?_ ?_ | (refine Hyp.of ?_; intro hc; (try simp only [hc]); (try simp only [Bh] at hc)))); all_goals clear hF))
 refine qh7 900000 [.int .i64 (b.length : Int)] (he := hs1) (kk := ?_)
 (focus (have hF := (aI @q04 @e1); (repeat' (first | refine go1 (k:=?_) | with_reducible refine Ny.of ?_ ?_ | (refine Hyp.of ?_; intro hc; (try simp only [hc]); (try simp only [Bh] at hc)))); all_goals clear hF))
 generalize hC : qcu acc b m 0 0 0 [] st1 = C
 refine Run.while (σ := Nat × Nat × Int × List Sn × Nat × Bool) (fun z => ⟨tms [(0, .ptr 900000 0), (2, .ptr 2 0), (3, .ptr 3 0), (4, .int .i64 (m : Int)), (6, .int .i64 (z.2.1 : Int)), (7, .int .i64 z.2.2.1), (8, .int .i64 (z.1 : Int))], mms [(2, .cells [.nil, .nil]), (3, .cells [.os 100 acc.length, .os 101 z.1]), (100, .arr acc.length 1 (q03 acc)), (101, .arr z.1 3 (q0g z.2.2.2.1)), (900000, .cells (scC b z.2.2.2.2.1 z.2.2.2.2.2)), (1900000, nt v)]⟩)
  (fun z => z.1 ≤ m ∧ z.1 = z.2.2.2.1.length ∧ z.2.2.2.2.1 ≤ b.length ∧ (z.2.2.2.2.2 = false → z.2.1 < 16 ∧ 0 ≤ z.2.2.1 ∧ z.2.2.1 ≤ 1000000000) ∧ qcu acc b (m - z.1) z.1 z.2.1 z.2.2.1 z.2.2.2.1 z.2.2.2.2 = C) (fun z => m - z.1) (0, 0, 0, [], st1) (have hW := @q04; q0t) ⟨by omega, rfl, a1, fun _ => by simp only; omega, hC⟩ ?_
 rintro ⟨j, rep, hi, cl, a, bad⟩ ⟨hj, hjl, ha, hok, hr⟩
 simp only at hj hjl ha hok hr
 unfold qeb
 have e2 := q14 cl
 have e3 := q0d acc
 cases bad with
 | true =>
  have hC2 : C = (cl, a, true) := by
   rw [← hr]
   cases hk : m - j with
   | zero => rfl
   | succ k => rw [qcu, if_pos rfl]
  rw [hC2]
  subst hjl
  have h3 := scan_3 b acc cl a true v (by omega)
  unfold qh8 at h3
  by_cases hlt : cl.length < m
  ·have hlt2 : (cl.length : Int) < (m : Int) := by omega
   (focus (have hF := (aI @q04 @hlt2); (repeat' (first | refine go1 (k:=?_) | with_reducible refine Ny.of ?_ ?_ | (refine Hyp.of ?_; intro hc; (try simp only [hc]); (try simp only [Bh] at hc)))); all_goals clear hF))
   exact Run.wk (have hW := @q04; q0t) h3
  ·have hlt2 : ¬ (cl.length : Int) < (m : Int) := by omega
   (focus (have hF := (aI @q04 @hlt2); (repeat' (first | refine go1 (k:=?_) | with_reducible refine Ny.of ?_ ?_ | (refine Hyp.of ?_; intro hc; (try simp only [hc]); (try simp only [Bh] at hc)))); all_goals clear hF))
   exact Run.wk (have hW := @q04; q0t) h3
 | false =>
  obtain ⟨o1, o2, o3⟩ := hok rfl
  by_cases hlt : j < m
  ·have hlt2 : (j : Int) < (m : Int) := by omega
   obtain ⟨k, hk⟩ : ∃ k, m - j = k + 1 := ⟨m - j - 1, by omega⟩
   rw [hk, qcu, if_neg (by simp)] at hr
   obtain ⟨b1, b2, b3⟩ := q2p (b := b) (most := 16) (st := (a, false)) ha
   have hs2 := q5z 16 (by omega) b (a, false) (by omega) ha
   generalize sN 16 b (a, false) = r1 at *
   obtain ⟨s, st2⟩ := r1
   simp only at hs2 b1 b3 hr
   obtain ⟨c1, c2, c3⟩ := q2p (b := b) (most := 1000000000) (st := st2) b1
   have hs3 := q5z 1000000000 (by omega) b st2 (by omega) b1
   generalize sN 1000000000 b st2 = r2 at *
   obtain ⟨x, st3⟩ := r2
   simp only at hs3 c1 c3 hr
   obtain ⟨d1, d2, d3⟩ := q2p (b := b) (most := 1000000000) (st := st3) c1
   have hs4 := q5z 1000000000 (by omega) b st3 (by omega) c1
   generalize sN 1000000000 b st3 = r3 at *
   obtain ⟨y, a4, bad4⟩ := r3
   simp only at hs4 d1 d3 hr
   have hlow := lowI_le (r := rep + s) hv
   have cv := ev_k99 ⟨acc, cl⟩ (rep + s) hv (by simp only; omega)
   simp only at cv
   generalize qg9 acc (rep + s) = lw at *
   have w1 : IntKind.i64.wrap ((rep : Int) + (s : Int)) = ((rep + s : Nat) : Int) := q4l (by omega)
   have w2 : IntKind.i64.wrap (lw - 2 + 2) = lw := by rw [q0b (by omega)]; omega
   have w6 := q0u (i := j) (by omega)
   (focus (have hF := (aI @q04 @hlt2); (repeat' (first | refine go1 (k:=?_) | with_reducible refine Ny.of ?_ ?_ | (refine Hyp.of ?_; intro hc; (try simp only [hc]); (try simp only [Bh] at hc)))); all_goals clear hF))
   refine qh7 900000 [.int .i64 16] (he := hs2) (kk := ?_)
   (focus (have hF := @q04; (repeat' (first | refine go1 (k:=?_) | with_reducible refine Ny.of ?_ ?_ | (refine Hyp.of ?_; intro hc; (try simp only [hc]); (try simp only [Bh] at hc)))); all_goals clear hF))
   refine qh7 900000 [.int .i64 1000000000] (he := hs3) (kk := ?_)
   (focus (have hF := @q04; (repeat' (first | refine go1 (k:=?_) | with_reducible refine Ny.of ?_ ?_ | (refine Hyp.of ?_; intro hc; (try simp only [hc]); (try simp only [Bh] at hc)))); all_goals clear hF))
   refine qh7 900000 [.int .i64 1000000000] (he := hs4) (kk := ?_)
   (focus (have hF := (aI @q04 @w1); (repeat' (first | refine go1 (k:=?_) | with_reducible refine Ny.of ?_ ?_ | (refine Hyp.of ?_; intro hc; (try simp only [hc]); (try simp only [Bh] at hc)))); all_goals clear hF))
   refine q73 (fun j => j == 100 || j == 101) (l := [q10 ⟨acc, cl⟩, .int .i64 ((rep + s : Nat) : Int)]) rfl (by simp [evs, ev, fz, fzc, upd, tms, mms, q10]) (by simp [q0i, AVal.stb, q0c]) cv rfl rfl ?_
   by_cases hj0 : 0 < j
   ·have hj1 : (j : Int) > 0 := by omega
    by_cases hs0 : s = 0
    ·have hs1 : ((s : Int) = 0) = True := eq_true (by omega)
     rw [if_pos ⟨hj0, hs0⟩] at hr
     generalize hLL : hi + 2 = L at *
     have w3 : IntKind.i64.wrap (hi + 2) = L := by rw [q0b (by omega)]; exact hLL
     have hL : 2 ≤ L ∧ L ≤ 1000000002 := by omega
     have w4 : IntKind.i64.wrap (L + (x : Int)) = L + (x : Int) := q0b (by omega)
     have w5 : IntKind.i64.wrap (L + (x : Int) + (y : Int)) = L + (x : Int) + (y : Int) := q0b (by omega)
     by_cases h16 : 16 ≤ rep + s
     ·have h16' : ((rep + s : Nat) : Int) ≥ 16 := by omega
      rw [if_pos (.inl h16)] at hr
      (focus (have hF := (aI (aI (aI @q04 @e2) (aI @w2 (aI @hj1 @hs1))) (aI (aI @w3 (aI @w1 @w4)) (aI @w5 (aI @w6 @h16')))); (repeat' (first | refine go1 (k:=?_) | with_reducible refine Ny.of ?_ ?_ | (refine Hyp.of ?_; intro hc; (try simp only [hc]); (try simp only [Bh] at hc)))); all_goals clear hF))
      (refine Fin.nextW ((j + 1, rep + s, L + (x : Int) + (y : Int), cl ++ [(((rep + s : Nat) : Int), L + (x : Int), L + (x : Int) + (y : Int))], a4, true)) ?_ (have hW := (aI @q04 @q1i); q0t); (try dsimp only))
      exact ⟨⟨by omega, by simp [hjl], d1, (fun h => by cases h), by rw [show m - (j + 1) = k by omega]; exact hr⟩, by omega⟩
     ·have h16' : ¬ ((rep + s : Nat) : Int) ≥ 16 := by omega
      by_cases hbig : 1000000000 < L + (x : Int) + (y : Int)
      ·have hbig' : L + (x : Int) + (y : Int) > 1000000000 := hbig
       rw [if_pos (.inr hbig)] at hr
       (focus (have hF := (aI (aI (aI @q04 (aI @e2 @w2)) (aI @hj1 (aI @hs1 @w3))) (aI (aI @w1 (aI @w4 @w5)) (aI @w6 (aI @h16' @hbig')))); (repeat' (first | refine go1 (k:=?_) | with_reducible refine Ny.of ?_ ?_ | (refine Hyp.of ?_; intro hc; (try simp only [hc]); (try simp only [Bh] at hc)))); all_goals clear hF))
       (refine Fin.nextW ((j + 1, rep + s, L + (x : Int) + (y : Int), cl ++ [(((rep + s : Nat) : Int), L + (x : Int), L + (x : Int) + (y : Int))], a4, true)) ?_ (have hW := (aI @q04 @q1i); q0t); (try dsimp only))
       exact ⟨⟨by omega, by simp [hjl], d1, (fun h => by cases h), by rw [show m - (j + 1) = k by omega]; exact hr⟩, by omega⟩
      ·have hbig' : ¬ L + (x : Int) + (y : Int) > 1000000000 := hbig
       rw [if_neg (by rintro (h | h); exact h16 h; exact hbig h)] at hr
       (focus (have hF := (aI (aI (aI @q04 (aI @e2 @w2)) (aI @hj1 (aI @hs1 @w3))) (aI (aI @w1 (aI @w4 @w5)) (aI @w6 (aI @h16' @hbig')))); (repeat' (first | refine go1 (k:=?_) | with_reducible refine Ny.of ?_ ?_ | (refine Hyp.of ?_; intro hc; (try simp only [hc]); (try simp only [Bh] at hc)))); all_goals clear hF))
       (refine Fin.nextW ((j + 1, rep + s, L + (x : Int) + (y : Int), cl ++ [(((rep + s : Nat) : Int), L + (x : Int), L + (x : Int) + (y : Int))], a4, bad4)) ?_ (have hW := (aI @q04 @q1i); q0t); (try dsimp only))
       exact ⟨⟨by omega, by simp [hjl], d1, (fun _ => ⟨by omega, by omega, by omega⟩), by rw [show m - (j + 1) = k by omega]; exact hr⟩, by omega⟩
    ·have hs1 : ((s : Int) = 0) = False := eq_false (by omega)
     rw [if_neg (fun h => hs0 h.2)] at hr
     generalize hLL : lw = L at *
     have hL : 2 ≤ L ∧ L ≤ 1000000002 := by omega
     have w4 : IntKind.i64.wrap (L + (x : Int)) = L + (x : Int) := q0b (by omega)
     have w5 : IntKind.i64.wrap (L + (x : Int) + (y : Int)) = L + (x : Int) + (y : Int) := q0b (by omega)
     by_cases h16 : 16 ≤ rep + s
     ·have h16' : ((rep + s : Nat) : Int) ≥ 16 := by omega
      rw [if_pos (.inl h16)] at hr
      (focus (have hF := (aI (aI (aI @q04 @e2) (aI @w2 (aI @hj1 @hs1))) (aI (aI @w1 @w4) (aI @w5 (aI @w6 @h16')))); (repeat' (first | refine go1 (k:=?_) | with_reducible refine Ny.of ?_ ?_ | (refine Hyp.of ?_; intro hc; (try simp only [hc]); (try simp only [Bh] at hc)))); all_goals clear hF))
      (refine Fin.nextW ((j + 1, rep + s, L + (x : Int) + (y : Int), cl ++ [(((rep + s : Nat) : Int), L + (x : Int), L + (x : Int) + (y : Int))], a4, true)) ?_ (have hW := (aI @q04 @q1i); q0t); (try dsimp only))
      exact ⟨⟨by omega, by simp [hjl], d1, (fun h => by cases h), by rw [show m - (j + 1) = k by omega]; exact hr⟩, by omega⟩
     ·have h16' : ¬ ((rep + s : Nat) : Int) ≥ 16 := by omega
      by_cases hbig : 1000000000 < L + (x : Int) + (y : Int)
      ·have hbig' : L + (x : Int) + (y : Int) > 1000000000 := hbig
       rw [if_pos (.inr hbig)] at hr
       (focus (have hF := (aI (aI (aI @q04 @e2) (aI @w2 (aI @hj1 @hs1))) (aI (aI @w1 (aI @w4 @w5)) (aI @w6 (aI @h16' @hbig')))); (repeat' (first | refine go1 (k:=?_) | with_reducible refine Ny.of ?_ ?_ | (refine Hyp.of ?_; intro hc; (try simp only [hc]); (try simp only [Bh] at hc)))); all_goals clear hF))
       (refine Fin.nextW ((j + 1, rep + s, L + (x : Int) + (y : Int), cl ++ [(((rep + s : Nat) : Int), L + (x : Int), L + (x : Int) + (y : Int))], a4, true)) ?_ (have hW := (aI @q04 @q1i); q0t); (try dsimp only))
       exact ⟨⟨by omega, by simp [hjl], d1, (fun h => by cases h), by rw [show m - (j + 1) = k by omega]; exact hr⟩, by omega⟩
      ·have hbig' : ¬ L + (x : Int) + (y : Int) > 1000000000 := hbig
       rw [if_neg (by rintro (h | h); exact h16 h; exact hbig h)] at hr
       (focus (have hF := (aI (aI (aI @q04 @e2) (aI @w2 (aI @hj1 @hs1))) (aI (aI @w1 (aI @w4 @w5)) (aI @w6 (aI @h16' @hbig')))); (repeat' (first | refine go1 (k:=?_) | with_reducible refine Ny.of ?_ ?_ | (refine Hyp.of ?_; intro hc; (try simp only [hc]); (try simp only [Bh] at hc)))); all_goals clear hF))
       (refine Fin.nextW ((j + 1, rep + s, L + (x : Int) + (y : Int), cl ++ [(((rep + s : Nat) : Int), L + (x : Int), L + (x : Int) + (y : Int))], a4, bad4)) ?_ (have hW := (aI @q04 @q1i); q0t); (try dsimp only))
       exact ⟨⟨by omega, by simp [hjl], d1, (fun _ => ⟨by omega, by omega, by omega⟩), by rw [show m - (j + 1) = k by omega]; exact hr⟩, by omega⟩
   ·have hj1 : ¬ (j : Int) > 0 := by omega
    rw [if_neg (fun h => hj0 h.1)] at hr
    generalize hLL : lw = L at *
    have hL : 2 ≤ L ∧ L ≤ 1000000002 := by omega
    have w4 : IntKind.i64.wrap (L + (x : Int)) = L + (x : Int) := q0b (by omega)
    have w5 : IntKind.i64.wrap (L + (x : Int) + (y : Int)) = L + (x : Int) + (y : Int) := q0b (by omega)
    by_cases h16 : 16 ≤ rep + s
    ·have h16' : ((rep + s : Nat) : Int) ≥ 16 := by omega
     rw [if_pos (.inl h16)] at hr
     (focus (have hF := (aI (aI (aI @q04 @e2) (aI @w2 @hj1)) (aI (aI @w1 @w4) (aI @w5 (aI @w6 @h16')))); (repeat' (first | refine go1 (k:=?_) | with_reducible refine Ny.of ?_ ?_ | (refine Hyp.of ?_; intro hc; (try simp only [hc]); (try simp only [Bh] at hc)))); all_goals clear hF))
     (refine Fin.nextW ((j + 1, rep + s, L + (x : Int) + (y : Int), cl ++ [(((rep + s : Nat) : Int), L + (x : Int), L + (x : Int) + (y : Int))], a4, true)) ?_ (have hW := (aI @q04 @q1i); q0t); (try dsimp only))
     exact ⟨⟨by omega, by simp [hjl], d1, (fun h => by cases h), by rw [show m - (j + 1) = k by omega]; exact hr⟩, by omega⟩
    ·have h16' : ¬ ((rep + s : Nat) : Int) ≥ 16 := by omega
     by_cases hbig : 1000000000 < L + (x : Int) + (y : Int)
     ·have hbig' : L + (x : Int) + (y : Int) > 1000000000 := hbig
      rw [if_pos (.inr hbig)] at hr
      (focus (have hF := (aI (aI (aI @q04 @e2) (aI @w2 (aI @hj1 @w1))) (aI (aI @w4 @w5) (aI @w6 (aI @h16' @hbig')))); (repeat' (first | refine go1 (k:=?_) | with_reducible refine Ny.of ?_ ?_ | (refine Hyp.of ?_; intro hc; (try simp only [hc]); (try simp only [Bh] at hc)))); all_goals clear hF))
      (refine Fin.nextW ((j + 1, rep + s, L + (x : Int) + (y : Int), cl ++ [(((rep + s : Nat) : Int), L + (x : Int), L + (x : Int) + (y : Int))], a4, true)) ?_ (have hW := (aI @q04 @q1i); q0t); (try dsimp only))
      exact ⟨⟨by omega, by simp [hjl], d1, (fun h => by cases h), by rw [show m - (j + 1) = k by omega]; exact hr⟩, by omega⟩
     ·have hbig' : ¬ L + (x : Int) + (y : Int) > 1000000000 := hbig
      rw [if_neg (by rintro (h | h); exact h16 h; exact hbig h)] at hr
      (focus (have hF := (aI (aI (aI @q04 @e2) (aI @w2 (aI @hj1 @w1))) (aI (aI @w4 @w5) (aI @w6 (aI @h16' @hbig')))); (repeat' (first | refine go1 (k:=?_) | with_reducible refine Ny.of ?_ ?_ | (refine Hyp.of ?_; intro hc; (try simp only [hc]); (try simp only [Bh] at hc)))); all_goals clear hF))
      (refine Fin.nextW ((j + 1, rep + s, L + (x : Int) + (y : Int), cl ++ [(((rep + s : Nat) : Int), L + (x : Int), L + (x : Int) + (y : Int))], a4, bad4)) ?_ (have hW := (aI @q04 @q1i); q0t); (try dsimp only))
      exact ⟨⟨by omega, by simp [hjl], d1, (fun _ => ⟨by omega, by omega, by omega⟩), by rw [show m - (j + 1) = k by omega]; exact hr⟩, by omega⟩
  ·have hjm : j = m := by omega
   have hC2 : C = (cl, a, false) := by
    rw [← hr, hjm, Nat.sub_self]
    rfl
   rw [hC2]
   subst hjl
   have h3 := scan_3 b acc cl a false v (by omega)
   unfold qh8 at h3
   have hlt2 : ¬ (cl.length : Int) < (m : Int) := by omega
   (focus (have hF := (aI @q04 @hlt2); (repeat' (first | refine go1 (k:=?_) | with_reducible refine Ny.of ?_ ?_ | (refine Hyp.of ?_; intro hc; (try simp only [hc]); (try simp only [Bh] at hc)))); all_goals clear hF))
   exact Run.wk (have hW := @q04; q0t) h3
theorem zdz (b : Bs) (st : Nat × Bool) (hb : b.length ≤ 20000000) (ha : st.1 ≤ b.length) : EvS (En Tryz.prog rfl).P 85 [] b st (q10 (q37 b st).1) (q37 b st).2 := by
 refine EvS.of_body it_k85 (by simp) fun v => Run.start ?_
 rw [scan_cut]
 have e1 := q18 b
 obtain ⟨a1, a2, a3⟩ := q2p (b := b) (most := 16) (st := st) ha
 have hs1 := q5z 16 (by omega) b st (by omega) ha
 generalize hR : q37 b st = R
 unfold q37 at hR
 generalize sN 16 b st = r at *
 obtain ⟨n, st1⟩ := r
 simp only at hs1 a1 a3 hR
 (focus (have hF := (aI @q04 @e1); (repeat' (first | refine go1 (k:=?_) | with_reducible refine Ny.of ?_ ?_ | (refine Hyp.of ?_; intro hc; (try simp only [hc]); (try simp only [Bh] at hc)))); all_goals clear hF))
 refine qh7 900000 [.int .i64 16] (he := hs1) (kk := ?_)
 (focus (have hF := (aI @q04 @e1); (repeat' (first | refine go1 (k:=?_) | with_reducible refine Ny.of ?_ ?_ | (refine Hyp.of ?_; intro hc; (try simp only [hc]); (try simp only [Bh] at hc)))); all_goals clear hF))
 refine Run.wk (Wk.own_cells (k := 3) (cs' := [.own 1 [], .own 3 []]) rfl rfl ?_) ?_
 ·intro i x y hx hy
  match i with
  | 0 => simp at hx hy; subst hx; subst hy; exact .inr ⟨rfl, 1, rfl⟩
  | 1 => simp at hx hy; subst hx; subst hy; exact .inr ⟨rfl, 3, rfl⟩
  | i + 2 => simp at hx
 refine Run.wk (Wk.lift (k := 3) (d := 100) (off := 0) rfl rfl rfl) ?_
 refine Run.wk (Wk.lift (k := 3) (d := 101) (off := 1) rfl rfl rfl) ?_
 generalize hV : qct b n [] st1 = V at hR
 refine Run.while (σ := Nat × List Int × Nat × Bool) (fun z => ⟨tms [(0, .ptr 900000 0), (2, .ptr 2 0), (3, .ptr 3 0), (4, .int .i64 (n : Int)), (5, .int .i64 (z.1 : Int))], mms [(2, .cells [.nil, .nil]), (3, .cells [.os 100 z.1, .os 101 0]), (100, .arr z.1 1 (q03 z.2.1)), (101, .arr 0 3 (q0g [])), (900000, .cells (scC b z.2.2.1 z.2.2.2)), (1900000, nt v)]⟩)
  (fun z => z.1 ≤ n ∧ z.1 = z.2.1.length ∧ z.2.2.1 ≤ b.length ∧ qmh z.2.1 ∧ qct b (n - z.1) z.2.1 z.2.2 = V) (fun z => n - z.1) (0, [], st1) (have hW := @q04; q0t) ⟨by omega, rfl, a1, by simp [qmh], hV⟩ ?_
 rintro ⟨i, acc, a, bad⟩ ⟨hi, hia, ha, hv, hr⟩
 simp only at hi hia ha hv hr
 unfold qec
 have e2 := q0d acc
 cases bad with
 | true =>
  have hV2 : V = (acc, a, true) := by
   rw [← hr]
   cases hk : n - i with
   | zero => rfl
   | succ k => rw [qct, if_pos rfl]
  subst hV2
  subst hia
  have h2 := scan_2 b acc (a, true) v hb ha hv (by omega) n R hR
  unfold qh8 at h2
  simp only at h2
  by_cases hlt : acc.length < n
  ·have hlt2 : (acc.length : Int) < (n : Int) := by omega
   (focus (have hF := (aI @q04 @hlt2); (repeat' (first | refine go1 (k:=?_) | with_reducible refine Ny.of ?_ ?_ | (refine Hyp.of ?_; intro hc; (try simp only [hc]); (try simp only [Bh] at hc)))); all_goals clear hF))
   exact Run.wk (have hW := @q04; q0t) h2
  ·have hlt2 : ¬ (acc.length : Int) < (n : Int) := by omega
   (focus (have hF := (aI @q04 @hlt2); (repeat' (first | refine go1 (k:=?_) | with_reducible refine Ny.of ?_ ?_ | (refine Hyp.of ?_; intro hc; (try simp only [hc]); (try simp only [Bh] at hc)))); all_goals clear hF))
   exact Run.wk (have hW := @q04; q0t) h2
 | false =>
  by_cases hlt : i < n
  ·have hlt2 : (i : Int) < (n : Int) := by omega
   obtain ⟨k, hk⟩ : ∃ k, n - i = k + 1 := ⟨n - i - 1, by omega⟩
   rw [hk, qct, if_neg (by simp)] at hr
   obtain ⟨c1, c2, c3⟩ := q2p (b := b) (most := 1000000000) (st := (a, false)) ha
   have hs := q5z 1000000000 (by omega) b (a, false) (by omega) ha
   generalize sN 1000000000 b (a, false) = r at *
   obtain ⟨x, a2, bad2⟩ := r
   simp only at hs c1 c3 hr
   have w1 := q0u (i := i) (by omega)
   (focus (have hF := (aI @q04 @hlt2); (repeat' (first | refine go1 (k:=?_) | with_reducible refine Ny.of ?_ ?_ | (refine Hyp.of ?_; intro hc; (try simp only [hc]); (try simp only [Bh] at hc)))); all_goals clear hF))
   ((with_reducible apply toW); refine stW (fun j => false) (k:=?_))
   (focus (have hF := @q04; (repeat' (first | refine go1 (k:=?_) | with_reducible refine Ny.of ?_ ?_ | (refine Hyp.of ?_; intro hc; (try simp only [hc]); (try simp only [Bh] at hc)))); all_goals clear hF))
   refine stScW [.int .i64 1000000000] (he := hs) (kk := ?_)
   (focus (have hF := (aI @q04 (aI @e2 @w1)); (repeat' (first | refine go1 (k:=?_) | with_reducible refine Ny.of ?_ ?_ | (refine Hyp.of ?_; intro hc; (try simp only [hc]); (try simp only [Bh] at hc)))); all_goals clear hF))
   (refine Fin.nextW ((i + 1, acc ++ [(x : Int)], a2, bad2)) ?_ (have hW := (aI @q04 @q2d); q0t); (try dsimp only))
   exact ⟨⟨by omega, by simp [hia], c1, fun y hy => by
    rcases List.mem_append.1 hy with hy | hy
    ·exact hv y hy
    ·simp at hy; subst hy; omega, by rw [show n - (i + 1) = k by omega]; exact hr⟩, by omega⟩
  ·have hin : i = n := by omega
   have hV2 : V = (acc, a, false) := by
    rw [← hr, hin, Nat.sub_self]
    rfl
   subst hV2
   subst hia
   have h2 := scan_2 b acc (a, false) v hb ha hv (by omega) n R hR
   unfold qh8 at h2
   simp only at h2
   have hlt2 : ¬ (acc.length : Int) < (n : Int) := by omega
   (focus (have hF := (aI @q04 @hlt2); (repeat' (first | refine go1 (k:=?_) | with_reducible refine Ny.of ?_ ?_ | (refine Hyp.of ?_; intro hc; (try simp only [hc]); (try simp only [Bh] at hc)))); all_goals clear hF))
   exact Run.wk (have hW := @q04; q0t) h2

def za3 : List SOp := [zO 2 (.alloc 25),zO 3 (.assign (.const (.int .i64 0)))]
instance : Live za3 := ⟨[0]⟩
def za2 : List SOp := [zM 6 0,zO 7 (.build 123 #[(0,.tmp 6)]),zO 4 (.alloc 123),⟨none,.store 123 (.tmp 4) (.tmp 7),none⟩]
instance : Live za2 := ⟨[0,2]⟩
def za1 : List SOp := [zO 8 (.call ⟨.value (.func 85),#[.tmp 4],#[123]⟩),zO 5 (.alloc 25),⟨none,.store 25 (.tmp 5) (.tmp 8),none⟩]
instance : Live za1 := ⟨[0,2,4]⟩
def za0 : List SOp := [zF 9 123 4 2,zL 10 4 9,zM 11 10,⟨some 12,.fieldAddr 123 (.tmp 4) 1,some ((some 11),false)⟩,⟨some 13,.load 3 (.tmp 12),some ((some 11),false)⟩,⟨some 14,.move (.tmp 0),some ((some 11),false)⟩,⟨some 15,.call ⟨.builtin .len,#[.tmp 14],#[28]⟩,some ((some 11),false)⟩,⟨some 16,.binOp .neq 3 (.tmp 13) (.tmp 15) 3,some ((some 11),false)⟩,zO 17 (.pick (.tmp 11) (.const (.bool true)) (.tmp 16))]
instance : Live za0 := ⟨[0,2,4,5]⟩
def z9z : List SOp := [zO 18 (.build 25 #[]),⟨none,.store 25 (.tmp 2) (.tmp 18),none⟩,zO 3 (.assign (.const (.int .i64 8)))]
instance : Live z9z := ⟨[2]⟩
def z9y : List SOp := [zL 19 25 5,⟨none,.store 25 (.tmp 2) (.tmp 19),none⟩,zO 3 (.assign (.const (.int .i64 0)))]
instance : Live z9y := ⟨[2,5]⟩
def t_k40 : SC :=
 (.seq (.ops false za3) (.seq (.ops false za2) (.seq (.ops false za1) (.seq (.seq (.ops false za0) (.cond (.tmp 17) (.seq (.ops false z9z) .ret) .skip)) (.seq (.ops false z9y) .ret)))))
theorem it_k40 : FnIs Tryz.prog 40 20 [.cell 2 25, .tmp 3] t_k40 := ⟨Tryz.f40, _, Tryz.func40, rfl, rfl, rfl, rfl, by kernel_rfl⟩

def z9x : List SOp := [zO 2 (.assign (.const (.slice none 0 0))),zO 3 (.assign (.const (.int .i64 0)))]
instance : Live z9x := ⟨[0]⟩
def z9w : List SOp := [zM 14 0,zO 15 (.build 123 #[(0,.tmp 14)]),zO 4 (.alloc 123),⟨none,.store 123 (.tmp 4) (.tmp 15),none⟩]
instance : Live z9w := ⟨[0]⟩
def z9v : List SOp := [zO 5 (.assign (.const (.slice none 0 0)))]
instance : Live z9v := ⟨[0,4]⟩
def z9u : List SOp := [zO 16 (.call ⟨.value (.func 86),#[.tmp 4,.const (.int .i64 4000000000)],#[123,3]⟩),zG 6 16]
instance : Live z9u := ⟨[0,4,5]⟩
def z9t : List SOp := [zO 7 (.assign (.const (.int .i64 0))),zO 8 (.assign (.const (.int .i64 0)))]
instance : Live z9t := ⟨[0,4,5,6]⟩
def z9s : List SOp := [zO 9 (.assign (.const (.int .i64 0)))]
instance : Live z9s := ⟨[0,4,5,6,7,8]⟩
def z9r : List SOp := [zM 17 9,zM 18 6,zO 19 (.binOp .lss 3 (.tmp 17) (.tmp 18) 3),zM 20 19,⟨some 21,.fieldAddr 123 (.tmp 4) 2,some ((some 20),true)⟩,⟨some 22,.load 4 (.tmp 21),some ((some 20),true)⟩,⟨some 23,.unOp .not 4 (.tmp 22),some ((some 20),true)⟩,zO 24 (.pick (.tmp 20) (.tmp 23) (.const (.bool false)))]
instance : Live z9r := ⟨[0,4,5,6,7,8,9]⟩
def z9q : List SOp := [zO 27 (.call ⟨.value (.func 86),#[.tmp 4,.const (.int .i64 16)],#[123,3]⟩),zO 28 (.call ⟨.value (.func 86),#[.tmp 4,.const (.int .i64 1000000000)],#[123,3]⟩),zG 10 27,zG 11 28]
instance : Live z9q := ⟨[0,4,5,6,7,8,9]⟩
def z9p : List SOp := [zO 29 (.call ⟨.value (.func 87),#[.tmp 4,.const (.int .i64 24)],#[123,3]⟩),zG 12 29]
instance : Live z9p := ⟨[0,4,5,6,7,8,9,10,11]⟩
def qsa : List SOp := [zO 30 (.call ⟨.value (.func 86),#[.tmp 4,.const (.int .i64 1000000)],#[123,3]⟩),zG 13 30]
instance : Live qsa := ⟨[0,4,5,6,7,8,9,10,11,12]⟩
def qs9 : List SOp := [zM 31 10,zO 32 (.binOp .gtr 3 (.tmp 31) (.const (.int .i64 0)) 3)]
instance : Live qs9 := ⟨[0,4,5,6,7,8,9,10,11,12,13]⟩
def qs8 : List SOp := [zO 8 (.assign (.const (.int .i64 0)))]
instance : Live qs8 := ⟨[0,4,5,6,7,9,10,11,12,13]⟩
def qs7 : List SOp := [zM 33 7,zM 34 10,zO 35 (.binOp .add 3 (.tmp 33) (.tmp 34) 3),zG 7 35]
instance : Live qs7 := ⟨[0,4,5,6,7,8,9,10,11,12,13]⟩
def qs6 : List SOp := [zM 36 8,zM 37 11,zO 38 (.binOp .add 3 (.tmp 37) (.const (.int .i64 1)) 3),zO 39 (.binOp .add 3 (.tmp 36) (.tmp 38) 3),zG 8 39]
instance : Live qs6 := ⟨[0,4,5,6,7,8,9,11,12,13]⟩
def qs5 : List SOp := [zM 40 5,zM 41 7,zM 42 8,zO 43 (.build 43 #[(0,.tmp 41),(1,.tmp 42)]),zM 44 12,zM 45 13,zO 46 (.binOp .add 3 (.tmp 45) (.const (.int .i64 1)) 3),zO 47 (.build 45 #[(0,.tmp 43),(1,.tmp 44),(2,.tmp 46)]),zO 48 (.buildSlice 26 1 #[(0,.tmp 47)]),zO 49 (.call ⟨.builtin .append,#[.tmp 40,.tmp 48],#[26,26]⟩),zG 5 49]
instance : Live qs5 := ⟨[0,4,5,6,7,8,9,12,13]⟩
def qs4 : List SOp := [zM 50 7,zO 51 (.binOp .geq 3 (.tmp 50) (.const (.int .i64 16)) 3),zM 52 51,⟨some 53,.move (.tmp 8),some ((some 52),false)⟩,⟨some 54,.binOp .gtr 3 (.tmp 53) (.const (.int .i64 1000000000)) 3,some ((some 52),false)⟩,zO 55 (.pick (.tmp 52) (.const (.bool true)) (.tmp 54))]
instance : Live qs4 := ⟨[0,4,5,6,7,8,9]⟩
def qs3 : List SOp := [zF 56 123 4 2,⟨none,.store 4 (.tmp 56) (.const (.bool true)),none⟩]
instance : Live qs3 := ⟨[0,4,5,6,7,8,9]⟩
def qs2 : List SOp := [zM 25 9,zO 26 (.binOp .add 3 (.tmp 25) (.const (.int .i64 1)) 3),zG 9 26]
instance : Live qs2 := ⟨[0,4,5,6,7,8,9]⟩
def qs1 : List SOp := [zF 57 123 4 2,zL 58 4 57,zM 59 58,⟨some 60,.fieldAddr 123 (.tmp 4) 1,some ((some 59),false)⟩,⟨some 61,.load 3 (.tmp 60),some ((some 59),false)⟩,⟨some 62,.move (.tmp 0),some ((some 59),false)⟩,⟨some 63,.call ⟨.builtin .len,#[.tmp 62],#[28]⟩,some ((some 59),false)⟩,⟨some 64,.binOp .neq 3 (.tmp 61) (.tmp 63) 3,some ((some 59),false)⟩,zO 65 (.pick (.tmp 59) (.const (.bool true)) (.tmp 64)),zM 66 65,⟨some 67,.move (.tmp 5),some ((some 66),false)⟩,⟨some 68,.call ⟨.value (.func 16),#[.tmp 67],#[26]⟩,some ((some 66),false)⟩,⟨some 69,.unOp .not 4 (.tmp 68),some ((some 66),false)⟩,zO 70 (.pick (.tmp 66) (.const (.bool true)) (.tmp 69))]
instance : Live qs1 := ⟨[0,4,5]⟩
def qs0 : List SOp := [zO 2 (.assign (.const (.slice none 0 0))),zO 3 (.assign (.const (.int .i64 8)))]
instance : Live qs0 := ⟨[]⟩
def qrz : List SOp := [zM 71 5,zG 2 71,zO 3 (.assign (.const (.int .i64 0)))]
instance : Live qrz := ⟨[5]⟩
def qpg : SC :=
 (.seq (.seq (.ops false z9r) (.cond (.tmp 24) .skip (.exit 0))) (.seq (.block 1 (.seq (.ops false z9q) (.seq (.ops false z9p) (.seq (.ops false qsa) (.seq (.seq (.ops false qs9) (.cond (.tmp 32) (.ops false qs8) .skip)) (.seq (.ops false qs7) (.seq (.ops false qs6) (.seq (.ops false qs5) (.seq (.ops false qs4) (.cond (.tmp 55) (.ops false qs3) .skip)))))))))) (.ops false qs2)))
def t_k41 : SC :=
 (.seq (.ops false z9x) (.seq (.ops false z9w) (.seq (.ops false z9v) (.seq (.ops false z9u) (.seq (.ops false z9t) (.seq (.seq (.ops false z9s) (.block 0 (.loop qpg))) (.seq (.seq (.ops false qs1) (.cond (.tmp 70) (.seq (.ops false qs0) .ret) .skip)) (.seq (.ops false qrz) .ret))))))))
theorem it_k41 : FnIs Tryz.prog 41 72 [.tmp 2, .tmp 3] t_k41 := ⟨Tryz.f41, _, Tryz.func41, rfl, rfl, rfl, rfl, by kernel_rfl⟩

theorem st_ite {c : Prop} [Decidable c] (r : Nat × Bool) : (if c then (r.1, true) else r).1 = r.1 := by split <;> rfl
theorem qek {b : Bs} : ∀ (k : Nat) (acc : List Int) (st : Nat × Bool), st.1 ≤ b.length → (qct b k acc st).2.1 ≤ b.length ∧ (qct b k acc st).1.length ≤ acc.length + k
 | 0, acc, st, h => ⟨h, Nat.le_refl _⟩
 | k + 1, acc, st, h => by
  rw [qct]
  split
  ·exact ⟨h, by simp only; omega⟩
  ·obtain ⟨h1, h2⟩ := qek (b := b) k (acc ++ [((sN 1000000000 b st).1 : Int)]) (sN 1000000000 b st).2 (q2p h).1
   rw [List.length_append, List.length_singleton] at h2
   exact ⟨h1, by omega⟩
theorem z3m {vec : List Int} {b : Bs} : ∀ (k i rep : Nat) (hi : Int) (acc : List Sn) (st : Nat × Bool), st.1 ≤ b.length → (qcu vec b k i rep hi acc st).2.1 ≤ b.length ∧ (qcu vec b k i rep hi acc st).1.length ≤ acc.length + k
 | 0, i, rep, hi, acc, st, h => ⟨h, Nat.le_refl _⟩
 | k + 1, i, rep, hi, acc, st, h => by
  rw [qcu]
  split
  ·exact ⟨h, by simp only; omega⟩
  ·have a1 := (q2p (most := 16) h).1
   have a2 := (q2p (most := 1000000000) a1).1
   have a3 := (q2p (most := 1000000000) a2).1
   have key : ∀ (rep' : Nat) (hi' : Int) (s : Sn) (st' : Nat × Bool), st'.1 ≤ b.length → (qcu vec b k (i + 1) rep' hi' (acc ++ [s]) st').2.1 ≤ b.length ∧ (qcu vec b k (i + 1) rep' hi' (acc ++ [s]) st').1.length ≤ acc.length + (k + 1) := fun rep' hi' s st' ha => by
    obtain ⟨h1, h2⟩ := z3m (vec := vec) (b := b) k (i + 1) rep' hi' (acc ++ [s]) st' ha
    rw [List.length_append, List.length_singleton] at h2
    exact ⟨h1, by omega⟩
   refine key _ _ _ _ ?_
   rw [st_ite]
   exact a3
theorem qpr {b : Bs} {st : Nat × Bool} (h : st.1 ≤ b.length) : (q37 b st).2.1 ≤ b.length ∧ wt (q37 b st).1 ≤ 16 + b.length := by
 obtain ⟨a1, _, a3⟩ := q2p (most := 16) h
 obtain ⟨b1, b2⟩ := qek (sN 16 b st).1 [] (sN 16 b st).2 a1
 obtain ⟨c1, _, c3⟩ := q2p (most := b.length) b1
 obtain ⟨d1, d2⟩ := z3m (vec := (qct b (sN 16 b st).1 [] (sN 16 b st).2).1) (sN b.length b (qct b (sN 16 b st).1 [] (sN 16 b st).2).2).1 0 0 0 [] _ c1
 simp only [List.length_nil, Nat.zero_add] at b2 d2
 unfold q37
 simp only
 refine ⟨?_, ?_⟩
 ·split
  ·exact d1
  ·exact d1
 ·unfold wt
  simp only
  omega
def z2r {α : Type} (z : α) (ok : α → Bool) (b : Bs) (r : α × Nat × Bool) : α := if (!r.2.2 && (decide (r.2.1 = b.length) && ok r.1)) = true then r.1 else z
def z2s {α : Type} (ok : α → Bool) (b : Bs) (r : α × Nat × Bool) : Int := if (!r.2.2 && (decide (r.2.1 = b.length) && ok r.1)) = true then 0 else 8
theorem ev_k40 (b : Bs) (hb : b.length ≤ 20000000) : Ev (En Tryz.prog rfl).P 40 [.sl 1 (q1k b)] (.ret (.tup [q10 (z2r ⟨[], []⟩ (fun _ => true) b (q37 b (0, false))), .int .i64 (z2s (fun _ => true) b (q37 b (0, false)))])) := by
 refine Ev.of_body it_k40 (by simp) (AW.wkEnd (Run.start ?_))
 unfold t_k40
 have e1 := q18 b
 have hs := zdz b (0, false) hb (Nat.zero_le _)
 unfold z2r z2s
 generalize q37 b (0, false) = R at *
 obtain ⟨p, a, bad⟩ := R
 simp only at hs ⊢
 (focus (have hF := (aI @q04 @e1); (repeat' (first | refine go1 (k:=?_) | with_reducible refine Ny.of ?_ ?_ | (refine Hyp.of ?_; intro hc; (try simp only [hc]); (try simp only [Bh] at hc)))); all_goals clear hF))
 refine qh7 4 [] (hv := q0c p) (he := hs) (kk := ?_)
 unfold q10
 cases bad with
 | true =>
  (focus (have hF := (aI @q04 @e1); (repeat' (first | refine go1 (k:=?_) | with_reducible refine Ny.of ?_ ?_ | (refine Hyp.of ?_; intro hc; (try simp only [hc]); (try simp only [Bh] at hc)))); all_goals clear hF))
  exact Fin.done ⟨_, Wk.cells_nil (k := 2) rfl sub2, [q10 ⟨[], []⟩, .int .i64 8], by with_unfolding_all rfl, by simp [q0i, q0c, AVal.stb], _, q1p _, rfl⟩
 | false =>
  by_cases hl : a = b.length
  ·have hl2 : ((a : Int) = (b.length : Int)) = True := eq_true (by omega)
   (focus (have hF := (aI @q04 (aI @e1 @hl2)); (repeat' (first | refine go1 (k:=?_) | with_reducible refine Ny.of ?_ ?_ | (refine Hyp.of ?_; intro hc; (try simp only [hc]); (try simp only [Bh] at hc)))); all_goals clear hF))
   have hd : decide (a = b.length) = true := decide_eq_true hl
   rw [hd]
   exact Fin.done ⟨_, Wk.refl _ _, [q10 p, .int .i64 0], by with_unfolding_all rfl, by simp [q0i, q0c, AVal.stb], _, q1p _, rfl⟩
  ·have hl2 : ((a : Int) = (b.length : Int)) = False := eq_false (by omega)
   (focus (have hF := (aI @q04 (aI @e1 @hl2)); (repeat' (first | refine go1 (k:=?_) | with_reducible refine Ny.of ?_ ?_ | (refine Hyp.of ?_; intro hc; (try simp only [hc]); (try simp only [Bh] at hc)))); all_goals clear hF))
   have hd : decide (a = b.length) = false := decide_eq_false hl
   rw [hd]
   exact Fin.done ⟨_, Wk.cells_nil (k := 2) rfl sub2, [q10 ⟨[], []⟩, .int .i64 8], by with_unfolding_all rfl, by simp [q0i, q0c, AVal.stb], _, q1p _, rfl⟩

theorem slN_lt {b : Bs} {most fr : Nat} : ∀ (k n u a : Nat), (slN b most fr k n u a).2.2 = false → a < (slN b most fr k n u a).2.1
 | 0, n, u, a, h => by simp [slN] at h
 | k + 1, n, u, a, h => by
  rw [slN] at h ⊢
  cases hg : b[a]? with
  | none => simp [hg] at h
  | some c =>
   rw [hg] at h
   simp only at h ⊢
   by_cases hc : c.toNat < 128
   ·rw [if_pos hc] at h ⊢
    by_cases hm : most < n + c.toNat % 128 * u ∨ (q20 (n + c.toNat % 128 * u)).length ≠ a + 1 - fr
    ·rw [if_pos hm] at h; cases h
    ·rw [if_neg hm]; exact Nat.lt_succ_self a
   ·rw [if_neg hc] at h ⊢
    have := slN_lt (b := b) (most := most) (fr := fr) k _ _ _ h
    omega
theorem sN_lt {b : Bs} {most : Nat} {st : Nat × Bool} (h : (sN most b st).2.2 = false) : st.1 < (sN most b st).2.1 := by
 unfold sN at h ⊢
 split
 ·rename_i hb; rw [if_pos hb] at h; cases h
 ·rename_i hb; rw [if_neg hb] at h; exact slN_lt _ _ _ _ h
def q93 (b : Bs) : (k rep at' : Nat) → List Ent → Nat × Bool → List Ent × Nat × Bool
 | 0, _, _, acc, st => (acc, st)
 | k + 1, rep, at', acc, st => if st.2 = true then (acc, st) else
  let r1 := sN 16 b st
  let r2 := sN 1000000000 b r1.2
  let r3 := sT 24 b r2.2
  let r4 := sN 1000000 b r3.2
  let num := (if 0 < r1.1 then 0 else at') + (r2.1 + 1)
  q93 b k (rep + r1.1) num (acc ++ [⟨((rep + r1.1 : Nat) : Int), (num : Int), r3.1, ((r4.1 + 1 : Nat) : Int)⟩]) (if 16 ≤ rep + r1.1 ∨ 1000000000 < num then (r4.2.1, true) else r4.2)
def q3i (b : Bs) : List Ent × Nat × Bool := q93 b (sN 4000000000 b (0, false)).1 0 0 [] (sN 4000000000 b (0, false)).2
theorem ev_k41 (b : Bs) (hb : b.length ≤ 20000000) : Ev (En Tryz.prog rfl).P 41 [.sl 1 (q1k b)] (.ret (.tup [.sl 4 (q1b (z2r [] q4k b (q3i b))), .int .i64 (z2s q4k b (q3i b))])) := by
 refine Ev.of_body it_k41 (by simp) (Run.start ?_)
 unfold t_k41
 have e1 := q18 b
 have hS := z1d
 obtain ⟨a1, a2, a3⟩ := q2p (b := b) (most := 4000000000) (st := (0, false)) (Nat.zero_le _)
 have hs1 := q5z 4000000000 (by omega) b (0, false) (by omega) (Nat.zero_le _)
 generalize hR : q3i b = R
 unfold q3i at hR
 generalize sN 4000000000 b (0, false) = r at *
 obtain ⟨n, st1⟩ := r
 simp only at hs1 a1 a3 hR
 (focus (have hF := (aI @q04 @e1); (repeat' (first | refine go1 (k:=?_) | with_reducible refine Ny.of ?_ ?_ | (refine Hyp.of ?_; intro hc; (try simp only [hc]); (try simp only [Bh] at hc)))); all_goals clear hF))
 refine qh7 4 [.int .i64 4000000000] (he := hs1) (kk := ?_)
 (focus (have hF := (aI @q04 @e1); (repeat' (first | refine go1 (k:=?_) | with_reducible refine Ny.of ?_ ?_ | (refine Hyp.of ?_; intro hc; (try simp only [hc]); (try simp only [Bh] at hc)))); all_goals clear hF))
 refine Run.wk (Wk.own_nil 5 100 4 rfl rfl) ?_
 refine Run.while (σ := Nat × Nat × Nat × List Ent × Nat × Bool) (fun z => ⟨tms [(0, .sl 1 (q1k b)), (4, .ptr 4 0), (5, .os 100 z.1), (6, .int .i64 (n : Int)), (7, .int .i64 (z.2.1 : Int)), (8, .int .i64 (z.2.2.1 : Int)), (9, .int .i64 (z.1 : Int))], mms [(4, .cells (scC b z.2.2.2.2.1 z.2.2.2.2.2)), (100, .arr z.1 4 (q1b z.2.2.2.1))]⟩)
  (fun z => z.1 ≤ n ∧ z.1 = z.2.2.2.1.length ∧ z.2.2.2.2.1 ≤ b.length ∧ z.1 ≤ b.length + 1 ∧ (z.2.2.2.2.2 = false → z.1 ≤ z.2.2.2.2.1 ∧ z.2.1 < 16 ∧ z.2.2.1 ≤ 1000000000) ∧ q93 b (n - z.1) z.2.1 z.2.2.1 z.2.2.2.1 z.2.2.2.2 = R) (fun z => n - z.1) (0, 0, 0, [], st1) (have hW := @q04; q0t) ⟨by omega, rfl, a1, by omega, fun _ => by simp only; omega, hR⟩ ?_
 rintro ⟨j, rep, at', es, a, bad⟩ ⟨hj, hjl, ha, hjb, hok, hr⟩
 simp only at hj hjl ha hjb hok hr
 unfold qpg
 have e2 := q6m es
 cases bad with
 | true =>
  have hC2 : R = (es, a, true) := by
   rw [← hr]
   cases hk : n - j with
   | zero => rfl
   | succ k => rw [q93, if_pos rfl]
  rw [hC2]
  by_cases hlt : j < n
  ·have hlt2 : (j : Int) < (n : Int) := by omega
   (focus (have hF := (aI @q04 @hlt2); (repeat' (first | refine go1 (k:=?_) | with_reducible refine Ny.of ?_ ?_ | (refine Hyp.of ?_; intro hc; (try simp only [hc]); (try simp only [Bh] at hc)))); all_goals clear hF))
   exact Fin.two rfl rfl rfl rfl (.inr ⟨rfl, 4, rfl⟩) (.inl rfl)
  ·have hlt2 : ¬ (j : Int) < (n : Int) := by omega
   (focus (have hF := (aI @q04 @hlt2); (repeat' (first | refine go1 (k:=?_) | with_reducible refine Ny.of ?_ ?_ | (refine Hyp.of ?_; intro hc; (try simp only [hc]); (try simp only [Bh] at hc)))); all_goals clear hF))
   exact Fin.two rfl rfl rfl rfl (.inr ⟨rfl, 4, rfl⟩) (.inl rfl)
 | false =>
  obtain ⟨o1, o2, o3⟩ := hok rfl
  by_cases hlt : j < n
  ·have hlt2 : (j : Int) < (n : Int) := by omega
   obtain ⟨k, hk⟩ : ∃ k, n - j = k + 1 := ⟨n - j - 1, by omega⟩
   rw [hk, q93, if_neg (by simp)] at hr
   obtain ⟨b1, b2, b3⟩ := q2p (b := b) (most := 16) (st := (a, false)) ha
   have b4 := sN_lt (b := b) (most := 16) (st := (a, false))
   have hs2 := q5z 16 (by omega) b (a, false) (by omega) ha
   generalize sN 16 b (a, false) = r1 at *
   obtain ⟨s, st2⟩ := r1
   simp only at hs2 b1 b2 b3 b4 hr
   obtain ⟨c1, c2, c3⟩ := q2p (b := b) (most := 1000000000) (st := st2) b1
   have c4 : (sN 1000000000 b st2).2.2 = false → st2.2 = false := fun h => by
    cases h2 : st2.2 with
    | false => rfl
    | true => unfold sN at h; rw [if_pos h2] at h; cases h
   have hs3 := q5z 1000000000 (by omega) b st2 (by omega) b1
   generalize sN 1000000000 b st2 = r2 at *
   obtain ⟨x, st3⟩ := r2
   simp only at hs3 c1 c2 c3 c4 hr
   obtain ⟨d1, d2⟩ := sT_le (b := b) (most := 24) (st := st3) c1
   have d4 : (sT 24 b st3).2.2 = false → st3.2 = false := fun h => by
    cases h2 : st3.2 with
    | false => rfl
    | true => unfold sT sN at h; simp [h2] at h
   have hs4 := zdy 24 (by omega) b st3 (by omega) c1
   generalize sT 24 b st3 = r3 at *
   obtain ⟨sku, st4⟩ := r3
   simp only at hs4 d1 d2 d4 hr
   obtain ⟨f1, f2, f3⟩ := q2p (b := b) (most := 1000000) (st := st4) d1
   have f4 : (sN 1000000 b st4).2.2 = false → st4.2 = false := fun h => by
    cases h2 : st4.2 with
    | false => rfl
    | true => unfold sN at h; rw [if_pos h2] at h; cases h
   have hs5 := q5z 1000000 (by omega) b st4 (by omega) d1
   generalize sN 1000000 b st4 = r4 at *
   obtain ⟨y, a5, bad5⟩ := r4
   simp only at hs5 f1 f2 f3 f4 hr
   have hadv : bad5 = false → a < a5 := fun h => by
    have := b4 (c4 (d4 (f4 h)))
    omega
   have w1 : IntKind.i64.wrap ((rep : Int) + (s : Int)) = ((rep + s : Nat) : Int) := q4l (by omega)
   have w2 : IntKind.i64.wrap ((x : Int) + 1) = ((x + 1 : Nat) : Int) := q0u (by omega)
   have w4 : IntKind.i64.wrap ((y : Int) + 1) = ((y + 1 : Nat) : Int) := q0u (by omega)
   have w6 := q0u (i := j) (by omega)
   (focus (have hF := (aI @q04 @hlt2); (repeat' (first | refine go1 (k:=?_) | with_reducible refine Ny.of ?_ ?_ | (refine Hyp.of ?_; intro hc; (try simp only [hc]); (try simp only [Bh] at hc)))); all_goals clear hF))
   refine qh7 4 [.int .i64 16] (he := hs2) (kk := ?_)
   (focus (have hF := @q04; (repeat' (first | refine go1 (k:=?_) | with_reducible refine Ny.of ?_ ?_ | (refine Hyp.of ?_; intro hc; (try simp only [hc]); (try simp only [Bh] at hc)))); all_goals clear hF))
   refine qh7 4 [.int .i64 1000000000] (he := hs3) (kk := ?_)
   (focus (have hF := @q04; (repeat' (first | refine go1 (k:=?_) | with_reducible refine Ny.of ?_ ?_ | (refine Hyp.of ?_; intro hc; (try simp only [hc]); (try simp only [Bh] at hc)))); all_goals clear hF))
   refine qh7 4 [.int .i64 24] (he := hs4) (kk := ?_)
   (focus (have hF := @q04; (repeat' (first | refine go1 (k:=?_) | with_reducible refine Ny.of ?_ ?_ | (refine Hyp.of ?_; intro hc; (try simp only [hc]); (try simp only [Bh] at hc)))); all_goals clear hF))
   refine qh7 4 [.int .i64 1000000] (he := hs5) (kk := ?_)
   by_cases hs0 : 0 < s
   ·have hs1 : (s : Int) > 0 := by omega
    rw [if_pos hs0] at hr
    rw [Nat.zero_add] at hr
    generalize hNN : x + 1 = num at *
    have w3 : IntKind.i64.wrap (0 + (num : Int)) = (num : Int) := by rw [q0b (by omega)]; omega
    have w3' : IntKind.i64.wrap (num : Int) = (num : Int) := q0b (by omega)
    have en : q1b es ++ [AVal.agg [.int .i64 ((rep + s : Nat) : Int), .int .i64 (num : Int), .str sku, .int .i64 ((y + 1 : Nat) : Int)]] = q1b (es ++ [⟨((rep + s : Nat) : Int), (num : Int), sku, ((y + 1 : Nat) : Int)⟩]) := by simp [q1b, ze6]
    by_cases h16 : 16 ≤ rep + s
    ·have h16' : ((rep + s : Nat) : Int) ≥ 16 := by omega
     rw [if_pos (.inl h16)] at hr
     (focus (have hF := (aI (aI (aI @q04 @e2) (aI @hs1 (aI @w3 @w3'))) (aI (aI @w1 (aI @w2 @w4)) (aI @w6 (aI @h16' @en)))); (repeat' (first | refine go1 (k:=?_) | with_reducible refine Ny.of ?_ ?_ | (refine Hyp.of ?_; intro hc; (try simp only [hc]); (try simp only [Bh] at hc)))); all_goals clear hF))
     (refine Fin.nextW ((j + 1, rep + s, num, es ++ [⟨((rep + s : Nat) : Int), (num : Int), sku, ((y + 1 : Nat) : Int)⟩], a5, true)) ?_ (have hW := (aI @q04 @q0l); q0t); (try dsimp only))
     exact ⟨⟨by omega, by simp [hjl], f1, by omega, (fun h => by cases h), by rw [show n - (j + 1) = k by omega]; exact hr⟩, by omega⟩
    ·have h16' : ¬ ((rep + s : Nat) : Int) ≥ 16 := by omega
     by_cases hbig : 1000000000 < num
     ·have hbig' : (num : Int) > 1000000000 := by omega
      rw [if_pos (.inr hbig)] at hr
      (focus (have hF := (aI (aI (aI @q04 (aI @e2 @hs1)) (aI @w3 (aI @w3' @w1))) (aI (aI @w2 (aI @w4 @w6)) (aI @h16' (aI @hbig' @en)))); (repeat' (first | refine go1 (k:=?_) | with_reducible refine Ny.of ?_ ?_ | (refine Hyp.of ?_; intro hc; (try simp only [hc]); (try simp only [Bh] at hc)))); all_goals clear hF))
      (refine Fin.nextW ((j + 1, rep + s, num, es ++ [⟨((rep + s : Nat) : Int), (num : Int), sku, ((y + 1 : Nat) : Int)⟩], a5, true)) ?_ (have hW := (aI @q04 @q0l); q0t); (try dsimp only))
      exact ⟨⟨by omega, by simp [hjl], f1, by omega, (fun h => by cases h), by rw [show n - (j + 1) = k by omega]; exact hr⟩, by omega⟩
     ·have hbig' : ¬ (num : Int) > 1000000000 := by omega
      rw [if_neg (by rintro (h | h); exact h16 h; exact hbig h)] at hr
      (focus (have hF := (aI (aI (aI @q04 (aI @e2 @hs1)) (aI @w3 (aI @w3' @w1))) (aI (aI @w2 (aI @w4 @w6)) (aI @h16' (aI @hbig' @en)))); (repeat' (first | refine go1 (k:=?_) | with_reducible refine Ny.of ?_ ?_ | (refine Hyp.of ?_; intro hc; (try simp only [hc]); (try simp only [Bh] at hc)))); all_goals clear hF))
      (refine Fin.nextW ((j + 1, rep + s, num, es ++ [⟨((rep + s : Nat) : Int), (num : Int), sku, ((y + 1 : Nat) : Int)⟩], a5, bad5)) ?_ (have hW := (aI @q04 @q0l); q0t); (try dsimp only))
      exact ⟨⟨by omega, by simp [hjl], f1, by omega, (fun h => ⟨by have := hadv h; omega, by omega, by omega⟩), by rw [show n - (j + 1) = k by omega]; exact hr⟩, by omega⟩
   ·have hs1 : ¬ (s : Int) > 0 := by omega
    rw [if_neg hs0] at hr
    generalize hNN : at' + (x + 1) = num at *
    have w3 : IntKind.i64.wrap ((at' : Int) + ((x + 1 : Nat) : Int)) = (num : Int) := by rw [q0b (by omega)]; omega
    have en : q1b es ++ [AVal.agg [.int .i64 ((rep + s : Nat) : Int), .int .i64 (num : Int), .str sku, .int .i64 ((y + 1 : Nat) : Int)]] = q1b (es ++ [⟨((rep + s : Nat) : Int), (num : Int), sku, ((y + 1 : Nat) : Int)⟩]) := by simp [q1b, ze6]
    by_cases h16 : 16 ≤ rep + s
    ·exfalso
     omega
    ·have h16' : ¬ ((rep + s : Nat) : Int) ≥ 16 := by omega
     by_cases hbig : 1000000000 < num
     ·have hbig' : (num : Int) > 1000000000 := by omega
      rw [if_pos (.inr hbig)] at hr
      (focus (have hF := (aI (aI (aI @q04 @e2) (aI @hs1 (aI @w3 @w1))) (aI (aI @w2 (aI @w4 @w6)) (aI @h16' (aI @hbig' @en)))); (repeat' (first | refine go1 (k:=?_) | with_reducible refine Ny.of ?_ ?_ | (refine Hyp.of ?_; intro hc; (try simp only [hc]); (try simp only [Bh] at hc)))); all_goals clear hF))
      (refine Fin.nextW ((j + 1, rep + s, num, es ++ [⟨((rep + s : Nat) : Int), (num : Int), sku, ((y + 1 : Nat) : Int)⟩], a5, true)) ?_ (have hW := (aI @q04 @q0l); q0t); (try dsimp only))
      exact ⟨⟨by omega, by simp [hjl], f1, by omega, (fun h => by cases h), by rw [show n - (j + 1) = k by omega]; exact hr⟩, by omega⟩
     ·have hbig' : ¬ (num : Int) > 1000000000 := by omega
      rw [if_neg (by rintro (h | h); exact h16 h; exact hbig h)] at hr
      (focus (have hF := (aI (aI (aI @q04 @e2) (aI @hs1 (aI @w3 @w1))) (aI (aI @w2 (aI @w4 @w6)) (aI @h16' (aI @hbig' @en)))); (repeat' (first | refine go1 (k:=?_) | with_reducible refine Ny.of ?_ ?_ | (refine Hyp.of ?_; intro hc; (try simp only [hc]); (try simp only [Bh] at hc)))); all_goals clear hF))
      (refine Fin.nextW ((j + 1, rep + s, num, es ++ [⟨((rep + s : Nat) : Int), (num : Int), sku, ((y + 1 : Nat) : Int)⟩], a5, bad5)) ?_ (have hW := (aI @q04 @q0l); q0t); (try dsimp only))
      exact ⟨⟨by omega, by simp [hjl], f1, by omega, (fun h => ⟨by have := hadv h; omega, by omega, by omega⟩), by rw [show n - (j + 1) = k by omega]; exact hr⟩, by omega⟩
  ·have hC2 : R = (es, a, false) := by
    rw [← hr, show j = n by omega, Nat.sub_self]
    rfl
   rw [hC2]
   have hlt2 : ¬ (j : Int) < (n : Int) := by omega
   have c0 := ev_k16 es (by omega)
   unfold z2r z2s
   simp only
   by_cases hl : a = b.length
   ·have hl2 : ((a : Int) = (b.length : Int)) = True := eq_true (by omega)
    rw [decide_eq_true hl]
    (focus (have hF := (aI (aI @q04 @e1) (aI @hlt2 @hl2)); (repeat' (first | refine go1 (k:=?_) | with_reducible refine Ny.of ?_ ?_ | (refine Hyp.of ?_; intro hc; (try simp only [hc]); (try simp only [Bh] at hc)))); all_goals clear hF))
    refine q73 (fun j => j == 100) (l := [.sl 4 (q1b es)]) rfl (by simp [evs, ev, fz, fzc, upd, tms, mms]) (by simp [q0i, AVal.stb, q0l]) c0 rfl rfl ?_
    cases hf : q4k es with
    | true =>
     (focus (have hF := @q04; (repeat' (first | refine go1 (k:=?_) | with_reducible refine Ny.of ?_ ?_ | (refine Hyp.of ?_; intro hc; (try simp only [hc]); (try simp only [Bh] at hc)))); all_goals clear hF))
     exact Fin.two (x := .sl 4 (q1b es)) (by simp [fz, fzc, mms, upd, tms, q74]) (q0l _) rfl rfl (.inl rfl) (.inl rfl)
    | false =>
     (focus (have hF := @q04; (repeat' (first | refine go1 (k:=?_) | with_reducible refine Ny.of ?_ ?_ | (refine Hyp.of ?_; intro hc; (try simp only [hc]); (try simp only [Bh] at hc)))); all_goals clear hF))
     exact Fin.two rfl rfl rfl rfl (.inr ⟨rfl, 4, rfl⟩) (.inl rfl)
   ·have hl2 : ((a : Int) = (b.length : Int)) = False := eq_false (by omega)
    rw [decide_eq_false hl]
    (focus (have hF := (aI (aI @q04 @e1) (aI @hlt2 @hl2)); (repeat' (first | refine go1 (k:=?_) | with_reducible refine Ny.of ?_ ?_ | (refine Hyp.of ?_; intro hc; (try simp only [hc]); (try simp only [Bh] at hc)))); all_goals clear hF))
    exact Fin.two rfl rfl rfl rfl (.inr ⟨rfl, 4, rfl⟩) (.inl rfl)

def z9o : List SOp := [zO 2 (.assign (.const (.slice none 0 0))),zO 3 (.assign (.const (.int .i64 0)))]
instance : Live z9o := ⟨[0]⟩
def z9n : List SOp := [zM 9 0,zO 10 (.build 123 #[(0,.tmp 9)]),zO 4 (.alloc 123),⟨none,.store 123 (.tmp 4) (.tmp 10),none⟩]
instance : Live z9n := ⟨[0]⟩
def z9m : List SOp := [zO 5 (.assign (.const (.slice none 0 0)))]
instance : Live z9m := ⟨[0,4]⟩
def z9l : List SOp := [zO 11 (.call ⟨.value (.func 86),#[.tmp 4,.const (.int .i64 4000000000)],#[123,3]⟩),zG 6 11]
instance : Live z9l := ⟨[0,4,5]⟩
def z9k : List SOp := [zO 7 (.assign (.const (.int .i64 0)))]
instance : Live z9k := ⟨[0,4,5,6]⟩
def z9j : List SOp := [zM 12 7,zM 13 6,zO 14 (.binOp .lss 3 (.tmp 12) (.tmp 13) 3),zM 15 14,⟨some 16,.fieldAddr 123 (.tmp 4) 2,some ((some 15),true)⟩,⟨some 17,.load 4 (.tmp 16),some ((some 15),true)⟩,⟨some 18,.unOp .not 4 (.tmp 17),some ((some 15),true)⟩,zO 19 (.pick (.tmp 15) (.tmp 18) (.const (.bool false)))]
instance : Live z9j := ⟨[0,4,5,6,7]⟩
def z9i : List SOp := [zO 22 (.call ⟨.value (.func 87),#[.tmp 4,.const (.int .i64 24)],#[123,3]⟩),zG 8 22]
instance : Live z9i := ⟨[0,4,5,6,7]⟩
def z9h : List SOp := [zM 23 5,zM 24 8,zO 25 (.call ⟨.value (.func 85),#[.tmp 4],#[123]⟩),zO 26 (.build 84 #[(0,.tmp 24),(1,.tmp 25)]),zO 27 (.buildSlice 27 1 #[(0,.tmp 26)]),zO 28 (.call ⟨.builtin .append,#[.tmp 23,.tmp 27],#[27,27]⟩),zG 5 28]
instance : Live z9h := ⟨[0,4,5,6,7,8]⟩
def z9g : List SOp := [zM 29 8,zO 30 (.binOp .neq 9 (.tmp 29) (.const (.string ⟨#[]⟩)) 9),zM 31 30,⟨some 32,.move (.tmp 8),some ((some 31),true)⟩,⟨some 33,.call ⟨.value (.func 52),#[.tmp 32],#[9]⟩,some ((some 31),true)⟩,⟨some 34,.unOp .not 4 (.tmp 33),some ((some 31),true)⟩,zO 35 (.pick (.tmp 31) (.tmp 34) (.const (.bool false)))]
instance : Live z9g := ⟨[0,4,5,6,7,8]⟩
def qry : List SOp := [zF 36 123 4 2,⟨none,.store 4 (.tmp 36) (.const (.bool true)),none⟩]
instance : Live qry := ⟨[0,4,5,6,7]⟩
def qrx : List SOp := [zM 20 7,zO 21 (.binOp .add 3 (.tmp 20) (.const (.int .i64 1)) 3),zG 7 21]
instance : Live qrx := ⟨[0,4,5,6,7]⟩
def qrw : List SOp := [zF 37 123 4 2,zL 38 4 37,zM 39 38,⟨some 40,.fieldAddr 123 (.tmp 4) 1,some ((some 39),false)⟩,⟨some 41,.load 3 (.tmp 40),some ((some 39),false)⟩,⟨some 42,.move (.tmp 0),some ((some 39),false)⟩,⟨some 43,.call ⟨.builtin .len,#[.tmp 42],#[28]⟩,some ((some 39),false)⟩,⟨some 44,.binOp .neq 3 (.tmp 41) (.tmp 43) 3,some ((some 39),false)⟩,zO 45 (.pick (.tmp 39) (.const (.bool true)) (.tmp 44)),zM 46 45,⟨some 47,.move (.tmp 5),some ((some 46),false)⟩,⟨some 48,.call ⟨.value (.func 25),#[.tmp 47],#[27]⟩,some ((some 46),false)⟩,⟨some 49,.binOp .neq 35 (.tmp 48) (.const (.int .i64 0)) 35,some ((some 46),false)⟩,zO 50 (.pick (.tmp 46) (.const (.bool true)) (.tmp 49))]
instance : Live qrw := ⟨[0,4,5]⟩
def qrv : List SOp := [zO 2 (.assign (.const (.slice none 0 0))),zO 3 (.assign (.const (.int .i64 8)))]
instance : Live qrv := ⟨[]⟩
def qru : List SOp := [zM 51 5,zG 2 51,zO 3 (.assign (.const (.int .i64 0)))]
instance : Live qru := ⟨[5]⟩
def qpf : SC :=
 (.seq (.seq (.ops false z9j) (.cond (.tmp 19) .skip (.exit 0))) (.seq (.block 1 (.seq (.ops false z9i) (.seq (.ops false z9h) (.seq (.ops false z9g) (.cond (.tmp 35) (.ops false qry) .skip))))) (.ops false qrx)))
def t_k42 : SC :=
 (.seq (.ops false z9o) (.seq (.ops false z9n) (.seq (.ops false z9m) (.seq (.ops false z9l) (.seq (.seq (.ops false z9k) (.block 0 (.loop qpf))) (.seq (.seq (.ops false qrw) (.cond (.tmp 50) (.seq (.ops false qrv) .ret) .skip)) (.seq (.ops false qru) .ret)))))))
theorem it_k42 : FnIs Tryz.prog 42 52 [.tmp 2, .tmp 3] t_k42 := ⟨Tryz.f42, _, Tryz.func42, rfl, rfl, rfl, rfl, by kernel_rfl⟩

def ScA (st st' : Nat × Bool) : Prop := st.1 ≤ st'.1 ∧ (st'.2 = false → st.2 = false)
theorem ScA.rfl' (st : Nat × Bool) : ScA st st := ⟨Nat.le_refl _, fun h => h⟩
theorem ScA.trans {a b c : Nat × Bool} (h1 : ScA a b) (h2 : ScA b c) : ScA a c := ⟨Nat.le_trans h1.1 h2.1, fun h => h1.2 (h2.2 h)⟩
theorem ScA.ite {a b : Nat × Bool} {c : Prop} [Decidable c] (h : ScA a b) : ScA a (if c then (b.1, true) else b) := by
 split
 ·exact ⟨h.1, fun h => by cases h⟩
 ·exact h
theorem z3l {b : Bs} {most : Nat} {st : Nat × Bool} (h : (sN most b st).2.2 = false) : st.2 = false := by
 cases h2 : st.2 with
 | false => rfl
 | true => unfold sN at h; rw [if_pos h2] at h; cases h
theorem qdf {b : Bs} {most : Nat} {st : Nat × Bool} (h : st.1 ≤ b.length) : ScA st (sN most b st).2 := ⟨(q2p h).2.1, z3l⟩
theorem sT_good {b : Bs} {most : Nat} {st : Nat × Bool} (h : (sT most b st).2.2 = false) : (sN most b st).2.2 = false := by
 unfold sT at h
 split at h
 ·cases h
 ·rename_i hc
  cases h2 : (sN most b st).2.2 with
  | false => rfl
  | true => exact absurd (.inl h2) hc
theorem sT_lt {b : Bs} {most : Nat} {st : Nat × Bool} (h : (sT most b st).2.2 = false) : st.1 < (sT most b st).2.1 := by
 have h1 := sN_lt (sT_good h)
 unfold sT
 split
 ·exact h1
 ·simp only; omega
theorem qpq {b : Bs} : ∀ (k : Nat) (acc : List Int) (st : Nat × Bool), st.1 ≤ b.length → ScA st (qct b k acc st).2
 | 0, acc, st, h => ScA.rfl' st
 | k + 1, acc, st, h => by
  rw [qct]
  split
  ·exact ScA.rfl' st
  ·exact (qdf h).trans (qpq k _ _ (q2p h).1)
theorem qpu {vec : List Int} {b : Bs} : ∀ (k i rep : Nat) (hi : Int) (acc : List Sn) (st : Nat × Bool), st.1 ≤ b.length → ScA st (qcu vec b k i rep hi acc st).2
 | 0, i, rep, hi, acc, st, h => ScA.rfl' st
 | k + 1, i, rep, hi, acc, st, h => by
  rw [qcu]
  split
  ·exact ScA.rfl' st
  ·have a1 := (q2p (most := 16) h).1
   have a2 := (q2p (most := 1000000000) a1).1
   have a3 := (q2p (most := 1000000000) a2).1
   refine ScA.trans ?_ (qpu k _ _ _ _ _ (by rw [st_ite]; exact a3))
   exact ScA.ite ((qdf h).trans ((qdf a1).trans (qdf a2)))
theorem qhg {b : Bs} {st : Nat × Bool} (h : st.1 ≤ b.length) : ScA st (q37 b st).2 := by
 obtain ⟨a1, _, a3⟩ := q2p (most := 16) h
 obtain ⟨b1, b2⟩ := qek (sN 16 b st).1 [] (sN 16 b st).2 a1
 obtain ⟨c1, _, c3⟩ := q2p (most := b.length) b1
 have key := (qdf (most := 16) h).trans ((qpq (sN 16 b st).1 [] (sN 16 b st).2 a1).trans ((qdf (most := b.length) b1).trans (qpu (vec := (qct b (sN 16 b st).1 [] (sN 16 b st).2).1) (sN b.length b (qct b (sN 16 b st).1 [] (sN 16 b st).2).2).1 0 0 0 [] _ c1)))
 unfold q37
 simp only
 split
 ·exact key
 ·exact ⟨key.1, fun h => by cases h⟩
def qa4 (b : Bs) : (k : Nat) → List Rec → Nat × Bool → List Rec × Nat × Bool
 | 0, acc, st => (acc, st)
 | k + 1, acc, st => if st.2 = true then (acc, st) else
  let r1 := sT 24 b st
  let r2 := q37 b r1.2
  qa4 b k (acc ++ [⟨r1.1, r2.1⟩]) (if ¬ r1.1.size = 0 ∧ q4e r1.1 = false then (r2.2.1, true) else r2.2)
def q3h (b : Bs) : List Rec × Nat × Bool := qa4 b (sN 4000000000 b (0, false)).1 [] (sN 4000000000 b (0, false)).2
theorem ev_k42 (b : Bs) (hb : b.length ≤ 20000000) : Ev (En Tryz.prog rfl).P 42 [.sl 1 (q1k b)] (.ret (.tup [.sl 3 (q1j (z2r [] q4f b (q3h b))), .int .i64 (z2s q4f b (q3h b))])) := by
 refine Ev.of_body it_k42 (by simp) (Run.start ?_)
 unfold t_k42
 have e1 := q18 b
 have hS := z1d
 obtain ⟨a1, a2, a3⟩ := q2p (b := b) (most := 4000000000) (st := (0, false)) (Nat.zero_le _)
 have hs1 := q5z 4000000000 (by omega) b (0, false) (by omega) (Nat.zero_le _)
 generalize hR : q3h b = R
 unfold q3h at hR
 generalize sN 4000000000 b (0, false) = r at *
 obtain ⟨n, st1⟩ := r
 simp only at hs1 a1 a3 hR
 (focus (have hF := (aI @q04 @e1); (repeat' (first | refine go1 (k:=?_) | with_reducible refine Ny.of ?_ ?_ | (refine Hyp.of ?_; intro hc; (try simp only [hc]); (try simp only [Bh] at hc)))); all_goals clear hF))
 refine qh7 4 [.int .i64 4000000000] (he := hs1) (kk := ?_)
 (focus (have hF := (aI @q04 @e1); (repeat' (first | refine go1 (k:=?_) | with_reducible refine Ny.of ?_ ?_ | (refine Hyp.of ?_; intro hc; (try simp only [hc]); (try simp only [Bh] at hc)))); all_goals clear hF))
 refine Run.wk (Wk.own_nil 5 100 3 rfl rfl) ?_
 refine Run.while (σ := Nat × List Rec × Nat × Bool) (fun z => ⟨tms [(0, .sl 1 (q1k b)), (4, .ptr 4 0), (5, .os 100 z.1), (6, .int .i64 (n : Int)), (7, .int .i64 (z.1 : Int))], mms [(4, .cells (scC b z.2.2.1 z.2.2.2)), (100, .arr z.1 3 (q1j z.2.1))]⟩)
  (fun z => z.1 ≤ n ∧ z.1 = z.2.1.length ∧ z.2.2.1 ≤ b.length ∧ z.1 ≤ b.length + 1 ∧ (∀ r ∈ z.2.1, wt r.past ≤ 30000000) ∧ (z.2.2.2 = false → z.1 ≤ z.2.2.1) ∧ qa4 b (n - z.1) z.2.1 z.2.2 = R) (fun z => n - z.1) (0, [], st1) (have hW := @q04; q0t) ⟨by omega, rfl, a1, by omega, (fun r hr => by cases hr), fun _ => by simp only; omega, hR⟩ ?_
 rintro ⟨j, ks, a, bad⟩ ⟨hj, hjl, ha, hjb, hw, hok, hr⟩
 simp only at hj hjl ha hjb hw hok hr
 unfold qpf
 have e2 := q6j ks
 cases bad with
 | true =>
  have hC2 : R = (ks, a, true) := by
   rw [← hr]
   cases hk : n - j with
   | zero => rfl
   | succ k => rw [qa4, if_pos rfl]
  rw [hC2]
  by_cases hlt : j < n
  ·have hlt2 : (j : Int) < (n : Int) := by omega
   (focus (have hF := (aI @q04 @hlt2); (repeat' (first | refine go1 (k:=?_) | with_reducible refine Ny.of ?_ ?_ | (refine Hyp.of ?_; intro hc; (try simp only [hc]); (try simp only [Bh] at hc)))); all_goals clear hF))
   exact Fin.two rfl rfl rfl rfl (.inr ⟨rfl, 3, rfl⟩) (.inl rfl)
  ·have hlt2 : ¬ (j : Int) < (n : Int) := by omega
   (focus (have hF := (aI @q04 @hlt2); (repeat' (first | refine go1 (k:=?_) | with_reducible refine Ny.of ?_ ?_ | (refine Hyp.of ?_; intro hc; (try simp only [hc]); (try simp only [Bh] at hc)))); all_goals clear hF))
   exact Fin.two rfl rfl rfl rfl (.inr ⟨rfl, 3, rfl⟩) (.inl rfl)
 | false =>
  have o1 := hok rfl
  by_cases hlt : j < n
  ·have hlt2 : (j : Int) < (n : Int) := by omega
   obtain ⟨k, hk⟩ : ∃ k, n - j = k + 1 := ⟨n - j - 1, by omega⟩
   rw [hk, qa4, if_neg (by simp)] at hr
   obtain ⟨d1, d2⟩ := sT_le (b := b) (most := 24) (st := (a, false)) ha
   have d4 := sT_lt (b := b) (most := 24) (st := (a, false))
   have hs4 := zdy 24 (by omega) b (a, false) (by omega) ha
   generalize sT 24 b (a, false) = r3 at *
   obtain ⟨sku, st4⟩ := r3
   simp only at hs4 d1 d2 d4 hr
   obtain ⟨f1, f2⟩ := qpr (b := b) (st := st4) d1
   have f3 := qhg (b := b) (st := st4) d1
   have hs5 := zdz b st4 hb d1
   generalize q37 b st4 = r4 at *
   obtain ⟨q, a5, bad5⟩ := r4
   unfold ScA at f3
   simp only at hs5 f1 f2 f3 hr
   have hadv : bad5 = false → a < a5 := fun h => by
    have := d4 (f3.2 h)
    omega
   have w6 := q0u (i := j) (by omega)
   have hw' : ∀ r ∈ ks ++ [(⟨sku, q⟩ : Rec)], wt r.past ≤ 30000000 := fun r hr => by
    rcases List.mem_append.1 hr with h | h
    ·exact hw r h
    ·rw [List.mem_singleton.1 h]; simp only; omega
   have en : q1j ks ++ [AVal.agg [.str sku, .sl 1 (q03 q.vec), .sl 3 (q0g q.cloud)]] = q1j (ks ++ [⟨sku, q⟩]) := by simp [q1j, qat]
   have e := qmq sku
   have c1 := zdl sku
   have eq := qo7 q
   (focus (have hF := (aI @q04 @hlt2); (repeat' (first | refine go1 (k:=?_) | with_reducible refine Ny.of ?_ ?_ | (refine Hyp.of ?_; intro hc; (try simp only [hc]); (try simp only [Bh] at hc)))); all_goals clear hF))
   refine qh7 4 [.int .i64 24] (he := hs4) (kk := ?_)
   by_cases h0 : sku.size = 0
   ·have h0' : (sku.size = 0) = True := eq_true h0
    rw [h0'] at e
    rw [if_neg (fun h => h.1 h0)] at hr
    (focus (have hF := @q04; (repeat' (first | refine go1 (k:=?_) | with_reducible refine Ny.of ?_ ?_ | (refine Hyp.of ?_; intro hc; (try simp only [hc]); (try simp only [Bh] at hc)))); all_goals clear hF))
    refine qh7 4 [] (hv := q0c q) (he := hs5) (kk := ?_)
    (focus (have hF := (aI (aI (aI @q04 @e1) (aI @e2 @eq)) (aI (aI @e @decide_true) (aI @Bool.not_true (aI @en @w6)))); (repeat' (first | refine go1 (k:=?_) | with_reducible refine Ny.of ?_ ?_ | (refine Hyp.of ?_; intro hc; (try simp only [hc]); (try simp only [Bh] at hc)))); all_goals clear hF))
    (refine Fin.nextW ((j + 1, ks ++ [⟨sku, q⟩], a5, bad5)) ?_ (have hW := (aI @q04 @q0p); q0t); (try dsimp only))
    exact ⟨⟨by omega, by simp [hjl], f1, by omega, hw', (fun h => by have := hadv h; omega), by rw [show n - (j + 1) = k by omega]; exact hr⟩, by omega⟩
   ·have h0' : (sku.size = 0) = False := eq_false h0
    rw [h0'] at e
    cases hg : q4e sku with
    | true =>
     rw [if_neg (fun h => by rw [hg] at h; cases h.2)] at hr
     rw [hg] at c1
     (focus (have hF := @q04; (repeat' (first | refine go1 (k:=?_) | with_reducible refine Ny.of ?_ ?_ | (refine Hyp.of ?_; intro hc; (try simp only [hc]); (try simp only [Bh] at hc)))); all_goals clear hF))
     refine qh7 4 [] (hv := q0c q) (he := hs5) (kk := ?_)
     (focus (have hF := (aI (aI (aI @q04 @e1) (aI @e2 @eq)) (aI (aI @e @decide_false) (aI @Bool.not_false @en))); (repeat' (first | refine go1 (k:=?_) | with_reducible refine Ny.of ?_ ?_ | (refine Hyp.of ?_; intro hc; (try simp only [hc]); (try simp only [Bh] at hc)))); all_goals clear hF))
     refine q05 [.str sku] (he := c1) (k:=?_)
     (focus (have hF := (aI @q04 @w6); (repeat' (first | refine go1 (k:=?_) | with_reducible refine Ny.of ?_ ?_ | (refine Hyp.of ?_; intro hc; (try simp only [hc]); (try simp only [Bh] at hc)))); all_goals clear hF))
     (refine Fin.nextW ((j + 1, ks ++ [⟨sku, q⟩], a5, bad5)) ?_ (have hW := (aI @q04 @q0p); q0t); (try dsimp only))
     exact ⟨⟨by omega, by simp [hjl], f1, by omega, hw', (fun h => by have := hadv h; omega), by rw [show n - (j + 1) = k by omega]; exact hr⟩, by omega⟩
    | false =>
     rw [if_pos ⟨h0, hg⟩] at hr
     rw [hg] at c1
     (focus (have hF := @q04; (repeat' (first | refine go1 (k:=?_) | with_reducible refine Ny.of ?_ ?_ | (refine Hyp.of ?_; intro hc; (try simp only [hc]); (try simp only [Bh] at hc)))); all_goals clear hF))
     refine qh7 4 [] (hv := q0c q) (he := hs5) (kk := ?_)
     (focus (have hF := (aI (aI (aI @q04 @e1) (aI @e2 @eq)) (aI (aI @e @decide_false) (aI @Bool.not_false @en))); (repeat' (first | refine go1 (k:=?_) | with_reducible refine Ny.of ?_ ?_ | (refine Hyp.of ?_; intro hc; (try simp only [hc]); (try simp only [Bh] at hc)))); all_goals clear hF))
     refine q05 [.str sku] (he := c1) (k:=?_)
     (focus (have hF := (aI @q04 @w6); (repeat' (first | refine go1 (k:=?_) | with_reducible refine Ny.of ?_ ?_ | (refine Hyp.of ?_; intro hc; (try simp only [hc]); (try simp only [Bh] at hc)))); all_goals clear hF))
     (refine Fin.nextW ((j + 1, ks ++ [⟨sku, q⟩], a5, true)) ?_ (have hW := (aI @q04 @q0p); q0t); (try dsimp only))
     exact ⟨⟨by omega, by simp [hjl], f1, by omega, hw', (fun h => by cases h), by rw [show n - (j + 1) = k by omega]; exact hr⟩, by omega⟩
  ·have hC2 : R = (ks, a, false) := by
    rw [← hr, show j = n by omega, Nat.sub_self]
    rfl
   rw [hC2]
   have hlt2 : ¬ (j : Int) < (n : Int) := by omega
   have c0 := qd6 ks (by omega) hw
   unfold z2r z2s
   simp only
   by_cases hl : a = b.length
   ·have hl2 : ((a : Int) = (b.length : Int)) = True := eq_true (by omega)
    rw [decide_eq_true hl]
    (focus (have hF := (aI (aI @q04 @e1) (aI @hlt2 @hl2)); (repeat' (first | refine go1 (k:=?_) | with_reducible refine Ny.of ?_ ?_ | (refine Hyp.of ?_; intro hc; (try simp only [hc]); (try simp only [Bh] at hc)))); all_goals clear hF))
    cases hf : q4f ks with
    | true =>
     rw [if_pos hf] at c0
     refine q73 (fun j => j == 100) (l := [.sl 3 (q1j ks)]) rfl (by simp [evs, ev, fz, fzc, upd, tms, mms]) (by simp [q0i, AVal.stb, q0p]) c0 rfl rfl ?_
     (focus (have hF := @q04; (repeat' (first | refine go1 (k:=?_) | with_reducible refine Ny.of ?_ ?_ | (refine Hyp.of ?_; intro hc; (try simp only [hc]); (try simp only [Bh] at hc)))); all_goals clear hF))
     exact Fin.two (x := .sl 3 (q1j ks)) (by simp [fz, fzc, mms, upd, tms, q74]) (q0p _) rfl rfl (.inl rfl) (.inl rfl)
    | false =>
     rw [if_neg (by rw [hf]; decide)] at c0
     refine q73 (fun j => j == 100) (l := [.sl 3 (q1j ks)]) rfl (by simp [evs, ev, fz, fzc, upd, tms, mms]) (by simp [q0i, AVal.stb, q0p]) c0 rfl rfl ?_
     (focus (have hF := @q04; (repeat' (first | refine go1 (k:=?_) | with_reducible refine Ny.of ?_ ?_ | (refine Hyp.of ?_; intro hc; (try simp only [hc]); (try simp only [Bh] at hc)))); all_goals clear hF))
     exact Fin.two rfl rfl rfl rfl (.inr ⟨rfl, 3, rfl⟩) (.inl rfl)
   ·have hl2 : ((a : Int) = (b.length : Int)) = False := eq_false (by omega)
    rw [decide_eq_false hl]
    (focus (have hF := (aI (aI @q04 @e1) (aI @hlt2 @hl2)); (repeat' (first | refine go1 (k:=?_) | with_reducible refine Ny.of ?_ ?_ | (refine Hyp.of ?_; intro hc; (try simp only [hc]); (try simp only [Bh] at hc)))); all_goals clear hF))
    exact Fin.two rfl rfl rfl rfl (.inr ⟨rfl, 3, rfl⟩) (.inl rfl)

theorem eta3 {α : Type} {r : α × Nat × Bool} (h : r.2.2 = false) : r = (r.1, r.2.1, false) := by
 obtain ⟨x, a, c⟩ := r
 simp only at h
 rw [h]
theorem z3h {b : Bs} {most fr N : Nat} (hN : N ≤ most) : ∀ (k m n u a : Nat) (r : Bs), 0 < k → m < 128 ^ k → n + m * u = N → a + (q20 m).length = fr + (q20 N).length → fr ≤ a → b.drop a = q20 m ++ r → slN b most fr k n u a = (N, a + (q20 m).length, false)
 | 0, m, n, u, a, r, hk, _, _, _, _, _ => absurd hk (Nat.lt_irrefl 0)
 | k + 1, m, n, u, a, r, hk, hm, hv, hl, hf, hd => by
  by_cases hlt : m < 128
  ·rw [q3b hlt] at hd hl ⊢
   obtain ⟨g1, g2⟩ := qau (c := UInt8.ofNat m) (r := r) hd
   have hc := u8n (n := m) (by omega)
   rw [slN, g1]
   simp only [hc]
   rw [if_pos hlt, Nat.mod_eq_of_lt hlt, hv]
   simp only [List.length_cons, List.length_nil] at hl ⊢
   rw [if_neg (by rintro (h | h) <;> omega)]
  ·rw [q6a hlt] at hd hl ⊢
   obtain ⟨g1, g2⟩ := qau (c := UInt8.ofNat (m % 128 + 128)) (r := q20 (m / 128) ++ r) hd
   have hc := u8n (n := m % 128 + 128) (by omega)
   rw [slN, g1]
   simp only [hc]
   rw [if_neg (by omega)]
   have hm' : m / 128 < 128 ^ k := by
    rw [Nat.div_lt_iff_lt_mul (by decide)]
    rw [Nat.pow_succ] at hm
    exact hm
   have hk' : 0 < k := by
    rcases Nat.eq_zero_or_pos k with h | h
    ·subst h
     simp only [Nat.zero_add, Nat.pow_one] at hm
     omega
    ·exact h
   have e1 : (m % 128 + 128) % 128 = m % 128 := by omega
   simp only [List.length_cons] at hl ⊢
   rw [e1, z3h hN k (m / 128) _ _ (a + 1) r hk' hm' ?_ (by omega) (by omega) g2]
   ·simp only [Prod.mk.injEq, true_and, and_true]; omega
   ·rw [← hv]
    have e2 : m / 128 * (u * 128) = (m / 128 * 128) * u := by rw [Nat.mul_comm u 128, Nat.mul_assoc]
    rw [e2, Nat.add_assoc, ← Nat.add_mul]
    congr 2
    omega
theorem z3i {b : Bs} {most fr : Nat} : ∀ (k n u a x q : Nat), slN b most fr k n u a = (x, q, false) → ∃ m, x = n + m * u ∧ q ≤ b.length ∧ a < q ∧ (q20 x).length + fr = q ∧ ((q20 m).length + a = q → St b a (q20 m) q)
 | 0, n, u, a, x, q, h => by simp [slN] at h
 | k + 1, n, u, a, x, q, h => by
  rw [slN] at h
  cases hg : b[a]? with
  | none => simp [hg] at h
  | some c =>
   rw [hg] at h
   simp only at h
   have hle : a < b.length := (List.getElem?_eq_some_iff.1 hg).1
   have hd := z0f hg
   have hcl := c.toNat_lt
   split at h
   ·rename_i hlt
    split at h
    ·simp at h
    ·rename_i hz
     simp only [Prod.mk.injEq, and_true] at h
     obtain ⟨h1, h2⟩ := h
     have hmod : c.toNat % 128 = c.toNat := Nat.mod_eq_of_lt hlt
     rw [hmod] at h1 hz
     have hzz : (q20 (n + c.toNat * u)).length = a + 1 - fr := by
      rcases Nat.lt_or_ge most (n + c.toNat * u) with hh | hh
      ·exact absurd (.inl hh) hz
      ·by_cases he : (q20 (n + c.toNat * u)).length = a + 1 - fr
       ·exact he
       ·exact absurd (.inr he) hz
     have hpos := q1m (n + c.toNat * u)
     refine ⟨c.toNat, h1.symm, by omega, by omega, ?_, fun _ => ?_⟩
     ·rw [← h1, hzz]; omega
     ·rw [q3b hlt, UInt8.ofNat_toNat]
      exact ⟨h2.symm, by omega, by rw [← h2]; exact hd⟩
   ·rename_i hge
    obtain ⟨m, q1, q2, q3, q4, q5⟩ := z3i k _ _ (a + 1) x q h
    refine ⟨c.toNat % 128 + 128 * m, ?_, q2, by omega, q4, fun hl => ?_⟩
    ·rw [q1]
     have e2 : m * (u * 128) = 128 * m * u := by rw [Nat.mul_comm u 128, ← Nat.mul_assoc, Nat.mul_comm m 128]
     rw [e2, Nat.add_mul, Nat.add_assoc]
    ·have e0 : ¬ (c.toNat % 128 + 128 * m) < 128 := fun h0 => by
      rw [q3b h0] at hl
      simp only [List.length_cons, List.length_nil] at hl
      omega
     rw [q6a e0] at hl ⊢
     have e1 : (c.toNat % 128 + 128 * m) % 128 + 128 = c.toNat := by omega
     have e2 : (c.toNat % 128 + 128 * m) / 128 = m := by omega
     rw [e1, UInt8.ofNat_toNat, e2]
     rw [e2] at hl
     simp only [List.length_cons] at hl
     obtain ⟨a1, a2, a3⟩ := q5 (by omega)
     refine ⟨by simp only [List.length_cons]; omega, a2, ?_⟩
     rw [hd, List.cons_append, ← a3]
theorem qps {b : Bs} {most p x q : Nat} (h : St b p (q20 x) q) (hm : x ≤ most) (h6 : most < 4398046511104) : sN most b (p, false) = (x, q, false) := by
 unfold sN
 rw [if_neg (by simp)]
 simp only
 rw [z3h (N := x) hm 6 x 0 1 p (b.drop q) (by decide) (by omega) (by omega) (by omega) (Nat.le_refl _) h.2.2, ← h.1]
theorem qpt {b : Bs} {most p x q : Nat} (hp : p ≤ b.length) (h : sN most b (p, false) = (x, q, false)) : St b p (q20 x) q ∧ x ≤ most := by
 have hm := (q2p (most := most) (st := (p, false)) hp).2.2
 rw [h] at hm
 refine ⟨?_, hm⟩
 unfold sN at h
 rw [if_neg (by simp)] at h
 obtain ⟨m, q1, q2, q3, q4, q5⟩ := z3i 6 0 1 p x q h
 have : x = m := by omega
 subst this
 exact q5 (by omega)
def Sm {α : Type} (r : α × Nat × Bool) (s : Rs α) : Prop := (∀ x a, s = .ok (x, a) → r = (x, a, false)) ∧ (r.2.2 = false → s = .ok (r.1, r.2.1))
theorem Sm.bad {α : Type} {r : α × Nat × Bool} {e : Nat × Nat} (h : r.2.2 = true) : Sm r (.error e : Rs α) := ⟨fun x a h => (by cases h), fun h0 => by rw [h] at h0; cases h0⟩
theorem Sm.ok {α : Type} (x : α) (a : Nat) : Sm (x, a, false) (.ok (x, a) : Rs α) := ⟨fun y b h => by cases h; rfl, fun _ => rfl⟩
theorem Sm.bind {α β : Type} {r : α × Nat × Bool} {s : Rs α} {g : α × Nat × Bool → β × Nat × Bool} {f : α → Nat → Rs β} (h : Sm r s) (h1 : ∀ x a, s = .ok (x, a) → Sm (g (x, a, false)) (f x a)) (h2 : r.2.2 = true → (g r).2.2 = true) : Sm (g r) (s.bind f) := by
 cases s with
 | ok z =>
  obtain ⟨x, a⟩ := z
  rw [h.1 x a rfl, Rs.bind_ok]
  exact h1 x a rfl
 | error e =>
  rw [Rs.bind_error]
  refine Sm.bad (h2 ?_)
  cases hr : r.2.2 with
  | true => rfl
  | false => have := h.2 hr; cases this
theorem qd1 {b : Bs} {most p : Nat} (hp : p ≤ b.length) (h6 : most < 4398046511104) : Sm (sN most b (p, false)) (q91 most b p) := by
 refine ⟨fun x a h => ?_, fun h => ?_⟩
 ·obtain ⟨h1, h2, h3⟩ := q2y h
  exact qps h1 h2 h6
 ·have h0 : sN most b (p, false) = ((sN most b (p, false)).1, (sN most b (p, false)).2.1, false) := eta3 h
  obtain ⟨h1, h2⟩ := qpt hp h0
  exact q2x h1 h2 (by omega)
theorem q9s {b : Bs} {most : Nat} {st : Nat × Bool} (h : st.2 = true) : (sN most b st).2.2 = true := by
 unfold sN; rw [if_pos h]
theorem sT_bad {b : Bs} {most : Nat} {st : Nat × Bool} (h : st.2 = true) : (sT most b st).2.2 = true := by
 unfold sT; rw [if_pos (.inl (q9s h))]
theorem qc9 {c : Prop} [Decidable c] {r : Nat × Bool} (h : r.2 = true) : (if c then (r.1, true) else r).2 = true := by
 split
 ·rfl
 ·exact h
theorem qpp {b : Bs} : ∀ (k : Nat) (acc : List Int) (st : Nat × Bool), st.2 = true → (qct b k acc st).2.2 = true
 | 0, acc, st, h => h
 | k + 1, acc, st, h => by rw [qct, if_pos h]; exact h
theorem q6r {vec : List Int} {b : Bs} : ∀ (k i rep : Nat) (hi : Int) (acc : List Sn) (st : Nat × Bool), st.2 = true → (qcu vec b k i rep hi acc st).2.2 = true
 | 0, _, _, _, acc, st, h => h
 | k + 1, _, _, _, acc, st, h => by rw [qcu, if_pos h]; exact h
theorem q50 {b : Bs} : ∀ (k rep at' : Nat) (acc : List Ent) (st : Nat × Bool), st.2 = true → (q93 b k rep at' acc st).2.2 = true
 | 0, _, _, acc, st, h => h
 | k + 1, _, _, acc, st, h => by rw [q93, if_pos h]; exact h
theorem qbj {b : Bs} : ∀ (k : Nat) (acc : List Rec) (st : Nat × Bool), st.2 = true → (qa4 b k acc st).2.2 = true
 | 0, acc, st, h => h
 | k + 1, acc, st, h => by rw [qa4, if_pos h]; exact h
theorem sT_sm {b : Bs} {most p : Nat} (hp : p ≤ b.length) (h6 : most < 4398046511104) : Sm (sT most b (p, false)) (qa5 most b p) := by
 have h := qd1 hp h6
 unfold qa5 q96 sT
 cases hr : q91 most b p with
 | error e =>
  rw [hr] at h
  have hb : (sN most b (p, false)).2.2 = true := by
   cases h1 : (sN most b (p, false)).2.2 with
   | true => rfl
   | false => have := h.2 h1; cases this
  rw [if_pos (.inl hb)]
  exact Sm.bad rfl
 | ok z =>
  obtain ⟨n, a⟩ := z
  rw [hr] at h
  rw [h.1 n a rfl]
  simp only [Bool.false_eq_true, false_or]
  by_cases hlt : b.length - a < n
  ·rw [if_pos hlt, if_pos hlt]
   exact Sm.bad rfl
  ·rw [if_neg hlt, if_neg hlt]
   exact Sm.ok _ _
theorem qmz {b : Bs} : ∀ (k : Nat) (acc : List Int) (p : Nat), p ≤ b.length → Sm (qct b k acc (p, false)) (qg8 b k acc p)
 | 0, acc, p, hp => Sm.ok _ _
 | k + 1, acc, p, hp => by
  rw [qct, if_neg (by simp), qg8]
  refine Sm.bind (g := fun (r : Nat × Nat × Bool) => qct b k (acc ++ [(r.1 : Int)]) r.2) (qd1 (most := 1000000000) hp (by decide)) (fun x a h => ?_) (fun h => qpp _ _ _ h)
  exact qmz k _ a (q0z h).2.2.1
def CldI (i rep : Nat) (hi : Int) (acc : List Sn) : Prop := match acc.getLast? with | some s => 0 < i ∧ s.1 = (rep : Int) ∧ s.2.2 = hi | none => i = 0
theorem CldI.least {i rep s : Nat} {hi : Int} {acc : List Sn} (h : CldI i rep hi acc) (vec : List Int) : (if 0 < i ∧ s = 0 then hi + 2 else qg9 vec (rep + s)) = q1e vec (rep + s) acc := by
 unfold CldI at h
 unfold q1e
 cases hl : acc.getLast? with
 | none =>
  rw [hl] at h
  simp only at h
  subst h
  simp
 | some t =>
  rw [hl] at h
  obtain ⟨h1, h2, h3⟩ := h
  simp only
  by_cases h0 : s = 0
  ·rw [if_pos ⟨h1, h0⟩, if_pos (by rw [h2, h0]; rfl), h3]
  ·rw [if_neg (fun h => h0 h.2), if_neg (by rw [h2]; omega)]
theorem qn0 {vec : List Int} {b : Bs} : ∀ (k i rep : Nat) (hi : Int) (acc : List Sn) (p : Nat), p ≤ b.length → CldI i rep hi acc → Sm (qcu vec b k i rep hi acc (p, false)) (q2z vec b k rep acc p)
 | 0, i, rep, hi, acc, p, hp, hI => Sm.ok _ _
 | k + 1, i, rep, hi, acc, p, hp, hI => by
  rw [qcu, if_neg (by simp), q2z]
  refine Sm.bind (g := fun (r1 : Nat × Nat × Bool) =>
   let r2 := sN 1000000000 b r1.2
   let r3 := sN 1000000000 b r2.2
   let least : Int := if 0 < i ∧ r1.1 = 0 then hi + 2 else qg9 vec (rep + r1.1)
   qcu vec b k (i + 1) (rep + r1.1) (least + (r2.1 : Int) + (r3.1 : Int)) (acc ++ [(((rep + r1.1 : Nat) : Int), least + (r2.1 : Int), least + (r2.1 : Int) + (r3.1 : Int))])
    (if 16 ≤ rep + r1.1 ∨ 1000000000 < least + (r2.1 : Int) + (r3.1 : Int) then (r3.2.1, true) else r3.2)) (qd1 (most := 16) hp (by decide)) (fun s a1 h1 => ?_) (fun h => q6r _ _ _ _ _ _ (qc9 (q9s (q9s h))))
  have p1 := (q0z h1).2.2.1
  simp only
  rw [hI.least vec]
  generalize q1e vec (rep + s) acc = ls
  by_cases h16 : 16 ≤ rep + s
  ·rw [if_pos h16]
   refine Sm.bad (q6r _ _ _ _ _ _ ?_)
   rw [if_pos (.inl h16)]
  ·rw [if_neg h16]
   refine Sm.bind (g := fun (r2 : Nat × Nat × Bool) =>
    let r3 := sN 1000000000 b r2.2
    qcu vec b k (i + 1) (rep + s) (ls + (r2.1 : Int) + (r3.1 : Int)) (acc ++ [(((rep + s : Nat) : Int), ls + (r2.1 : Int), ls + (r2.1 : Int) + (r3.1 : Int))])
     (if 16 ≤ rep + s ∨ 1000000000 < ls + (r2.1 : Int) + (r3.1 : Int) then (r3.2.1, true) else r3.2)) (qd1 (most := 1000000000) p1 (by decide)) (fun n a2 h2 => ?_) (fun h => q6r _ _ _ _ _ _ (qc9 (q9s h)))
   have p2 := (q0z h2).2.2.1
   refine Sm.bind (g := fun (r3 : Nat × Nat × Bool) =>
    qcu vec b k (i + 1) (rep + s) (ls + (n : Int) + (r3.1 : Int)) (acc ++ [(((rep + s : Nat) : Int), ls + (n : Int), ls + (n : Int) + (r3.1 : Int))])
     (if 16 ≤ rep + s ∨ 1000000000 < ls + (n : Int) + (r3.1 : Int) then (r3.2.1, true) else r3.2)) (qd1 (most := 1000000000) p2 (by decide)) (fun m a3 h3 => ?_) (fun h => q6r _ _ _ _ _ _ (qc9 h))
   have p3 := (q0z h3).2.2.1
   simp only
   by_cases hbig : 1000000000 < ls + (n : Int) + (m : Int)
   ·rw [if_pos hbig]
    refine Sm.bad (q6r _ _ _ _ _ _ ?_)
    rw [if_pos (.inr hbig)]
   ·rw [if_neg hbig, if_neg (by rintro (h | h); exact h16 h; exact hbig h)]
    refine qn0 k _ _ _ _ a3 p3 ?_
    unfold CldI
    rw [List.getLast?_concat]
    exact ⟨Nat.succ_pos i, rfl, rfl⟩
theorem qhe {b : Bs} {p q : Nat} {x : Pst} (hb : b.length < 4398046511104) (hp : p ≤ b.length) (h : q1f b p = .ok (x, q)) (hn : q0o x = true) : q37 b (p, false) = (x, q, false) := by
 unfold q1f at h
 obtain ⟨n, a1, h1, h⟩ := Rs.bind_get h
 obtain ⟨vec, a2, h2, h⟩ := Rs.bind_get h
 obtain ⟨m, a3, h3, h⟩ := Rs.bind_get h
 obtain ⟨cl, a4, h4, h⟩ := Rs.bind_get h
 simp only [Except.ok.injEq, Prod.mk.injEq] at h
 obtain ⟨rfl, rfl⟩ := h
 have p1 := (q0z h1).2.2.1
 have e1 := (qd1 (most := 16) hp (by decide)).1 n a1 h1
 have e2 := (qmz n [] a1 p1).1 vec a2 h2
 obtain ⟨g1, g2⟩ := q44 h3
 obtain ⟨g3, g4⟩ := q4c (by decide) h3
 have e3 := qps (most := b.length) g1 (by omega) hb
 have e4 := (qn0 (vec := vec) m 0 0 0 [] a3 g4 rfl).1 cl a4 h4
 unfold q37
 simp only [e1, e2, e3, e4]
 rw [if_pos hn]
theorem qhf {b : Bs} {p q : Nat} {x : Pst} (hb : b.length < 4398046511104) (hp : p ≤ b.length) (h : q37 b (p, false) = (x, q, false)) : q1f b p = .ok (x, q) ∧ q0o x = true := by
 unfold q37 at h
 simp only [Prod.mk.injEq] at h
 obtain ⟨hx, h⟩ := h
 rw [hx] at h
 have hn : q0o x = true := by
  cases hn : q0o x with
  | true => rfl
  | false => rw [if_neg (by rw [hn]; decide)] at h; simp at h
 rw [if_pos hn] at h
 refine ⟨?_, hn⟩
 have b4 := congrArg Prod.snd h
 simp only at b4
 have b3 : (sN b.length b (qct b (sN 16 b (p, false)).1 [] (sN 16 b (p, false)).2).2).2.2 = false := by
  rw [Bool.eq_false_iff]
  intro hc
  rw [q6r _ _ _ _ _ _ hc] at b4
  cases b4
 have b2 := z3l b3
 have b1 : (sN 16 b (p, false)).2.2 = false := by
  rw [Bool.eq_false_iff]
  intro hc
  rw [qpp _ _ _ hc] at b2
  cases b2
 have e1 := (qd1 (most := 16) hp (by decide)).2 b1
 obtain ⟨p1, -, -⟩ := q2p (b := b) (most := 16) (st := (p, false)) hp
 generalize sN 16 b (p, false) = r1 at *
 obtain ⟨n, a1, c1⟩ := r1
 simp only at b1
 subst b1
 simp only at *
 have e2 := (qmz n [] a1 p1).2 b2
 have p2 := (qek (b := b) n [] (a1, false) p1).1
 generalize qct b n [] (a1, false) = r2 at *
 obtain ⟨vec, a2, c2⟩ := r2
 simp only at b2
 subst b2
 simp only at *
 have p3 := (q2p (b := b) (most := b.length) (st := (a2, false)) p2).1
 have e3 : sN b.length b (a2, false) = ((sN b.length b (a2, false)).1, (sN b.length b (a2, false)).2.1, false) := eta3 b3
 generalize hr3 : sN b.length b (a2, false) = r3 at *
 obtain ⟨m, a3, c3⟩ := r3
 simp only at b3
 subst b3
 simp only at *
 have e4 := (qn0 (vec := vec) m 0 0 0 [] a3 p3 rfl).2 (by rw [h])
 have hx1 := congrArg Prod.fst h
 simp only at hx1
 rw [hx1] at e4
 generalize qcu vec b m 0 0 0 [] (a3, false) = r4 at *
 obtain ⟨cl, a4, c4⟩ := r4
 simp only at *
 obtain ⟨g1, g2⟩ := qpt p2 hr3
 obtain ⟨v, hv, hvl, hvs, hvo⟩ := qf4 n [] vec a1 a2 p1 e2
 rw [List.nil_append] at hv
 subst hv
 obtain ⟨c, hc, hcl, hcs, hcf⟩ := q97 hvo m 0 [] cl a3 q p3 (fun s hs => by cases hs) rfl e4
 have hge := q6o vec c []
 have e5 := hcs.1
 have e6 := hcs.le
 have hcount : q3n 3 b a2 = .ok (m, a3) := q43 (by decide) g1 (by omega) (by omega)
 unfold q1f
 rw [Rs.bind_put e1, Rs.bind_put e2, Rs.bind_put hcount, Rs.bind_put e4, hx]
theorem qel {b : Bs} : ∀ (k rep at' : Nat) (acc : List Ent) (p : Nat), p ≤ b.length → Sm (q93 b k rep at' acc (p, false)) (q7m b k rep (at' + 1) acc p)
 | 0, rep, at', acc, p, hp => Sm.ok _ _
 | k + 1, rep, at', acc, p, hp => by
  rw [q93, if_neg (by simp), q7m]
  refine Sm.bind (g := fun (r1 : Nat × Nat × Bool) =>
   let r2 := sN 1000000000 b r1.2
   let r3 := sT 24 b r2.2
   let r4 := sN 1000000 b r3.2
   let num := (if 0 < r1.1 then 0 else at') + (r2.1 + 1)
   q93 b k (rep + r1.1) num (acc ++ [⟨((rep + r1.1 : Nat) : Int), (num : Int), r3.1, ((r4.1 + 1 : Nat) : Int)⟩]) (if 16 ≤ rep + r1.1 ∨ 1000000000 < num then (r4.2.1, true) else r4.2)) (qd1 (most := 16) hp (by decide)) (fun s a1 h1 => ?_) (fun h => q50 _ _ _ _ _ (qc9 (q9s (sT_bad (q9s h)))))
  have p1 := (q0z h1).2.2.1
  refine Sm.bind (g := fun (r2 : Nat × Nat × Bool) =>
   let r3 := sT 24 b r2.2
   let r4 := sN 1000000 b r3.2
   let num := (if 0 < s then 0 else at') + (r2.1 + 1)
   q93 b k (rep + s) num (acc ++ [⟨((rep + s : Nat) : Int), (num : Int), r3.1, ((r4.1 + 1 : Nat) : Int)⟩]) (if 16 ≤ rep + s ∨ 1000000000 < num then (r4.2.1, true) else r4.2)) (qd1 (most := 1000000000) p1 (by decide)) (fun x a2 h2 => ?_) (fun h => q50 _ _ _ _ _ (qc9 (q9s (sT_bad h))))
  have p2 := (q0z h2).2.2.1
  have e : (if 0 < s then 1 else at' + 1) + x = (if 0 < s then 0 else at') + (x + 1) := by split <;> omega
  simp only
  rw [e]
  generalize (if 0 < s then 0 else at') + (x + 1) = num
  by_cases hc : 16 ≤ rep + s ∨ 1000000000 < num
  ·rw [if_pos hc, if_pos hc]
   exact Sm.bad (q50 _ _ _ _ _ rfl)
  ·rw [if_neg hc, if_neg hc]
   refine Sm.bind (g := fun (r3 : ByteArray × Nat × Bool) => let r4 := sN 1000000 b r3.2; q93 b k (rep + s) num (acc ++ [⟨((rep + s : Nat) : Int), (num : Int), r3.1, ((r4.1 + 1 : Nat) : Int)⟩]) r4.2) (sT_sm (most := 24) p2 (by decide)) (fun sku a3 h3 => ?_) (fun h => q50 _ _ _ _ _ (q9s h))
   have p3 := (q8a h3).2
   refine Sm.bind (g := fun (r4 : Nat × Nat × Bool) => q93 b k (rep + s) num (acc ++ [⟨((rep + s : Nat) : Int), (num : Int), sku, ((r4.1 + 1 : Nat) : Int)⟩]) r4.2) (qd1 (most := 1000000) p3 (by decide)) (fun y a4 h4 => ?_) (fun h => q50 _ _ _ _ _ h)
   exact qel k _ _ _ a4 (q0z h4).2.2.1
theorem qhh {b : Bs} {l : List Ent} {q : Nat} (hb : b.length < 4000000000) (h : q0a b 0 = .ok (l, q)) : q3i b = (l, q, false) := by
 unfold q0a at h
 obtain ⟨n, a, h1, h⟩ := Rs.bind_get h
 obtain ⟨g1, g2⟩ := q44 h1
 obtain ⟨g3, g4⟩ := q4c (by decide) h1
 have e1 := qps (most := 4000000000) g1 (by omega) (by decide)
 have e2 := (qel n 0 0 [] a g4).1 l q h
 unfold q3i
 rw [e1]
 exact e2
theorem qhi {b : Bs} {l : List Ent} {q : Nat} (h : q3i b = (l, q, false)) (hs : ∀ e ∈ l, 1 ≤ e.sku.size) : q0a b 0 = .ok (l, q) := by
 unfold q3i at h
 have b1 : (sN 4000000000 b (0, false)).2.2 = false := by
  rw [Bool.eq_false_iff]
  intro hc
  have := q50 (b := b) (sN 4000000000 b (0, false)).1 0 0 [] _ hc
  rw [h] at this
  cases this
 have p1 := (q2p (b := b) (most := 4000000000) (st := (0, false)) (Nat.zero_le _)).1
 have e1 : sN 4000000000 b (0, false) = ((sN 4000000000 b (0, false)).1, (sN 4000000000 b (0, false)).2.1, false) := eta3 b1
 generalize hr0 : sN 4000000000 b (0, false) = r at *
 obtain ⟨n, a, c⟩ := r
 simp only at b1
 subst b1
 simp only at *
 obtain ⟨g1, g2⟩ := qpt (Nat.zero_le _) hr0
 have e2 := (qel n 0 0 [] a p1).2 (by rw [h])
 rw [h] at e2
 obtain ⟨m, hm, hml, hms, hmf⟩ := qbp n 0 1 [] l a q p1 (by omega) (by omega) rfl rfl e2
 rw [List.nil_append] at hm
 subst hm
 have hge := qfy l [] hs
 have e5 := hms.1
 have e6 := hms.le
 unfold q0a
 rw [Rs.bind_put (q43 (by decide) g1 (by omega) (by omega))]
 exact e2
theorem qha {b : Bs} (hb : b.length < 4398046511104) : ∀ (k : Nat) (acc l : List Rec) (p q : Nat), p ≤ b.length → q62 b k acc p = .ok (l, q) → (∀ r ∈ l, (r.sku.size = 0 ∨ q4e r.sku = true) ∧ q0o r.past = true) → qa4 b k acc (p, false) = (l, q, false)
 | 0, acc, l, p, q, hp, h, _ => by
  simp only [q62, Except.ok.injEq, Prod.mk.injEq] at h
  obtain ⟨rfl, rfl⟩ := h
  rfl
 | k + 1, acc, l, p, q, hp, h, hf => by
  rw [q62] at h
  obtain ⟨sku, a1, h1, h⟩ := Rs.bind_get h
  obtain ⟨x, a2, h2, h⟩ := Rs.bind_get h
  have p1 := (q8a h1).2
  have p2 := (z03 h2).2
  have hmem : (⟨sku, x⟩ : Rec) ∈ l := by
   obtain ⟨m, hm, _, _, _⟩ := q8b k _ l a2 q p2 h
   rw [hm]
   simp
  obtain ⟨f1, f2⟩ := hf _ hmem
  have e1 := (sT_sm (most := 24) hp (by decide)).1 sku a1 h1
  have e2 := qhe hb p1 h2 f2
  rw [qa4, if_neg (by simp)]
  simp only [e1, e2]
  rw [if_neg (fun h => by
   rcases f1 with f | f
   ·exact h.1 f
   ·rw [f] at h; cases h.2)]
  exact qha hb k _ l a2 q p2 h hf
theorem qhb {b : Bs} (hb : b.length < 4398046511104) : ∀ (k : Nat) (acc l : List Rec) (p q : Nat), p ≤ b.length → qa4 b k acc (p, false) = (l, q, false) → q62 b k acc p = .ok (l, q)
 | 0, acc, l, p, q, hp, h => by
  simp only [qa4, Prod.mk.injEq, and_true] at h
  obtain ⟨rfl, rfl⟩ := h
  rfl
 | k + 1, acc, l, p, q, hp, h => by
  rw [qa4, if_neg (by simp)] at h
  simp only at h
  by_cases hg : ¬ (sT 24 b (p, false)).1.size = 0 ∧ q4e (sT 24 b (p, false)).1 = false
  ·rw [if_pos hg] at h
   have := qbj (b := b) k (acc ++ [⟨(sT 24 b (p, false)).1, (q37 b (sT 24 b (p, false)).2).1⟩]) ((q37 b (sT 24 b (p, false)).2).2.1, true) rfl
   rw [h] at this
   cases this
  ·rw [if_neg hg] at h
   clear hg
   have p1 := (sT_le (b := b) (most := 24) (st := (p, false)) hp).1
   have b2 : (q37 b (sT 24 b (p, false)).2).2.2 = false := by
    rw [Bool.eq_false_iff]
    intro hc
    have := qbj (b := b) k (acc ++ [⟨(sT 24 b (p, false)).1, (q37 b (sT 24 b (p, false)).2).1⟩]) _ hc
    rw [h] at this
    cases this
   have b1 : (sT 24 b (p, false)).2.2 = false := (qhg p1).2 b2
   have e1 := (sT_sm (most := 24) hp (by decide)).2 b1
   generalize sT 24 b (p, false) = r1 at *
   obtain ⟨sku, a1, c1⟩ := r1
   simp only at b1
   subst b1
   simp only at *
   have p2 := (qpr (b := b) (st := (a1, false)) p1).1
   have e2 : q37 b (a1, false) = ((q37 b (a1, false)).1, (q37 b (a1, false)).2.1, false) := eta3 b2
   generalize hr2 : q37 b (a1, false) = r2 at *
   obtain ⟨x, a2, c2⟩ := r2
   simp only at b2
   subst b2
   simp only at *
   rw [q62, Rs.bind_put e1, Rs.bind_put (qhf hb p1 hr2).1]
   exact qhb hb k _ l a2 q p2 h
theorem z1w {l : List Rec} (h : q4f l = true) : ∀ r ∈ l, (r.sku.size = 0 ∨ q4e r.sku = true) ∧ q0o r.past = true := fun r hr => by
 have hF := ql4.1 h
 obtain ⟨i, hi, he⟩ := List.mem_iff_getElem.1 hr
 have h0 := hF.1 i r (by rw [List.getElem?_eq_getElem hi, he])
 unfold q3m at h0
 split at h0
 ·omega
 ·rename_i h1
  split at h0
  ·omega
  ·rename_i h2
   refine ⟨?_, ?_⟩
   ·by_cases hz : r.sku.size = 0
    ·exact .inl hz
    ·cases hg : q4e r.sku with
     | true => exact .inr rfl
     | false => exact absurd ⟨hz, hg⟩ h1
   ·cases hn : q0o r.past with
    | true => rfl
    | false => exact absurd (.inl hn) h2
theorem qhc {b : Bs} {l : List Rec} {q : Nat} (hb : b.length < 4000000000) (h : q08 b 0 = .ok (l, q)) (hf : q4f l = true) : q3h b = (l, q, false) := by
 unfold q08 at h
 obtain ⟨n, a, h1, h⟩ := Rs.bind_get h
 obtain ⟨g1, g2⟩ := q44 h1
 obtain ⟨g3, g4⟩ := q4c (by decide) h1
 have e1 := qps (most := 4000000000) g1 (by omega) (by decide)
 unfold q3h
 rw [e1]
 exact qha (by omega) n [] l a q g4 h (z1w hf)
theorem qhd {b : Bs} {l : List Rec} {q : Nat} (hb : b.length < 4000000000) (h : q3h b = (l, q, false)) (hf : q4f l = true) : q08 b 0 = .ok (l, q) := by
 unfold q3h at h
 have b1 : (sN 4000000000 b (0, false)).2.2 = false := by
  rw [Bool.eq_false_iff]
  intro hc
  have := qbj (b := b) (sN 4000000000 b (0, false)).1 [] _ hc
  rw [h] at this
  cases this
 have p1 := (q2p (b := b) (most := 4000000000) (st := (0, false)) (Nat.zero_le _)).1
 have e1 : sN 4000000000 b (0, false) = ((sN 4000000000 b (0, false)).1, (sN 4000000000 b (0, false)).2.1, false) := eta3 b1
 generalize hr0 : sN 4000000000 b (0, false) = r at *
 obtain ⟨n, a, c⟩ := r
 simp only at b1
 subst b1
 simp only at *
 obtain ⟨g1, g2⟩ := qpt (Nat.zero_le _) hr0
 have e2 := qhb (by omega) n [] l a q p1 h
 obtain ⟨m, hm, hml, hms, hmf⟩ := q8b n [] l a q p1 e2
 rw [List.nil_append] at hm
 subst hm
 have hge := qeo l fun r hr => (qar hf r hr).2
 have e5 := hms.1
 have e6 := hms.le
 unfold q08
 rw [Rs.bind_put (q43 (by decide) g1 (by omega) (by omega))]
 exact e2
theorem Kd.same {α : Type} (k : Kd α) {ok : α → Bool} {b : Bs} {r : α × Nat × Bool} (h1 : ∀ x, k.rd b = .ok (x, b.length) → k.ok x = true → r = (x, b.length, false) ∧ ok x = true)
 (h2 : ∀ x, r = (x, b.length, false) → ok x = true → k.rd b = .ok (x, b.length) ∧ k.ok x = true) : z2r k.z ok b r = qmj k.z k.ok b (k.rd b) ∧ z2s ok b r = ql3 k.z k.ok b (k.rd b) := by
 rcases q6e (z := k.z) (ok := k.ok) (k.nz b) (k.le b) with ⟨g1, g2, g3⟩ | ⟨g1, g2, g3⟩
 ·obtain ⟨e1, e2⟩ := h1 _ g3 g2
  rw [g1]
  unfold z2r z2s
  rw [e1]
  simp [e2]
 ·rw [g1, g2]
  have hc : (!r.2.2 && (decide (r.2.1 = b.length) && ok r.1)) = false := by
   rw [Bool.eq_false_iff]
   intro hc
   simp only [Bool.and_eq_true, Bool.not_eq_true', decide_eq_true_eq] at hc
   obtain ⟨c1, c2, c3⟩ := hc
   obtain ⟨q1, q2⟩ := h2 r.1 (by rw [← c2, ← c1]) c3
   rw [g3 _ q1] at q2
   cases q2
  unfold z2r z2s
  rw [hc]
  exact ⟨rfl, rfl⟩
theorem qh9 {b : Bs} (hb : b.length ≤ 20000000) : z2r ⟨[], []⟩ (fun _ => true) b (q37 b (0, false)) = qmj ⟨[], []⟩ q0o b (q1f b 0) ∧ z2s (fun _ => true) b (q37 b (0, false)) = ql3 ⟨[], []⟩ q0o b (q1f b 0) :=
 kd1.same (fun x h ho => ⟨qhe (by omega) (Nat.zero_le _) h ho, rfl⟩) (fun x h _ => qhf (by omega) (Nat.zero_le _) h)
theorem q9r {b : Bs} (hb : b.length ≤ 20000000) : z2r [] q4k b (q3i b) = qmj [] q4k b (q0a b 0) ∧ z2s q4k b (q3i b) = ql3 [] q4k b (q0a b 0) :=
 kd2.same (fun x h ho => ⟨qhh (by omega) h, ho⟩) (fun x h ho => ⟨qhi h fun e he => (qfl ho e he).1, ho⟩)
theorem q9q {b : Bs} (hb : b.length ≤ 20000000) : z2r [] q4f b (q3h b) = qmj [] q4f b (q08 b 0) ∧ z2s q4f b (q3h b) = ql3 [] q4f b (q08 b 0) :=
 kd3.same (fun x h ho => ⟨qhc (by omega) h ho, ho⟩) (fun x h ho => ⟨qhd (by omega) h ho, ho⟩)


structure FoS where
 i : Nat
 all : Pst
 out : List Rec


def SrtK (l : List Rec) : Prop := ∀ (i : Nat) a b, l[i]? = some a → l[i + 1]? = some b → qlt a b < 0
theorem SrtK.tail {t l : List Rec} (h : SrtK (t ++ l)) : SrtK l := fun i a b ha hb =>
 h (t.length + i) a b (by rw [List.getElem?_append_right (by omega)]; simpa using ha) (by rw [List.getElem?_append_right (by omega)]; rw [show t.length + i + 1 - t.length = i + 1 by omega]; exact hb)

def zbb : List SOp := [zO 4 (.assign (.const (.bool false)))]
instance : Live zbb := ⟨[0,1]⟩
def zba : List SOp := [zM 6 0,zO 7 (.call ⟨.builtin .len,#[.tmp 6],#[26]⟩),zM 8 1,zO 9 (.call ⟨.builtin .len,#[.tmp 8],#[26]⟩),zO 10 (.binOp .neq 3 (.tmp 7) (.tmp 9) 3)]
instance : Live zba := ⟨[0,1]⟩
def zb9 : List SOp := [zO 4 (.assign (.const (.bool false)))]
instance : Live zb9 := ⟨[]⟩
def zb8 : List SOp := [zO 5 (.assign (.const (.int .i64 0)))]
instance : Live zb8 := ⟨[0,1]⟩
def zb7 : List SOp := [zM 11 5,zM 12 0,zO 13 (.call ⟨.builtin .len,#[.tmp 12],#[26]⟩),zO 14 (.binOp .lss 3 (.tmp 11) (.tmp 13) 3)]
instance : Live zb7 := ⟨[0,1,5]⟩
def zb6 : List SOp := [zM 17 0,zM 18 5,zI 19 26 17 18,zL 20 45 19,zM 21 1,zM 22 5,zI 23 26 21 22,zL 24 45 23,zO 25 (.binOp .neq 45 (.tmp 20) (.tmp 24) 45)]
instance : Live zb6 := ⟨[0,1,5]⟩
def zb5 : List SOp := [zO 4 (.assign (.const (.bool false)))]
instance : Live zb5 := ⟨[]⟩
def zb4 : List SOp := [zM 15 5,zO 16 (.binOp .add 3 (.tmp 15) (.const (.int .i64 1)) 3),zG 5 16]
instance : Live zb4 := ⟨[0,1,5]⟩
def zb3 : List SOp := [zO 4 (.assign (.const (.bool true)))]
instance : Live zb3 := ⟨[]⟩
def qpj : SC :=
 (.seq (.seq (.ops false zb7) (.cond (.tmp 14) .skip (.exit 0))) (.seq (.block 1 (.seq (.ops true zb6) (.cond (.tmp 25) (.seq (.ops false zb5) .ret) .skip))) (.ops false zb4)))
def t_k17 : SC :=
 (.seq (.ops false zbb) (.seq (.seq (.ops false zba) (.cond (.tmp 10) (.seq (.ops false zb9) .ret) .skip)) (.seq (.seq (.ops false zb8) (.block 0 (.loop qpj))) (.seq (.ops false zb3) .ret))))
theorem it_k17 : FnIs Tryz.prog 17 26 [.tmp 4] t_k17 := ⟨Tryz.f17, _, Tryz.func17, rfl, rfl, rfl, rfl, by kernel_rfl⟩

def zac : List SOp := [zO 4 (.assign (.const (.bool false)))]
instance : Live zac := ⟨[0,1]⟩
def zab : List SOp := [zM 6 0,zO 7 (.call ⟨.builtin .len,#[.tmp 6],#[27]⟩),zM 8 1,zO 9 (.call ⟨.builtin .len,#[.tmp 8],#[27]⟩),zO 10 (.binOp .neq 3 (.tmp 7) (.tmp 9) 3)]
instance : Live zab := ⟨[0,1]⟩
def zaa : List SOp := [zO 4 (.assign (.const (.bool false)))]
instance : Live zaa := ⟨[]⟩
def za9 : List SOp := [zO 5 (.assign (.const (.int .i64 0)))]
instance : Live za9 := ⟨[0,1]⟩
def za8 : List SOp := [zM 11 5,zM 12 0,zO 13 (.call ⟨.builtin .len,#[.tmp 12],#[27]⟩),zO 14 (.binOp .lss 3 (.tmp 11) (.tmp 13) 3)]
instance : Live za8 := ⟨[0,1,5]⟩
def za7 : List SOp := [zM 17 0,zM 18 5,zI 19 27 17 18,zF 20 84 19 0,zL 21 9 20,zM 22 1,zM 23 5,zI 24 27 22 23,zF 25 84 24 0,zL 26 9 25,zO 27 (.binOp .neq 9 (.tmp 21) (.tmp 26) 9),zM 28 27,⟨some 29,.move (.tmp 0),some ((some 28),false)⟩,⟨some 30,.move (.tmp 5),some ((some 28),false)⟩,⟨some 31,.indexAddr 27 (.tmp 29) (.tmp 30),some ((some 28),false)⟩,⟨some 32,.fieldAddr 84 (.tmp 31) 1,some ((some 28),false)⟩,⟨some 33,.load 25 (.tmp 32),some ((some 28),false)⟩,⟨some 34,.move (.tmp 1),some ((some 28),false)⟩,⟨some 35,.move (.tmp 5),some ((some 28),false)⟩,⟨some 36,.indexAddr 27 (.tmp 34) (.tmp 35),some ((some 28),false)⟩,⟨some 37,.fieldAddr 84 (.tmp 36) 1,some ((some 28),false)⟩,⟨some 38,.load 25 (.tmp 37),some ((some 28),false)⟩,⟨some 39,.call ⟨.value (.func 14),#[.tmp 33,.tmp 38],#[25,25]⟩,some ((some 28),false)⟩,⟨some 40,.unOp .not 4 (.tmp 39),some ((some 28),false)⟩,zO 41 (.pick (.tmp 28) (.const (.bool true)) (.tmp 40))]
instance : Live za7 := ⟨[0,1,5]⟩
def za6 : List SOp := [zO 4 (.assign (.const (.bool false)))]
instance : Live za6 := ⟨[]⟩
def za5 : List SOp := [zM 15 5,zO 16 (.binOp .add 3 (.tmp 15) (.const (.int .i64 1)) 3),zG 5 16]
instance : Live za5 := ⟨[0,1,5]⟩
def za4 : List SOp := [zO 4 (.assign (.const (.bool true)))]
instance : Live za4 := ⟨[]⟩
def qph : SC :=
 (.seq (.seq (.ops false za8) (.cond (.tmp 14) .skip (.exit 0))) (.seq (.block 1 (.seq (.ops true za7) (.cond (.tmp 41) (.seq (.ops false za6) .ret) .skip))) (.ops false za5)))
def t_k27 : SC :=
 (.seq (.ops false zac) (.seq (.seq (.ops false zab) (.cond (.tmp 10) (.seq (.ops false zaa) .ret) .skip)) (.seq (.seq (.ops false za9) (.block 0 (.loop qph))) (.seq (.ops false za4) .ret))))
theorem it_k27 : FnIs Tryz.prog 27 42 [.tmp 4] t_k27 := ⟨Tryz.f27, _, Tryz.func27, rfl, rfl, rfl, rfl, by kernel_rfl⟩





theorem z1h (p : Pst) : qmy p p = true := q6q ⟨rfl, rfl⟩
theorem ev_k27 (l : List Rec) (hl : l.length ≤ 1000000000) (hw : ∀ r ∈ l, wt r.past ≤ 900000000) : Ev (En Tryz.prog rfl).P 27 [.sl 3 (q1j l), .sl 3 (q1j l)] (.ret (.bool true)) := by
 refine Ev.of_body it_k27 (by simp) (Run.start ?_)
 unfold t_k27
 have e1 := q6j l
 have hS := z1d
 (focus (have hF := @e1; (repeat' (first | refine go1 (k:=?_) | with_reducible refine Ny.of ?_ ?_ | (refine Hyp.of ?_; intro hc; (try simp only [hc]); (try simp only [Bh] at hc)))); all_goals clear hF))
 refine Run.while (σ := Nat) (fun i => ⟨tms [(0, .sl 3 (q1j l)), (1, .sl 3 (q1j l)), (5, .int .i64 (i : Int))], mms []⟩)
  (fun i => i ≤ l.length) (fun i => l.length - i) 0 (have hW := @q0p; q0t) (Nat.zero_le _) ?_
 intro i hi
 unfold qph
 by_cases hlt : i < l.length
 ·obtain ⟨r, hr⟩ : ∃ r, l[i]? = some r := ⟨l[i], by simp [hlt]⟩
  have g1 := q6k hr
  have hwr := hw r (List.mem_of_getElem? hr)
  unfold wt at hwr
  have c1 := zds r.past r.past (by omega) (by omega)
  rw [z1h] at c1
  (focus (have hF := (aI @e1 @g1); (repeat' (first | refine go1 (k:=?_) | with_reducible refine Ny.of ?_ ?_ | (refine Hyp.of ?_; intro hc; (try simp only [hc]); (try simp only [Bh] at hc)))); all_goals clear hF))
  refine q05 [q10 r.past, q10 r.past] (he := c1) (k:=?_)
  (focus (have hF := (aI @e1 @g1); (repeat' (first | refine go1 (k:=?_) | with_reducible refine Ny.of ?_ ?_ | (refine Hyp.of ?_; intro hc; (try simp only [hc]); (try simp only [Bh] at hc)))); all_goals clear hF))
  (refine Fin.nextW (i + 1) ?_ (have hW := @q0p; q0t); (try dsimp only))
  omega
 ·(focus (have hF := @e1; (repeat' (first | refine go1 (k:=?_) | with_reducible refine Ny.of ?_ ?_ | (refine Hyp.of ?_; intro hc; (try simp only [hc]); (try simp only [Bh] at hc)))); all_goals clear hF))
  exact Fin.tmp' rfl rfl
theorem ev_k17 (l : List Ent) (hl : l.length ≤ 1000000000) : Ev (En Tryz.prog rfl).P 17 [.sl 4 (q1b l), .sl 4 (q1b l)] (.ret (.bool true)) := by
 refine Ev.of_body it_k17 (by simp) (Run.start ?_)
 unfold t_k17
 have e1 := q6m l
 have hS := z1d
 (focus (have hF := @e1; (repeat' (first | refine go1 (k:=?_) | with_reducible refine Ny.of ?_ ?_ | (refine Hyp.of ?_; intro hc; (try simp only [hc]); (try simp only [Bh] at hc)))); all_goals clear hF))
 refine Run.while (σ := Nat) (fun i => ⟨tms [(0, .sl 4 (q1b l)), (1, .sl 4 (q1b l)), (5, .int .i64 (i : Int))], mms []⟩)
  (fun i => i ≤ l.length) (fun i => l.length - i) 0 (have hW := @q0l; q0t) (Nat.zero_le _) ?_
 intro i hi
 unfold qpj
 by_cases hlt : i < l.length
 ·obtain ⟨r, hr⟩ : ∃ r, l[i]? = some r := ⟨l[i], by simp [hlt]⟩
  have g1 := q6n hr
  (focus (have hF := (aI @e1 @g1); (repeat' (first | refine go1 (k:=?_) | with_reducible refine Ny.of ?_ ?_ | (refine Hyp.of ?_; intro hc; (try simp only [hc]); (try simp only [Bh] at hc)))); all_goals clear hF))
  (refine Fin.nextW (i + 1) ?_ (have hW := @q0l; q0t); (try dsimp only))
  omega
 ·(focus (have hF := @e1; (repeat' (first | refine go1 (k:=?_) | with_reducible refine Ny.of ?_ ?_ | (refine Hyp.of ?_; intro hc; (try simp only [hc]); (try simp only [Bh] at hc)))); all_goals clear hF))
  exact Fin.tmp' rfl rfl

def Wkn (x y : AVal) : Prop := ∀ (D : Nat → Nat → Prop) (G : Gh) (B : Nat → Prop) (w : World) (v : Value), VR D G B w x v → VR D G B w y v
theorem Wkn.refl (x : AVal) : Wkn x x := fun _ _ _ _ _ h => h
theorem Wkn.nil (sz : Nat) : Wkn .nil (.sl sz []) := fun D G B w v h => by
 cases h
 exact .slnil sz
def Wkns : List AVal → List AVal → Prop
 | [], [] => True
 | a :: l, b :: m => Wkn a b ∧ Wkns l m
 | _, _ => False
theorem Wkns.len : ∀ {l m : List AVal}, Wkns l m → l.length = m.length
 | [], [], _ => rfl
 | a :: l, b :: m, h => by rw [List.length_cons, List.length_cons, Wkns.len h.2]
 | [], _ :: _, h => h.elim
 | _ :: _, [], h => h.elim
theorem Wkns.get : ∀ {l m : List AVal}, Wkns l m → ∀ (i : Nat) (y : AVal), m[i]? = some y → ∃ x, l[i]? = some x ∧ Wkn x y
 | [], [], _, i, y, h => by simp at h
 | a :: l, b :: m, hw, 0, y, h => by
  simp only [List.getElem?_cons_zero, Option.some.injEq] at h
  subst h
  exact ⟨a, rfl, hw.1⟩
 | a :: l, b :: m, hw, i + 1, y, h => by
  obtain ⟨x, hx, hxy⟩ := Wkns.get hw.2 i y (by simpa using h)
  exact ⟨x, by simpa using hx, hxy⟩
 | [], _ :: _, h, _, _, _ => h.elim
 | _ :: _, [], h, _, _, _ => h.elim
theorem Wkns.refl : ∀ l : List AVal, Wkns l l
 | [] => trivial
 | a :: l => ⟨Wkn.refl a, Wkns.refl l⟩
theorem Wkn.agg {l m : List AVal} (h : Wkns l m) : Wkn (.agg l) (.agg m) := fun D G B w v hv => by
 cases hv with
 | agg cs vs hl hh =>
  refine .agg m vs (by rw [hl, h.len]) fun n x u hx hu => ?_
  obtain ⟨y, hy, hyx⟩ := h.get n x hx
  exact hyx D G B w u (hh n y u hy hu)
theorem Ev.wks {P : Program} {f : FuncId} {l m : List AVal} {out : Out} (he : Ev P f m out) (h : Wkns l m) : Ev P f l out :=
 ⟨he.1, fun B w vs G ho hs hv hb => he.2 B w vs G ho (by rw [hs, h.len]) (fun i y v hy hvv => by
  obtain ⟨x, hx, hxy⟩ := h.get i y hy
  exact hxy _ G B w v (hv i x v hx hvv)) hb⟩

theorem Wkn.sl {sz : Nat} {xs ys : List AVal} (hl : xs.length = ys.length) (hf : Wkns (flat xs) (flat ys)) (h1 : ∀ x ∈ flat ys, x.one = true) (h2 : ∀ x ∈ ys, x.cells.length = sz) : Wkn (.sl sz xs) (.sl sz ys) := fun D G B w v h => by
 cases h with
 | slnil =>
  have : ys = [] := List.length_eq_zero_iff.1 hl.symm
  subst this
  exact .slnil sz
 | slemp _ a cap =>
  have : ys = [] := List.length_eq_zero_iff.1 hl.symm
  subst this
  exact .slemp sz a cap
 | sl _ _ b off cap f hcap hB hone hsz hc hv =>
  have hne : flat ys ≠ [] → flat xs ≠ [] := fun h h' => h (List.length_eq_zero_iff.1 (by rw [← hf.len, h']; rfl))
  have hg := fun n y (hy : (flat ys)[n]? = some y) => hf.get n y hy
  rw [hl]
  refine .sl sz ys b off cap f (by omega) (fun h => hB (hne h)) h1 h2 (fun n y hy => ?_) (fun n y hy => ?_)
  ·obtain ⟨x, hx, _⟩ := hg n y hy
   exact hc n x hx
  ·obtain ⟨x, hx, hxy⟩ := hg n y hy
   exact hxy D G B w _ (hv n x hx)
def sa : ByteArray := ⟨#[97]⟩

theorem qoi {P : Program} {TE : TyE} (hT : q2r P TE) {n : Nat} {B : Nat → Prop} {G : Gh} {s : AS} {a : Act} {w : World} (h : Rel n B G s a w) {t : TypeId} {len : Nat} {parts : List (Nat × AVal)} {parts' : Array (Nat × Value)}
 (hl : parts'.size = parts.length) (hr : ∀ (n : Nat) (p : Nat × AVal), parts[n]? = some p → ∃ p', parts'[n]? = some p' ∧ p'.1 = p.1 ∧ VR (Dm s.M) G B w p.2 p'.2)
 {sz : Nat} {xs0 : List AVal} (h0 : len ≠ 0) (hb : q1l TE s.M t len parts none = some (.sl sz xs0, [])) (k : Nat) (hk : s.M k = none) :
 ∃ v w' G', (Instr.buildSlice t len parts').run P w = .ok v w' ∧ Adv G w G' w' ∧ Rel n B G' ⟨s.T, upd s.M k (some (.arr 0 sz xs0))⟩ a w' ∧ VR (Dm (upd s.M k (some (.arr 0 sz xs0)))) G' B w' (.os k 0) v := by
 unfold q1l at hb
 split at hb
 case h_2 => cases hb
 rename_i e s1 b1 z1 ht
 split at hb
 case h_2 => cases hb
 rename_i ei he
 split at hb
 case isFalse => cases hb
 rename_i hc
 obtain ⟨hok, hlim⟩ := hc
 obtain ⟨o1, o2, o3, o4⟩ := q5h hT he hok
 split at hb
 case h_2 => cases hb
 rename_i xs hxs
 split at hb
 case isFalse => cases hb
 rename_i hone
 have hone' : ∀ x ∈ flat xs, x.one = true := List.all_eq_true.1 hone
 obtain ⟨g1, g2, g3⟩ := qmw parts (List.replicate len ei.zeroElem) xs (fun x hx => by rw [List.eq_of_mem_replicate hx, o2, o3]) hxs
 have hlen : xs.length = len := by simpa using g3
 have hu := q1z hT ht rfl
 have hflr : (flat (List.replicate len ei.zeroElem)).length = len * ei.size := by
  rw [q0q (sz := ei.size) (fun x hx => by rw [List.eq_of_mem_replicate hx, o2, o3])]; simp
 simp only [Option.some.injEq, Prod.mk.injEq, AVal.sl.injEq] at hb
 obtain ⟨⟨rfl, rfl⟩, _⟩ := hb
 have hne : ¬ (len * ei.size = 0) := by
  intro hz
  rcases Nat.mul_eq_zero.1 hz with hz | hz <;> omega
 obtain ⟨c', f1, f2, f3⟩ := q8n (D := Dm s.M) (G := G) (B := B) (w := w) (place := fun i => some (i * ei.size, ei.size)) (place' := fun i => some (i * ei.size, ei.size)) (fun i p hp => hp) parts parts'.toList _
  ((Array.range (len * ei.size)).map fun j => ei.zero.cells[j % ei.zero.cells.size]!) (flat xs) (by simpa using hl)
  (fun n p hn => by obtain ⟨p', q1, q2, q3⟩ := hr n p hn; exact ⟨p', by simpa using q1, q2, q3⟩) (by simp [hflr]) (qac hT he o2 o1 len len (Nat.le_refl _)) g1
 have hc's : c'.size = len * ei.size := by rw [f2, q0q (sz := ei.size) g2, hlen]
 obtain ⟨G', hA, hR, hh⟩ := h.new_arr (k := k) (e := 0) (.inl hk) ei.size len xs c' e (by omega) (by omega) g2 hone' f3
 refine ⟨.slice (some ⟨w.heap.size, 0, none⟩) len len, w.alloc (.cells c' e), G', ?_, hA, hR, .os k 0 (Dm_arr (q00 _ _ _) (Nat.le_refl _)) _ (by rw [hh, hlen])⟩
 have hlim2 : len * ei.size ≤ 2 ^ 24 := by omega
 simp only [Instr.buildSlice, Sem.run_bind, run_underlying hu, q0n hT he, Result.andThen]
 rw [if_neg (by omega), if_neg hne]
 simp [q0w hT he, f1, newRow]
def qa9 (l : List UInt8) : List AVal := l.map fun b => .int .u8 (b.toNat : Int)
theorem qdq : ∀ l : List UInt8, flat (qa9 l) = qa9 l
 | [] => rfl
 | b :: l => by
  show AVal.cells _ ++ flat (qa9 l) = _
  rw [qdq l]
  rfl
theorem qdn {P : Program} {TE : TyE} (hT : q2r P TE) {s : AS} {t : TypeId} {len : Nat} {parts : Array (Nat × Operand)} {sz : Nat} {xs : List AVal} (h0 : len ≠ 0) (hb : q1l TE s.M t len (evp s.T parts.toList) none = some (.sl sz xs, [])) (k : Nat) (hk : s.M k = none) :
 Hook P s (.buildSlice t len parts) (fun v M' => v = .os k 0 ∧ M' = upd s.M k (some (.arr 0 sz xs))) := by
 intro n B G act w hR o ho K Q hK
 obtain ⟨p1, p2⟩ := qf7 hR parts
 obtain ⟨v, w', G', r1, r2, r3, r4⟩ := qoi hT hR p1 p2 h0 hb k hk
 unfold Oper.wp
 have hrun : (execOp act.eval o).run P w = .ok (.value v) w' := by
  unfold execOp
  rw [ho]
  simp only [Sem.run_bind, r1, Result.andThen]
  rfl
 rw [hrun]
 exact hK _ _ _ w' G' ⟨rfl, rfl⟩ r2 r3 r4
theorem ql2 {P : Program} {TE : TyE} (hT : q2r P TE) {s : AS} {x : Operand} {t u : TypeId} {i j : TyI} (ht : TE t = some i) (hd : i.td = .slice u) (hu : TE u = some j) (hj : j.td = .int .u8) {k e : Nat} {bs : List UInt8} (hb0 : bs ≠ []) (hx : ev s.T x = .os k e) (hk : s.M k = some (.arr e 1 (qa9 bs))) :
 Hook P s (.convert t t x) (fun v M' => v = .sl 1 (qa9 bs) ∧ M' = upd s.M k (some .dead)) := by
 intro n B G act w hR o ho K Q hK
 have q1 := hR.ev x
 rw [hx] at q1
 generalize hxv : act.eval x = xv at q1
 cases q1 with
 | os _ _ hD _ hv =>
 have hm : OwnAt (Dm s.M) G B w (.arr k) 1 (qa9 bs) (G.hd k e) := hR.mem k _ hk
 rw [← hv] at hm
 rcases hm with ⟨_, h0⟩ | ⟨b, off, cap, c, el, rfl, h2, h3, h4, h5, h6, h7, h8, h9⟩
 ·exact absurd h0 (by cases bs <;> simp [qa9] at hb0 ⊢)
 obtain ⟨d, inf, u1, u2, u3, u4, u5, u6, u7⟩ := hT t i ht
 obtain ⟨d', inf', u1', u2', _⟩ := hT u j hu
 have hdd : d = .slice u := by rw [hd] at u2; cases d <;> simp [TD.of] at u2; rw [u2]
 have hdd' : d' = .int .u8 := by rw [hj] at u2'; cases d' <;> simp [TD.of] at u2'; rw [u2']
 subst hdd
 subst hdd'
 let w' : World := w.freeze { block := b, off := c.size } 1
 have hlt : b < w.heap.size := (Array.getElem?_eq_some_iff.1 h5).1
 have hsz : w'.heap.size = w.heap.size := by simp [w', World.freeze]
 have hsame : ∀ r, r ≠ b → w'.heap[r]? = w.heap[r]? := fun r hr => by
  simp only [w', World.freeze]
  rw [if_neg (by decide)]
  simp only [Array.getElem?_modify]
  rw [if_neg (fun e => hr e.symm)]
 have hb' : w'.heap[b]? = some (.cells c el (c.size, c.size + 1)) := by
  simp only [w', World.freeze]
  rw [if_neg (by decide)]
  simp only [Array.getElem?_modify, if_true, h5, Option.map_some]
  rfl
 have hrun : (execOp act.eval o).run P w = .ok (.value (.slice (some ⟨b, off, none⟩) (qa9 bs).length cap)) w' := by
  unfold execOp
  rw [ho]
  have hsh : w.shape? b = some (el, c.size) := by simp [World.shape?, h5]
  simp [convert, run_underlying u1, run_underlying u1', hxv, markStringish, shape, freeze, Sem.run, hsh, Result.andThen]
  rfl
 let G' : Gh := { G with ow := fun r => if r = b then none else G.ow r }
 have g0 : ∀ r, G.ow r = none → G'.ow r = none := fun r hr => by simp only [G', hr]; split <;> rfl
 have hA : Adv G w G' w' := ⟨⟨rfl, Nat.le_refl _⟩, rfl, rfl, by rw [hsz]; exact Nat.le_refl _, fun r hr ho => ⟨hsame r (fun e => by rw [e, h3] at ho; cases ho), g0 r ho⟩⟩
 have hR' : Rel n B G' ⟨s.T, upd s.M k (some .dead)⟩ act w' := hR.update hA k .dead (by show qmm (s.M k) _; rw [hk]; trivial) (fun _ _ _ => ⟨rfl, rfl⟩) (fun r key hr hn ho hne => by
  have hrb : r ≠ b := fun e => by rw [e, h3] at ho; cases ho; exact hne rfl
  exact ⟨hsame r hrb, by simp only [G', if_neg hrb]; exact ho⟩) (fun r hr => by
  rw [hsz]
  refine hR.ol r fun hn => hr (g0 r hn)) trivial
 unfold Oper.wp
 rw [hrun]
 refine hK _ _ _ w' G' ⟨rfl, rfl⟩ hA hR' ?_
 refine .sl 1 (qa9 bs) b off cap (fun m => c.getD (off + m) undef) h2 (fun _ => ⟨h4, by simp [G']⟩) h8 h7 (fun m y hy => ?_) (fun m y hy => ?_)
 ·obtain ⟨q, hq, _⟩ := h9 m y hy
  simp only [World.cell?, hb']
  simp [hq]
 ·obtain ⟨q, hq, hr⟩ := h9 m y hy
  have hf : c.getD (off + m) undef = q := by simp [hq]
  rw [hf]
  have hy' := List.mem_of_getElem? hy
  rw [qdq] at hy'
  simp only [qa9, List.mem_map] at hy'
  obtain ⟨z, _, rfl⟩ := hy'
  cases hr
  exact .int _ _


def r_k9_1 : List SOp := [zO 0 (.assign (.const (.bool false)))]
instance : Live r_k9_1 := ⟨[]⟩
def r_k9_2 : List SOp := [zO 8 (.buildSlice 22 1 #[(0,.const (.int .i64 4))]),zO 9 (.build 82 #[(0,.const (.int .i64 0)),(1,.const (.int .i64 6)),(2,.const (.int .i64 12))]),zO 10 (.build 82 #[(0,.const (.int .i64 1)),(1,.const (.int .i64 2)),(2,.const (.int .i64 2))]),zO 11 (.buildSlice 23 2 #[(0,.tmp 9),(1,.tmp 10)]),zO 12 (.build 25 #[(0,.tmp 8),(1,.tmp 11)]),zO 13 (.call ⟨.value (.func 12),#[.tmp 12],#[25]⟩),zM 7 13,zX 14 7 0,zX 15 7 1,zG 1 14,zG 2 15]
instance : Live r_k9_2 := ⟨[]⟩
def r_k9_3 : List SOp := [zM 16 2,zO 17 (.binOp .neq 35 (.tmp 16) (.const (.int .i64 0)) 35),zM 18 17,⟨some 19,.move (.tmp 1),some ((some 18),false)⟩,⟨some 20,.convert 28 9 (.tmp 19),some ((some 18),false)⟩,⟨some 21,.binOp .neq 9 (.tmp 20) (.const (.string ⟨#[1,4,2,0,0,6,1,0,0]⟩)) 9,some ((some 18),false)⟩,zO 22 (.pick (.tmp 18) (.const (.bool true)) (.tmp 21))]
instance : Live r_k9_3 := ⟨[1,2]⟩
def r_k9_4 : List SOp := [zO 0 (.assign (.const (.bool false)))]
instance : Live r_k9_4 := ⟨[]⟩
def qpz : List SOp := [zO 24 (.buildSlice 28 6 #[(0,.const (.int .u8 1)),(1,.const (.int .u8 2)),(2,.const (.int .u8 0)),(3,.const (.int .u8 1)),(4,.const (.int .u8 65)),(5,.const (.int .u8 4))]),zO 25 (.convert 28 28 (.tmp 24)),zO 26 (.call ⟨.value (.func 24),#[.tmp 25],#[28]⟩),zM 23 26,zX 27 23 0,zX 28 23 1,zG 3 27,zG 4 28]
instance : Live qpz := ⟨[]⟩
def r_k9_6 : List SOp := [zM 29 4,zO 30 (.binOp .neq 35 (.tmp 29) (.const (.int .i64 0)) 35),zM 31 30,⟨some 32,.move (.tmp 3),some ((some 31),false)⟩,⟨some 33,.build 43 #[(0,.const (.int .i64 2)),(1,.const (.int .i64 1))],some ((some 31),false)⟩,⟨some 34,.build 45 #[(0,.tmp 33),(1,.const (.string ⟨#[65]⟩)),(2,.const (.int .i64 5))],some ((some 31),false)⟩,⟨some 35,.buildSlice 26 1 #[(0,.tmp 34)],some ((some 31),false)⟩,⟨some 36,.call ⟨.value (.func 17),#[.tmp 32,.tmp 35],#[26,26]⟩,some ((some 31),false)⟩,⟨some 37,.unOp .not 4 (.tmp 36),some ((some 31),false)⟩,zO 38 (.pick (.tmp 31) (.const (.bool true)) (.tmp 37))]
instance : Live r_k9_6 := ⟨[3,4]⟩
def r_k9_7 : List SOp := [zO 0 (.assign (.const (.bool false)))]
instance : Live r_k9_7 := ⟨[]⟩
def qpy : List SOp := [zO 40 (.buildSlice 28 5 #[(0,.const (.int .u8 1)),(1,.const (.int .u8 0)),(2,.const (.int .u8 1)),(3,.const (.int .u8 1)),(4,.const (.int .u8 0))]),zO 41 (.convert 28 28 (.tmp 40)),zO 42 (.call ⟨.value (.func 26),#[.tmp 41],#[28]⟩),zM 39 42,zX 43 39 0,zX 44 39 1,zG 5 43,zG 6 44]
instance : Live qpy := ⟨[]⟩
def r_k9_9 : List SOp := [zM 45 6,zO 46 (.binOp .eql 35 (.tmp 45) (.const (.int .i64 0)) 35),zM 47 46,⟨some 48,.move (.tmp 5),some ((some 47),true)⟩,⟨some 49,.buildSlice 22 1 #[(0,.const (.int .i64 1))],some ((some 47),true)⟩,⟨some 50,.build 25 #[(0,.tmp 49)],some ((some 47),true)⟩,⟨some 51,.build 84 #[(1,.tmp 50)],some ((some 47),true)⟩,⟨some 52,.buildSlice 27 1 #[(0,.tmp 51)],some ((some 47),true)⟩,⟨some 53,.call ⟨.value (.func 27),#[.tmp 48,.tmp 52],#[27,27]⟩,some ((some 47),true)⟩,zO 54 (.pick (.tmp 47) (.tmp 53) (.const (.bool false))),zG 0 54]
instance : Live r_k9_9 := ⟨[5,6]⟩
def t_k9 : SC :=
 (.seq (.ops false r_k9_1) (.seq (.ops false r_k9_2) (.seq (.seq (.ops false r_k9_3) (.cond (.tmp 22) (.seq (.ops false r_k9_4) .ret) .skip)) (.seq (.ops false qpz) (.seq (.seq (.ops false r_k9_6) (.cond (.tmp 38) (.seq (.ops false r_k9_7) .ret) .skip)) (.seq (.ops false qpy) (.seq (.ops false r_k9_9) .ret)))))))
theorem it_k9 : FnIs Tryz.prog 9 55 [.tmp 0] t_k9 := ⟨Tryz.f9, _, Tryz.func9, rfl, rfl, rfl, rfl, by kernel_rfl⟩

theorem zd8 {α : Type} {z x : α} {ok : α → Bool} {b : Bs} {r : Rs α} (h : r = .ok (x, b.length)) (ho : ok x = true) : qmj z ok b r = x ∧ ql3 z ok b r = 0 := by
 have hr : qcv b r = true := by rw [h]; simp [qcv, rdA, rdE, q3r]
 have hv : rdV z r = x := by rw [h]; rfl
 unfold qmj ql3
 rw [hr, hv, ho]
 exact ⟨rfl, rfl⟩
theorem ev_k9 : Ev (En Tryz.prog rfl).P 9 [] (.ret (.bool true)) := by
 have c1 : Ev (En Tryz.prog rfl).P 12 [q10 fixP] (.ret (.tup [.sl 1 (q1k z21), .int .i64 0])) := by
  have := ev_k12 fixP (by decide) fun h => (qe7 h).pw (by decide)
  rw [zdd, z20] at this
  exact this
 have e2 : q0a qfo 0 = .ok (qo1, qfo.length) := q9v (by rw [z23]; exact St.all _) (qo0 qcc) (qfl qcc) (by decide)
 have c2 : Ev (En Tryz.prog rfl).P 24 [.sl 1 (q1k qfo)] (.ret (.tup [.sl 4 (q1b qo1), .int .i64 0])) := by
  have := ev_k24 qfo (by decide) (by rw [e2]; exact (by decide : qo1.length ≤ 1000000000))
  obtain ⟨h1, h2⟩ := zd8 (z := []) (ok := q4k) e2 qcc
  rw [h1, h2] at this
  exact this
 have c3 : Ev (En Tryz.prog rfl).P 17 [.sl 4 (q1b qo1), .sl 4 (q1b qo1)] (.ret (.bool true)) := ev_k17 qo1 (by decide)
 have e4 : q08 qfn 0 = .ok (qmk, qfn.length) := q9t (by rw [z1z]; exact St.all _) (fun r hr => (qar qcb r hr).1) (fun r hr => (qar qcb r hr).2) (by decide)
 have c4 : Ev (En Tryz.prog rfl).P 26 [.sl 1 (q1k qfn)] (.ret (.tup [.sl 3 (q1j qmk), .int .i64 0])) := by
  have hw : ∀ r ∈ qmk, wt r.past ≤ 40000000 := by decide
  have := ev_k26 qfn (by decide) (by rw [e4]; exact (by decide : qmk.length ≤ 1000000000)) (by rw [e4]; exact hw)
  obtain ⟨h1, h2⟩ := zd8 (z := []) (ok := q4f) e4 qcb
  rw [h1, h2] at this
  exact this
 have c5 : Ev (En Tryz.prog rfl).P 27 [.sl 3 (q1j qmk), .sl 3 (q1j qmk)] (.ret (.bool true)) := ev_k27 qmk (by decide) (by decide)
 refine Ev.of_body it_k9 (by simp) (Run.start ?_)
 unfold t_k9
 have hS := z1d
 generalize hx : SC.ops false qpz = X
 generalize hy : SC.ops false qpy = Y
 (focus (have hF := @q00; (repeat' (first | refine go1 (k:=?_) | with_reducible refine Ny.of ?_ ?_ | (refine Hyp.of ?_; intro hc; (try simp only [hc]); (try simp only [Bh] at hc)))); all_goals clear hF))
 refine q05 [q10 fixP] (he := c1) (k:=?_)
 have n1 := q6t z21
 have s1 := qbb z21
 have d1 : ((⟨z21.toArray⟩ : ByteArray) = ⟨#[1, 4, 2, 0, 0, 6, 1, 0, 0]⟩) = True := eq_true rfl
 (focus (have hF := (aI @n1 (aI @s1 @d1)); (repeat' (first | refine go1 (k:=?_) | with_reducible refine Ny.of ?_ ?_ | (refine Hyp.of ?_; intro hc; (try simp only [hc]); (try simp only [Bh] at hc)))); all_goals clear hF))
 subst hx
 refine Run.ops ?_
 unfold qpz
 refine q2e (qdn (TE := TE0) (En Tryz.prog rfl).hT (s := ⟨_, _⟩) (sz := 1) (xs := qa9 qfo) (by decide) (by with_unfolding_all rfl) 24 (by with_unfolding_all rfl)) ?_
 rintro v M' ⟨rfl, rfl⟩
 dsimp only [AS.put]
 refine q2e (ql2 (TE := TE0) (En Tryz.prog rfl).hT (s := ⟨_, _⟩) TE_28 rfl TE_5 rfl (bs := qfo) (by decide) (k := 24) (e := 0) (by with_unfolding_all rfl) (by with_unfolding_all rfl)) ?_
 rintro v M' ⟨rfl, rfl⟩
 dsimp only [AS.put]
 refine q05 [.sl 1 (q1k qfo)] (he := c2) (k:=?_)
 (focus (have hF := @q00; (repeat' (first | refine go1 (k:=?_) | with_reducible refine Ny.of ?_ ?_ | (refine Hyp.of ?_; intro hc; (try simp only [hc]); (try simp only [Bh] at hc)))); all_goals clear hF))
 refine q05 [.sl 4 (q1b qo1), .sl 4 (q1b qo1)] (he := c3) (k:=?_)
 (focus (have hF := @q00; (repeat' (first | refine go1 (k:=?_) | with_reducible refine Ny.of ?_ ?_ | (refine Hyp.of ?_; intro hc; (try simp only [hc]); (try simp only [Bh] at hc)))); all_goals clear hF))
 subst hy
 refine Run.ops ?_
 unfold qpy
 refine q2e (qdn (TE := TE0) (En Tryz.prog rfl).hT (s := ⟨_, _⟩) (sz := 1) (xs := qa9 qfn) (by decide) (by with_unfolding_all rfl) 40 (by with_unfolding_all rfl)) ?_
 rintro v M' ⟨rfl, rfl⟩
 dsimp only [AS.put]
 refine q2e (ql2 (TE := TE0) (En Tryz.prog rfl).hT (s := ⟨_, _⟩) TE_28 rfl TE_5 rfl (bs := qfn) (by decide) (k := 40) (e := 0) (by with_unfolding_all rfl) (by with_unfolding_all rfl)) ?_
 rintro v M' ⟨rfl, rfl⟩
 dsimp only [AS.put]
 refine q05 [.sl 1 (q1k qfn)] (he := c4) (k:=?_)
 (focus (have hF := @q00; (repeat' (first | refine go1 (k:=?_) | with_reducible refine Ny.of ?_ ?_ | (refine Hyp.of ?_; intro hc; (try simp only [hc]); (try simp only [Bh] at hc)))); all_goals clear hF))
 replace c5 : Ev (En Tryz.prog rfl).P 27 [.sl 3 (q1j qmk), .sl 3 [.agg [.str ⟨#[]⟩, .sl 1 (q03 [1]), .nil]]] _ := c5.wks ⟨Wkn.refl _, Wkn.sl rfl ⟨Wkn.refl _, Wkn.refl _, Wkn.nil 3, trivial⟩ (by decide) (by decide), trivial⟩
 refine q05 [.sl 3 (q1j qmk), .sl 3 [.agg [.str ⟨#[]⟩, .sl 1 (q03 [1]), .nil]]] (he := c5) (k:=?_)
 (focus (have hF := @q00; (repeat' (first | refine go1 (k:=?_) | with_reducible refine Ny.of ?_ ?_ | (refine Hyp.of ?_; intro hc; (try simp only [hc]); (try simp only [Bh] at hc)))); all_goals clear hF))
 exact Fin.all rfl rfl rfl

theorem qlw : Tryz.prog.cellsOf 9 = 1 := by kernel_rfl
theorem qlx : Tryz.prog.cellsOf 84 = 3 := by kernel_rfl
theorem qly : Tryz.prog.cellsOf 45 = 4 := by kernel_rfl
theorem qe1 : Tryz.prog.cellsOf 27 = 1 := by kernel_rfl
theorem qe2 : Tryz.prog.cellsOf 26 = 1 := by kernel_rfl
theorem op_str : Opens Tryz.prog 9 ByteArray (fun _ => True) (fun s => [.str s]) (fun s => s.size + 1) := Opens.string Tryz.underlying9
def okK (r : Rec) : Prop := okP r.past
def cellsK (r : Rec) : List AVal := [.str r.sku, .sl 1 (q03 r.past.vec), .sl 3 (q0g r.past.cloud)]
theorem op_Rec : Opens Tryz.prog 84 Rec okK cellsK wtK :=
 (Opens.struct Tryz.underlying84 qlx (OpensF.cons (k := 1) op_str (fun _ => rfl) qlw rfl (OpensF.cons (k := 2) qnm (fun _ => rfl) q71 rfl (OpensF.nil _)))).map
  (fun x => ⟨x.1, x.2.1⟩) (fun x h => h.2.1) (fun _ => rfl) (fun x => by show wt x.2.1 + 1 ≤ x.1.size + 1 + (wt x.2.1 + 0) + 1; omega)
theorem zck : Opens Tryz.prog 27 (List Rec) (fun l => ∀ x ∈ l, okK x) (fun l => [.sl 3 (q1j l)]) (wtL wtK) :=
 Opens.slice (mk := qat) Tryz.underlying27 op_Rec qlx (by decide) (fun _ => rfl) (fun _ => rfl) (fun x y hy => by simp [cellsK] at hy; rcases hy with rfl | rfl | rfl <;> rfl)
def okE (e : Ent) : Prop := True
def cellsE (e : Ent) : List AVal := [.int .i64 e.rep, .int .i64 e.num, .str e.sku, .int .i64 e.qty]
theorem op_Ent : Opens Tryz.prog 45 Ent okE cellsE (fun _ => 1) :=
 (Opens.struct Tryz.underlying45 qly (OpensF.cons (k := 2) op_Dot (fun _ => rfl) qlz rfl (OpensF.cons (k := 1) op_str (fun _ => rfl) qlw rfl (OpensF.cons (k := 1) qbv (fun _ => rfl) q4i rfl (OpensF.nil _))))).map
  (fun x => ⟨x.1.1, x.1.2, x.2.1, x.2.2.1⟩) (fun x h => trivial) (fun _ => rfl) (fun _ => Nat.le_add_left _ _)
theorem zcl : Opens Tryz.prog 26 (List Ent) (fun l => ∀ x ∈ l, okE x) (fun l => [.sl 4 (q1b l)]) (wtL fun _ => 1) :=
 Opens.slice (mk := ze6) Tryz.underlying26 op_Ent qly (by decide) (fun _ => rfl) (fun _ => rfl) (fun x y hy => by simp [cellsE] at hy; rcases hy with rfl | rfl | rfl | rfl <;> rfl)
structure CasK where
 r : List Rec
 q : List Rec
 a : List Ent
 b : List Ent
 p : Pst
 o : Pst

section
open Go.Proofs Go.ChangeShapes Go.WideShapes Go.ChangeAt Go.RowKit
theorem Opens.byte {P : Program} {t : TypeId} (ht : P.underlying t = some (.int .u8)) : Opens P t UInt8 (fun _ => True) (fun c => [.int .u8 (c.toNat : Int)]) (fun _ => 1) := by
 refine ⟨fun {H} enc w fuel cs d ps h => ?_⟩
 obtain ⟨n, rfl, hx, hw⟩ := DataW.trod_int ht h
 have hd : d = .lit (.int .u8 n) := congrArg Prod.fst hx
 subst hd
 have hb := bounds_u8 hw
 refine ⟨UInt8.ofNat n.toNat, trivial, by simp [Rows.uptoBulk], rfl, fun i y v hy hv G hG => ?_⟩
 match i with
 | 0 =>
  simp only [List.getElem?_cons_zero, Option.some.injEq] at hy hv
  subst hy; subst hv
  have hn : ((UInt8.ofNat n.toNat).toNat : Int) = n := by
   rw [UInt8.toNat_ofNat']
   omega
  rw [hn]
  exact .int _ _
 | i + 1 => simp at hy
theorem z2f : Tryz.prog.cellsOf 5 = 1 := by kernel_rfl
theorem q7s : Tryz.prog.cellsOf 28 = 1 := by kernel_rfl
def mkB (c : UInt8) : AVal := .int .u8 (c.toNat : Int)
theorem qf8 : Opens Tryz.prog 28 Bs (fun l => ∀ x ∈ l, True) (fun l => [.sl 1 (q1k l)]) (wtL fun _ => 1) :=
 Opens.slice (mk := mkB) Tryz.underlying28 (Opens.byte Tryz.underlying5) z2f (by decide) (fun _ => rfl) (fun _ => rfl) (fun x y hy => by simp at hy; subst hy; rfl)
structure CasP where
 p : Pst
 q : Pst
 es : List Ent
 fs : List Ent
 rs : List Rec
 ts : List Rec
 a : Bs
 b : Bs
 c : Bs
def qm0 (x : CasP) : List AVal := [.sl 1 (q03 x.p.vec), .sl 3 (q0g x.p.cloud), .sl 1 (q03 x.q.vec), .sl 3 (q0g x.q.cloud), .sl 4 (q1b x.es), .sl 4 (q1b x.fs), .sl 3 (q1j x.rs), .sl 3 (q1j x.ts), .sl 1 (q1k x.a), .sl 1 (q1k x.b), .sl 1 (q1k x.c)]
def encZ (x : CasP) : AVal := .agg (qm0 x)
def okZ (x : CasP) : Prop := okP x.p ∧ okP x.q
def wtZ (x : CasP) : Nat := wt x.p + wt x.q + x.es.length + x.fs.length + wtKs x.rs + wtKs x.ts + x.a.length + x.b.length + x.c.length
theorem qoe : Tryz.prog.cellsOf 30 = 11 := by kernel_rfl
theorem op_CaseP : Opens Tryz.prog 30 CasP okZ qm0 wtZ :=
 (Opens.struct Tryz.underlying30 qoe (OpensF.cons (k := 2) qnm (fun _ => rfl) q71 rfl (OpensF.cons (k := 2) qnm (fun _ => rfl) q71 rfl
  (OpensF.cons (k := 1) zcl (fun _ => rfl) qe2 rfl (OpensF.cons (k := 1) zcl (fun _ => rfl) qe2 rfl (OpensF.cons (k := 1) zck (fun _ => rfl) qe1 rfl (OpensF.cons (k := 1) zck (fun _ => rfl) qe1 rfl
  (OpensF.cons (k := 1) qf8 (fun _ => rfl) q7s rfl (OpensF.cons (k := 1) qf8 (fun _ => rfl) q7s rfl (OpensF.cons (k := 1) qf8 (fun _ => rfl) q7s rfl (OpensF.nil _))))))))))).map
  (fun x => ⟨x.1, x.2.1, x.2.2.1, x.2.2.2.1, x.2.2.2.2.1, x.2.2.2.2.2.1, x.2.2.2.2.2.2.1, x.2.2.2.2.2.2.2.1, x.2.2.2.2.2.2.2.2.1⟩) (fun x h => ⟨h.1, h.2.1⟩) (fun _ => rfl)
  (fun x => by
   show wt x.1 + wt x.2.1 + x.2.2.1.length + x.2.2.2.1.length + wtKs x.2.2.2.2.1 + wtKs x.2.2.2.2.2.1 + x.2.2.2.2.2.2.1.length + x.2.2.2.2.2.2.2.1.length + x.2.2.2.2.2.2.2.2.1.length ≤
    wt x.1 + (wt x.2.1 + (wtL (fun _ => 1) x.2.2.1 + (wtL (fun _ => 1) x.2.2.2.1 + ((wtKs x.2.2.2.2.1 + 1) + ((wtKs x.2.2.2.2.2.1 + 1) + (wtL (fun _ => 1) x.2.2.2.2.2.2.1 + (wtL (fun _ => 1) x.2.2.2.2.2.2.2.1 + (wtL (fun _ => 1) x.2.2.2.2.2.2.2.2.1 + 0)))))))) + 1
   rw [q7f, q7f, q7f, q7f, q7f]; omega)
end
def zc9 : List SOp := [zO 2 (.assign (.const (.bool false)))]
instance : Live zc9 := ⟨[0]⟩
def zc8 : List SOp := [zM 12 0,zO 13 (.call ⟨.value (.func 23),#[.tmp 12],#[28]⟩),zM 11 13,zX 14 11 0,zX 15 11 1,zO 3 (.alloc 25),⟨none,.store 25 (.tmp 3) (.tmp 14),none⟩,zG 4 15]
instance : Live zc8 := ⟨[0]⟩
def zc7 : List SOp := [zM 17 0,zO 18 (.call ⟨.value (.func 40),#[.tmp 17],#[28]⟩),zM 16 18,zX 19 16 0,zX 20 16 1,zO 5 (.alloc 25),⟨none,.store 25 (.tmp 5) (.tmp 19),none⟩,zG 6 20]
instance : Live zc7 := ⟨[0,3,4]⟩
def zc6 : List SOp := [zM 21 4,zM 22 6,zO 23 (.binOp .neq 35 (.tmp 21) (.tmp 22) 35),zM 24 23,⟨some 25,.load 25 (.tmp 3),some ((some 24),false)⟩,⟨some 26,.load 25 (.tmp 5),some ((some 24),false)⟩,⟨some 27,.call ⟨.value (.func 14),#[.tmp 25,.tmp 26],#[25,25]⟩,some ((some 24),false)⟩,⟨some 28,.unOp .not 4 (.tmp 27),some ((some 24),false)⟩,zO 29 (.pick (.tmp 24) (.const (.bool true)) (.tmp 28))]
instance : Live zc6 := ⟨[0,3,4,5,6]⟩
def zc5 : List SOp := [zO 2 (.assign (.const (.bool false)))]
instance : Live zc5 := ⟨[]⟩
def zc4 : List SOp := [zM 31 0,zO 32 (.call ⟨.value (.func 24),#[.tmp 31],#[28]⟩),zM 30 32,zX 33 30 0,zX 34 30 1,zG 7 33,zG 4 34]
instance : Live zc4 := ⟨[0]⟩
def zc3 : List SOp := [zM 36 0,zO 37 (.call ⟨.value (.func 41),#[.tmp 36],#[28]⟩),zM 35 37,zX 38 35 0,zX 39 35 1,zG 8 38,zG 6 39]
instance : Live zc3 := ⟨[0,4,7]⟩
def zc2 : List SOp := [zM 40 4,zM 41 6,zO 42 (.binOp .neq 35 (.tmp 40) (.tmp 41) 35),zM 43 42,⟨some 44,.move (.tmp 7),some ((some 43),false)⟩,⟨some 45,.move (.tmp 8),some ((some 43),false)⟩,⟨some 46,.call ⟨.value (.func 17),#[.tmp 44,.tmp 45],#[26,26]⟩,some ((some 43),false)⟩,⟨some 47,.unOp .not 4 (.tmp 46),some ((some 43),false)⟩,zO 48 (.pick (.tmp 43) (.const (.bool true)) (.tmp 47))]
instance : Live zc2 := ⟨[0,4,6,7,8]⟩
def zc1 : List SOp := [zO 2 (.assign (.const (.bool false)))]
instance : Live zc1 := ⟨[]⟩
def qyv : List SOp := [zM 50 0,zO 51 (.call ⟨.value (.func 26),#[.tmp 50],#[28]⟩),zM 49 51,zX 52 49 0,zX 53 49 1,zG 9 52,zG 4 53]
instance : Live qyv := ⟨[0]⟩
def qyu : List SOp := [zM 55 0,zO 56 (.call ⟨.value (.func 42),#[.tmp 55],#[28]⟩),zM 54 56,zX 57 54 0,zX 58 54 1,zG 10 57,zG 6 58]
instance : Live qyu := ⟨[0,4,9]⟩
def qyt : List SOp := [zM 59 4,zM 60 6,zO 61 (.binOp .eql 35 (.tmp 59) (.tmp 60) 35),zM 62 61,⟨some 63,.move (.tmp 9),some ((some 62),true)⟩,⟨some 64,.move (.tmp 10),some ((some 62),true)⟩,⟨some 65,.call ⟨.value (.func 27),#[.tmp 63,.tmp 64],#[27,27]⟩,some ((some 62),true)⟩,zO 66 (.pick (.tmp 62) (.tmp 65) (.const (.bool false))),zG 2 66]
instance : Live qyt := ⟨[4,6,9,10]⟩
def t_k10 : SC :=
 (.seq (.ops false zc9) (.seq (.ops false zc8) (.seq (.ops false zc7) (.seq (.seq (.ops false zc6) (.cond (.tmp 29) (.seq (.ops false zc5) .ret) .skip)) (.seq (.ops false zc4) (.seq (.ops false zc3) (.seq (.seq (.ops false zc2) (.cond (.tmp 48) (.seq (.ops false zc1) .ret) .skip)) (.seq (.ops false qyv) (.seq (.ops false qyu) (.seq (.ops false qyt) .ret))))))))))
theorem it_k10 : FnIs Tryz.prog 10 67 [.tmp 2] t_k10 := ⟨Tryz.f10, _, Tryz.func10, rfl, rfl, rfl, rfl, by kernel_rfl⟩

def r_k3_1 : List SOp := [zO 1 (.box 30 (.tmp 0)),zO 2 (.assign (.const (.bool false)))]
instance : Live r_k3_1 := ⟨[0]⟩
def r_k3_2 : List SOp := [zO 3 (.call ⟨.value (.func 9),#[],#[]⟩),zM 4 3,⟨some 5,.fieldAddr 30 (.tmp 1) 6,some ((some 4),true)⟩,⟨some 6,.load 28 (.tmp 5),some ((some 4),true)⟩,⟨some 7,.call ⟨.value (.func 10),#[.tmp 6],#[28]⟩,some ((some 4),true)⟩,zO 8 (.pick (.tmp 4) (.tmp 7) (.const (.bool false))),zM 9 8,⟨some 10,.fieldAddr 30 (.tmp 1) 7,some ((some 9),true)⟩,⟨some 11,.load 28 (.tmp 10),some ((some 9),true)⟩,⟨some 12,.call ⟨.value (.func 10),#[.tmp 11],#[28]⟩,some ((some 9),true)⟩,zO 13 (.pick (.tmp 9) (.tmp 12) (.const (.bool false))),zM 14 13,⟨some 15,.fieldAddr 30 (.tmp 1) 8,some ((some 14),true)⟩,⟨some 16,.load 28 (.tmp 15),some ((some 14),true)⟩,⟨some 17,.call ⟨.value (.func 10),#[.tmp 16],#[28]⟩,some ((some 14),true)⟩,zO 18 (.pick (.tmp 14) (.tmp 17) (.const (.bool false))),zG 2 18]
instance : Live r_k3_2 := ⟨[1]⟩
def t_k3 : SC :=
 (.seq (.ops false r_k3_1) (.seq (.ops false r_k3_2) .ret))
theorem it_k3 : FnIs Tryz.prog 3 19 [.tmp 2] t_k3 := ⟨Tryz.f3, _, Tryz.func3, rfl, rfl, rfl, rfl, by kernel_rfl⟩

theorem z3w (b : Bs) (v1 : Pst) (r1 : Int) (v2 : List Ent) (r2 : Int) (v3 : List Rec) (r3 : Int) (w1 : wt v1 ≤ 900000000) (w2 : v2.length ≤ 1000000000) (w3 : v3.length ≤ 1000000000) (w4 : ∀ r ∈ v3, wt r.past ≤ 900000000)
 (g1 : Ev (En Tryz.prog rfl).P 23 [.sl 1 (q1k b)] (.ret (.tup [q10 v1, .int .i64 r1]))) (f1 : Ev (En Tryz.prog rfl).P 40 [.sl 1 (q1k b)] (.ret (.tup [q10 v1, .int .i64 r1])))
 (g2 : Ev (En Tryz.prog rfl).P 24 [.sl 1 (q1k b)] (.ret (.tup [.sl 4 (q1b v2), .int .i64 r2]))) (f2 : Ev (En Tryz.prog rfl).P 41 [.sl 1 (q1k b)] (.ret (.tup [.sl 4 (q1b v2), .int .i64 r2])))
 (g3 : Ev (En Tryz.prog rfl).P 26 [.sl 1 (q1k b)] (.ret (.tup [.sl 3 (q1j v3), .int .i64 r3]))) (f3 : Ev (En Tryz.prog rfl).P 42 [.sl 1 (q1k b)] (.ret (.tup [.sl 3 (q1j v3), .int .i64 r3]))) :
 Ev (En Tryz.prog rfl).P 10 [.sl 1 (q1k b)] (.ret (.bool true)) := by
 have hS := z1d
 have c1 := zds v1 v1 (by unfold wt at w1; omega) (by unfold wt at w1; omega)
 rw [q6q ⟨rfl, rfl⟩] at c1
 have c2 := ev_k17 v2 w2
 have c3 := ev_k27 v3 w3 w4
 refine Ev.of_body it_k10 (by simp) (Run.start ?_)
 unfold t_k10
 (focus (have hF := @q00; (repeat' (first | refine go1 (k:=?_) | with_reducible refine Ny.of ?_ ?_ | (refine Hyp.of ?_; intro hc; (try simp only [hc]); (try simp only [Bh] at hc)))); all_goals clear hF))
 refine q05 [.sl 1 (q1k b)] (he := g1) (k:=?_)
 unfold q10 at *
 (focus (have hF := @q00; (repeat' (first | refine go1 (k:=?_) | with_reducible refine Ny.of ?_ ?_ | (refine Hyp.of ?_; intro hc; (try simp only [hc]); (try simp only [Bh] at hc)))); all_goals clear hF))
 refine q05 [.sl 1 (q1k b)] (he := f1) (k:=?_)
 (focus (have hF := @q00; (repeat' (first | refine go1 (k:=?_) | with_reducible refine Ny.of ?_ ?_ | (refine Hyp.of ?_; intro hc; (try simp only [hc]); (try simp only [Bh] at hc)))); all_goals clear hF))
 refine q05 [.agg [.sl 1 (q03 v1.vec), .sl 3 (q0g v1.cloud)], .agg [.sl 1 (q03 v1.vec), .sl 3 (q0g v1.cloud)]] (he := c1) (k:=?_)
 (focus (have hF := @q00; (repeat' (first | refine go1 (k:=?_) | with_reducible refine Ny.of ?_ ?_ | (refine Hyp.of ?_; intro hc; (try simp only [hc]); (try simp only [Bh] at hc)))); all_goals clear hF))
 refine q05 [.sl 1 (q1k b)] (he := g2) (k:=?_)
 (focus (have hF := @q00; (repeat' (first | refine go1 (k:=?_) | with_reducible refine Ny.of ?_ ?_ | (refine Hyp.of ?_; intro hc; (try simp only [hc]); (try simp only [Bh] at hc)))); all_goals clear hF))
 refine q05 [.sl 1 (q1k b)] (he := f2) (k:=?_)
 (focus (have hF := @q00; (repeat' (first | refine go1 (k:=?_) | with_reducible refine Ny.of ?_ ?_ | (refine Hyp.of ?_; intro hc; (try simp only [hc]); (try simp only [Bh] at hc)))); all_goals clear hF))
 refine q05 [.sl 4 (q1b v2), .sl 4 (q1b v2)] (he := c2) (k:=?_)
 (focus (have hF := @q00; (repeat' (first | refine go1 (k:=?_) | with_reducible refine Ny.of ?_ ?_ | (refine Hyp.of ?_; intro hc; (try simp only [hc]); (try simp only [Bh] at hc)))); all_goals clear hF))
 refine q05 [.sl 1 (q1k b)] (he := g3) (k:=?_)
 (focus (have hF := @q00; (repeat' (first | refine go1 (k:=?_) | with_reducible refine Ny.of ?_ ?_ | (refine Hyp.of ?_; intro hc; (try simp only [hc]); (try simp only [Bh] at hc)))); all_goals clear hF))
 refine q05 [.sl 1 (q1k b)] (he := f3) (k:=?_)
 (focus (have hF := @q00; (repeat' (first | refine go1 (k:=?_) | with_reducible refine Ny.of ?_ ?_ | (refine Hyp.of ?_; intro hc; (try simp only [hc]); (try simp only [Bh] at hc)))); all_goals clear hF))
 refine q05 [.sl 3 (q1j v3), .sl 3 (q1j v3)] (he := c3) (k:=?_)
 (focus (have hF := @q00; (repeat' (first | refine go1 (k:=?_) | with_reducible refine Ny.of ?_ ?_ | (refine Hyp.of ?_; intro hc; (try simp only [hc]); (try simp only [Bh] at hc)))); all_goals clear hF))
 exact Fin.all rfl rfl rfl
theorem zdx (b : Bs) (hb : b.length ≤ 20000000) : Ev (En Tryz.prog rfl).P 10 [.sl 1 (q1k b)] (.ret (.bool true)) := by
 have w1 := rPast_wt b
 have w2 := qkm b
 obtain ⟨w3, w4⟩ := qkj b
 have g1 := ev_k23 b (by omega) (by omega)
 have g2 := ev_k24 b (by omega) (by omega)
 have g3 := ev_k26 b (by omega) (by omega) (fun r hr => by have := w4 r hr; omega)
 have f1 := ev_k40 b hb
 have f2 := ev_k41 b hb
 have f3 := ev_k42 b hb
 rw [(qh9 hb).1, (qh9 hb).2] at f1
 rw [(q9r hb).1, (q9r hb).2] at f2
 rw [(q9q hb).1, (q9q hb).2] at f3
 have t1 := q6e (z := ⟨[], []⟩) (ok := q0o) (qan b 0) (fun x a h => (qam h).2)
 have t2 := q6e (z := []) (ok := q4k) (q7n b 0) (fun x a h => (q5g h).2)
 have t3 := q6e (z := []) (ok := q4f) (q7l b 0) (fun x a h => (q4b h).2.2)
 refine z3w b _ _ _ _ _ _ ?_ ?_ ?_ ?_ g1 f1 g2 f2 g3 f3
 ·rcases t1 with ⟨_, _, h⟩ | ⟨_, h, _⟩
  ·have := (qam h).1; omega
  ·rw [h]; exact Nat.zero_le _
 ·rcases t2 with ⟨_, _, h⟩ | ⟨_, h, _⟩
  ·have := (q5g h).1; omega
  ·rw [h]; exact Nat.zero_le _
 ·rcases t3 with ⟨_, _, h⟩ | ⟨_, h, _⟩
  ·have := (q4b h).1; omega
  ·rw [h]; exact Nat.zero_le _
 ·rcases t3 with ⟨_, _, h⟩ | ⟨_, h, _⟩
  ·exact fun r hr => by have := (q4b h).2.1 r hr; omega
  ·rw [h]; exact fun r hr => by cases hr
theorem ev_k3 (x : CasP) (hw : wtZ x ≤ 1100000) : Ev (En Tryz.prog rfl).P 3 [encZ x] (.ret (.bool true)) := by
 have hS := z1d
 unfold wtZ at hw
 have f1 := zdx x.a (by omega)
 have f2 := zdx x.b (by omega)
 have f3 := zdx x.c (by omega)
 refine Ev.of_body it_k3 (by simp) (Run.start ?_)
 unfold t_k3
 have hcs : q0i (qm0 x) = true := by simp [qm0, q0i, AVal.stb, q01, q02, q0p, q0l, q0e]
 unfold encZ qm0 at *
 (focus (have hF := @hcs; (repeat' (first | refine go1 (k:=?_) | with_reducible refine Ny.of ?_ ?_ | (refine Hyp.of ?_; intro hc; (try simp only [hc]); (try simp only [Bh] at hc)))); all_goals clear hF))
 refine q05 [] (he := ev_k9) (k:=?_)
 (focus (have hF := @hcs; (repeat' (first | refine go1 (k:=?_) | with_reducible refine Ny.of ?_ ?_ | (refine Hyp.of ?_; intro hc; (try simp only [hc]); (try simp only [Bh] at hc)))); all_goals clear hF))
 refine q05 [.sl 1 (q1k x.a)] (he := f1) (k:=?_)
 (focus (have hF := @hcs; (repeat' (first | refine go1 (k:=?_) | with_reducible refine Ny.of ?_ ?_ | (refine Hyp.of ?_; intro hc; (try simp only [hc]); (try simp only [Bh] at hc)))); all_goals clear hF))
 refine q05 [.sl 1 (q1k x.b)] (he := f2) (k:=?_)
 (focus (have hF := @hcs; (repeat' (first | refine go1 (k:=?_) | with_reducible refine Ny.of ?_ ?_ | (refine Hyp.of ?_; intro hc; (try simp only [hc]); (try simp only [Bh] at hc)))); all_goals clear hF))
 refine q05 [.sl 1 (q1k x.c)] (he := f3) (k:=?_)
 (focus (have hF := @hcs; (repeat' (first | refine go1 (k:=?_) | with_reducible refine Ny.of ?_ ?_ | (refine Hyp.of ?_; intro hc; (try simp only [hc]); (try simp only [Bh] at hc)))); all_goals clear hF))
 exact Fin.all rfl rfl rfl

end Go.Proofs.YtkionmommpgcmaaGreat.Avm
