/- Part 6 of the proof: lemmas. -/
import Derived.Test.YthejoeiecenjkaaGreatL5
import Derived.Test.YthejoeiecenjkaaGreatProg
import Derived.KernelRfl
set_option maxRecDepth 100000
set_option maxHeartbeats 4000000
set_option linter.unusedVariables false
set_option linter.unusedSimpArgs false
set_option linter.unusedSectionVars false
set_option linter.defProp false
namespace Go.Proofs.YthejoeiecenjkaaGreat.Avm
open Go.Proofs
theorem z8u (A B : List Ent) (j : Nat) : Ev (En Tryz.prog rfl).P 112 [.sl 4 (q0b A), .int .i64 A.length, .sl 4 (q0b B), .int .i64 j] (.ret (.int .i64 1)) := by
 refine Ev.of_body qd8 (by simp) (Run.start ?_)
 unfold qeo
 have e1 := q0n A
 have hS := qpa
 (have hF := @e1; refine q01 (k:=?_); clear hF)
 exact Fin.tmp' rfl rfl
theorem z8t (A B : List Ent) (i : Nat) (hi : i < A.length) : Ev (En Tryz.prog rfl).P 112 [.sl 4 (q0b A), .int .i64 i, .sl 4 (q0b B), .int .i64 B.length] (.ret (.int .i64 (-1))) := by
 refine Ev.of_body qd8 (by simp) (Run.start ?_)
 unfold qeo
 have e1 := q0n A
 have e2 := q0n B
 have hS := qpa
 have h1 : ¬ (i : Int) = (A.length : Int) := by omega
 (have hF := (aI @e1 (aI @e2 @h1)); refine q01 (k:=?_); clear hF)
 exact Fin.tmp' rfl rfl
theorem ent_ok {e : Ent} (h : q21 e = 0) : 0 ≤ e.rep ∧ e.rep < 16 ∧ 1 ≤ e.num ∧ e.num ≤ 1000000000 := by
 unfold q21 at h
 split at h
 ·cases h
 ·split at h
  ·cases h
  ·omega
theorem zk8 (A B : List Ent) (i j : Nat) (a b : Ent) (ha : A[i]? = some a) (hb : B[j]? = some b) (oa : q21 a = 0) (ob : q21 b = 0) :
 ∃ c : Int, Ev (En Tryz.prog rfl).P 112 [.sl 4 (q0b A), .int .i64 i, .sl 4 (q0b B), .int .i64 j] (.ret (.int .i64 c)) ∧ (c < 0 ↔ q34 a.dot b.dot = true) ∧ (0 < c ↔ q34 b.dot a.dot = true) := by
 have e1 := q0n A
 have e2 := q0n B
 have hS := qpa
 have hi : i < A.length := by
  rcases Nat.lt_or_ge i A.length with h | h
  ·exact h
  ·rw [List.getElem?_eq_none h] at ha; cases ha
 have hj : j < B.length := by
  rcases Nat.lt_or_ge j B.length with h | h
  ·exact h
  ·rw [List.getElem?_eq_none h] at hb; cases hb
 have n1 : ¬ (i : Int) = (A.length : Int) := by omega
 have n2 : ¬ (j : Int) = (B.length : Int) := by omega
 have g1 := q0w ha
 have g2 := q0w hb
 have pa := ent_ok oa
 have pb := ent_ok ob
 by_cases h1 : a.rep = b.rep
 ·by_cases h2 : a.num = b.num
  ·refine ⟨0, ?_, ?_, ?_⟩
   ·refine Ev.of_body qd8 (by simp) (Run.start ?_)
    unfold qeo
    (have hF := (aI (aI (aI @e1 @e2) (aI @n1 @n2)) (aI (aI @g1 @g2) (aI @h1 @h2))); refine q01 (k:=?_); clear hF)
    exact Fin.tmp' rfl rfl
   ·rw [q3x]; simp only [Ent.dot]; omega
   ·rw [q3x]; simp only [Ent.dot]; omega
  ·refine ⟨a.num - b.num, ?_, ?_, ?_⟩
   ·have hwr : IntKind.i64.wrap (a.num - b.num) = a.num - b.num := q2i (by omega)
    refine Ev.of_body qd8 (by simp) (Run.start ?_)
    unfold qeo
    (have hF := (aI (aI (aI @e1 @e2) (aI @n1 @n2)) (aI (aI @g1 @g2) (aI @h1 (aI @h2 @hwr)))); refine q01 (k:=?_); clear hF)
    exact Fin.tmp' rfl rfl
   ·rw [q3x]; simp only [Ent.dot]; omega
   ·rw [q3x]; simp only [Ent.dot]; omega
 ·refine ⟨a.rep - b.rep, ?_, ?_, ?_⟩
  ·have hwr : IntKind.i64.wrap (a.rep - b.rep) = a.rep - b.rep := q2i (by omega)
   refine Ev.of_body qd8 (by simp) (Run.start ?_)
   unfold qeo
   (have hF := (aI (aI (aI @e1 @e2) (aI @n1 @n2)) (aI (aI @g1 @g2) (aI @h1 @hwr))); refine q01 (k:=?_); clear hF)
   exact Fin.tmp' rfl rfl
  ·rw [q3x]; simp only [Ent.dot]; omega
  ·rw [q3x]; simp only [Ent.dot]; omega
def qcr : Option (List Ent) → List Ent | none => [] | some l => l
def errO : Option (List Ent) → Int | none => 10 | some _ => 0
def q19 (p : Pst) (e : Ent) : Bool := !q2q p e.dot
def okM (A : List Ent) (ap : Pst) (B : List Ent) (bp : Pst) : Prop := q70 A = true ∧ q1j ap = true ∧ q70 B = true ∧ q1j bp = true
theorem q5k {r : Option (List Ent)} {x out : List Ent} : (r.map (x ++ ·)).map (out ++ ·) = r.map ((out ++ x) ++ ·) := by cases r <;> simp
theorem z6z {r : Option (List Ent)} {a : Ent} {out : List Ent} : (r.map (a :: ·)).map (out ++ ·) = r.map ((out ++ [a]) ++ ·) := by cases r <;> simp
theorem q3b {l : List Ent} {i : Nat} {a : Ent} (h : l[i]? = some a) : l.drop i = a :: l.drop (i + 1) := by
 have hlt : i < l.length := by
  rcases Nat.lt_or_ge i l.length with h' | h'
  ·exact h'
  ·rw [List.getElem?_eq_none h'] at h; cases h
 rw [List.drop_eq_getElem_cons hlt]
 simp only [List.getElem?_eq_getElem hlt, Option.some.injEq] at h
 rw [h]
structure MgS where
 i : Nat
 j : Nat
 out : List Ent
theorem ev_k65 (A B : List Ent) (ap bp : Pst) (hA : A.length ≤ 100000000) (hB : B.length ≤ 100000000) (wa : wt ap ≤ 40000000) (wb : wt bp ≤ 40000000) (hok : okM A ap B bp) :
 Ev (En Tryz.prog rfl).P 65 [.sl 4 (q0b A), q0f ap, .sl 4 (q0b B), q0f bp] (.ret (.tup [.sl 4 (q0b (qcr (q62 (q19 bp) (q19 ap) (A.length + B.length) A B))), .int .i64 (errO (q62 (q19 bp) (q19 ap) (A.length + B.length) A B))])) := by
 obtain ⟨o1, o2, o3, o4⟩ := hok
 refine Ev.of_body it_k65 (by simp) (Run.start ?_)
 unfold t_k65 q0f
 have e1 := q0n A
 have e2 := q0n B
 have hS := qpa
 have c1 := qod A (by omega)
 have c2 := qoc ap wa
 have c3 := qod B (by omega)
 have c4 := qoc bp wb
 rw [if_pos o1] at c1
 rw [o2] at c2
 rw [if_pos o3] at c3
 rw [o4] at c4
 have hR0 : (q62 (q19 bp) (q19 ap) (A.length + B.length) (A.drop 0) (B.drop 0)).map ([] ++ ·) = q62 (q19 bp) (q19 ap) (A.length + B.length) A B := by
  simp
 generalize q62 (q19 bp) (q19 ap) (A.length + B.length) A B = R at hR0 ⊢
 (have hF := (aI @e1 @e2); refine q01 (k:=?_); clear hF)
 refine q00 [.sl 4 (q0b A)] (he := c1) (k:=?_)
 (have hF := (aI @e1 @e2); refine q01 (k:=?_); clear hF)
 refine q00 [q0f ap] (he := c2) (k:=?_)
 (have hF := (aI @e1 @e2); refine q01 (k:=?_); clear hF)
 refine q00 [.sl 4 (q0b B)] (he := c3) (k:=?_)
 (have hF := (aI @e1 @e2); refine q01 (k:=?_); clear hF)
 refine q00 [q0f bp] (he := c4) (k:=?_)
 (have hF := (aI @e1 @e2); refine q01 (k:=?_); clear hF)
 refine Run.wk (Wk.own_nil 10 84 4 rfl rfl) ?_
 refine Run.while (σ := MgS) (fun z => ⟨tms [(0, .sl 4 (q0b A)), (2, .sl 4 (q0b B)), (5, .ptr 5 0), (7, .ptr 7 0), (10, .os 84 z.out.length), (11, .int .i64 (z.i : Int)), (12, .int .i64 (z.j : Int))], mms [(5, .cells [.sl 1 (q05 ap.vec), .sl 3 (q0d ap.cloud)]), (7, .cells [.sl 1 (q05 bp.vec), .sl 3 (q0d bp.cloud)]), (84, .arr z.out.length 4 (q0b z.out))]⟩)
  (fun z => z.i ≤ A.length ∧ z.j ≤ B.length ∧ z.out.length ≤ z.i + z.j ∧ ∃ n, (A.length - z.i) + (B.length - z.j) ≤ n ∧ (q62 (q19 bp) (q19 ap) n (A.drop z.i) (B.drop z.j)).map (z.out ++ ·) = R) (fun z => (A.length - z.i) + (B.length - z.j)) ⟨0, 0, []⟩ (have hW := @q07; q0g) ⟨Nat.zero_le _, Nat.zero_le _, Nat.le_refl _, _, Nat.le_refl _, hR0⟩ ?_
 rintro ⟨i, j, out⟩ ⟨hi, hj, ho, n, hn, hf⟩
 dsimp only at *
 unfold qrj
 have e3 := q0n out
 by_cases hia : i < A.length
 ·obtain ⟨a, haa⟩ : ∃ a, A[i]? = some a := ⟨A[i], by simp [hia]⟩
  have g1 := q0w haa
  have oa := (qdg.1 o1).1 i a haa
  have k1 := z7s bp a.dot (by omega)
  have hka : q19 bp a = !q2q bp a.dot := rfl
  obtain ⟨n, rfl⟩ : ∃ m, n = m + 1 := ⟨n - 1, by omega⟩
  by_cases hjb : j < B.length
  ·obtain ⟨b, hbb⟩ : ∃ b, B[j]? = some b := ⟨B[j], by simp [hjb]⟩
   have g2 := q0w hbb
   have ob := (qdg.1 o3).1 j b hbb
   have k2 := z7s ap b.dot (by omega)
   have hkb : q19 ap b = !q2q ap b.dot := rfl
   obtain ⟨c, c5, p1, p2⟩ := zk8 A B i j a b haa hbb oa ob
   rw [q3b haa, q3b hbb] at hf
   unfold q62 at hf
   rw [← q3b haa, ← q3b hbb] at hf
   (have hF := (aI @e1 @e2); refine q01 (k:=?_); clear hF)
   refine q00 [.sl 4 (q0b A), .int .i64 i, .sl 4 (q0b B), .int .i64 j] (he := c5) (k:=?_)
   by_cases hc1 : c < 0
   ·rw [if_pos (p1.1 hc1), q5k, hka] at hf
    (have hF := (aI (aI @e1 (aI @e2 @e3)) (aI @g1 (aI @g2 @hc1))); refine q01 (k:=?_); clear hF)
    refine q00 [q0f bp, q3v a.dot] (he := k1) (k:=?_)
    cases hh : q2q bp a.dot <;> rw [hh] at hf
    ·(have hF := (aI (aI @e1 @e2) (aI @e3 (aI @g1 @g2))); refine q01 (k:=?_); clear hF)
     (refine Fin.nextW (⟨i + 1, j, out ++ [a]⟩) ?_ (have hW := (aI @q07 @q12); q0g); (try dsimp only))
     exact ⟨⟨hia, hj, by simp; omega, n, by omega, hf⟩, by omega⟩
    ·(have hF := (aI (aI @e1 @e2) (aI @e3 (aI @g1 @g2))); refine q01 (k:=?_); clear hF)
     (refine Fin.nextW (⟨i + 1, j, out⟩) ?_ (have hW := (aI @q07 @q12); q0g); (try dsimp only))
     exact ⟨⟨hia, hj, by omega, n, by omega, by simpa [qey] using hf⟩, by omega⟩
   ·rw [if_neg (fun h => hc1 (p1.2 h))] at hf
    by_cases hc2 : 0 < c
    ·rw [if_pos (p2.1 hc2), q5k, hkb] at hf
     (have hF := (aI (aI @e1 (aI @e2 @e3)) (aI (aI @g1 @g2) (aI @hc1 @hc2))); refine q01 (k:=?_); clear hF)
     refine q00 [q0f ap, q3v b.dot] (he := k2) (k:=?_)
     cases hh : q2q ap b.dot <;> rw [hh] at hf
     ·(have hF := (aI (aI @e1 @e2) (aI @e3 (aI @g1 @g2))); refine q01 (k:=?_); clear hF)
      (refine Fin.nextW (⟨i, j + 1, out ++ [b]⟩) ?_ (have hW := (aI @q07 @q12); q0g); (try dsimp only))
      exact ⟨⟨hi, hjb, by simp; omega, n, by omega, hf⟩, by omega⟩
     ·(have hF := (aI (aI @e1 @e2) (aI @e3 (aI @g1 @g2))); refine q01 (k:=?_); clear hF)
      (refine Fin.nextW (⟨i, j + 1, out⟩) ?_ (have hW := (aI @q07 @q12); q0g); (try dsimp only))
      exact ⟨⟨hi, hjb, by omega, n, by omega, by simpa [qey] using hf⟩, by omega⟩
    ·rw [if_neg (fun h => hc2 (p2.2 h))] at hf
     by_cases he : a = b
     ·subst he
      rw [if_pos ((qag a a).2 rfl), z6z] at hf
      (have hF := (aI (aI @e1 (aI @e2 @e3)) (aI (aI @g1 @g2) (aI @hc1 @hc2))); refine q01 (k:=?_); clear hF)
      (refine Fin.nextW (⟨i + 1, j + 1, out ++ [a]⟩) ?_ (have hW := (aI @q07 @q12); q0g); (try dsimp only))
      refine ⟨⟨hia, hjb, by simp; omega, n, by omega, hf⟩, by omega⟩
     ·have he' : eqE a b = false := by
       cases h : eqE a b with
       | true => exact absurd ((qag a b).1 h) he
       | false => rfl
      rw [if_neg (by rw [he']; decide)] at hf
      have hRn : R = none := hf.symm
      rw [hRn]
      have hdd : a.dot = b.dot := qql _ _ (by
       cases h : q34 a.dot b.dot with
       | true => exact absurd (p1.2 h) hc1
       | false => rfl) (by
       cases h : q34 b.dot a.dot with
       | true => exact absurd (p2.2 h) hc2
       | false => rfl)
      have r1 : a.rep = b.rep := congrArg Prod.fst hdd
      have r2 : a.num = b.num := congrArg Prod.snd hdd
      by_cases r3 : a.sku = b.sku
      ·have r4 : ¬ a.qty = b.qty := fun h => he (by cases a; cases b; simp at r1 r2 r3 h ⊢; exact ⟨r1, r2, r3, h⟩)
       (have hF := (aI (aI (aI @e1 @e2) (aI @e3 (aI @g1 @g2))) (aI (aI @hc1 (aI @hc2 @r1)) (aI @r2 (aI @r3 @r4)))); refine q01 (k:=?_); clear hF)
       exact Fin.two (x := .nil) (x' := .int .i64 10) rfl rfl rfl rfl (.inr ⟨rfl, 4, rfl⟩) (.inl rfl)
      ·(have hF := (aI (aI (aI @e1 @e2) (aI @e3 (aI @g1 @g2))) (aI (aI @hc1 @hc2) (aI @r1 (aI @r2 @r3)))); refine q01 (k:=?_); clear hF)
       exact Fin.two (x := .nil) (x' := .int .i64 10) rfl rfl rfl rfl (.inr ⟨rfl, 4, rfl⟩) (.inl rfl)
  ·have hj' : j = B.length := by omega
   subst hj'
   rw [q3b haa, List.drop_length] at hf
   unfold q62 at hf
   rw [q5k, hka] at hf
   have c5 := z8t A B i hia
   (have hF := (aI @e1 @e2); refine q01 (k:=?_); clear hF)
   refine q00 [.sl 4 (q0b A), .int .i64 i, .sl 4 (q0b B), .int .i64 B.length] (he := c5) (k:=?_)
   (have hF := (aI (aI @e1 @e2) (aI @e3 @g1)); refine q01 (k:=?_); clear hF)
   refine q00 [q0f bp, q3v a.dot] (he := k1) (k:=?_)
   cases hh : q2q bp a.dot <;> rw [hh] at hf
   ·(have hF := (aI (aI @e1 @e2) (aI @e3 @g1)); refine q01 (k:=?_); clear hF)
    (refine Fin.nextW (⟨i + 1, B.length, out ++ [a]⟩) ?_ (have hW := (aI @q07 @q12); q0g); (try dsimp only))
    exact ⟨⟨hia, Nat.le_refl _, by simp; omega, n, by omega, by rw [List.drop_length]; exact hf⟩, by omega⟩
   ·(have hF := (aI (aI @e1 @e2) (aI @e3 @g1)); refine q01 (k:=?_); clear hF)
    (refine Fin.nextW (⟨i + 1, B.length, out⟩) ?_ (have hW := (aI @q07 @q12); q0g); (try dsimp only))
    exact ⟨⟨hia, Nat.le_refl _, by omega, n, by omega, by rw [List.drop_length]; simpa [qey] using hf⟩, by omega⟩
 ·have hi' : i = A.length := by omega
  subst hi'
  by_cases hjb : j < B.length
  ·obtain ⟨b, hbb⟩ : ∃ b, B[j]? = some b := ⟨B[j], by simp [hjb]⟩
   have g2 := q0w hbb
   have k2 := z7s ap b.dot (by omega)
   have hkb : q19 ap b = !q2q ap b.dot := rfl
   obtain ⟨n, rfl⟩ : ∃ m, n = m + 1 := ⟨n - 1, by omega⟩
   rw [q3b hbb, List.drop_length] at hf
   unfold q62 at hf
   rw [q5k, hkb] at hf
   have c5 := z8u A B j
   (have hF := (aI @e1 @e2); refine q01 (k:=?_); clear hF)
   refine q00 [.sl 4 (q0b A), .int .i64 A.length, .sl 4 (q0b B), .int .i64 j] (he := c5) (k:=?_)
   (have hF := (aI (aI @e1 @e2) (aI @e3 @g2)); refine q01 (k:=?_); clear hF)
   refine q00 [q0f ap, q3v b.dot] (he := k2) (k:=?_)
   cases hh : q2q ap b.dot <;> rw [hh] at hf
   ·(have hF := (aI (aI @e1 @e2) (aI @e3 @g2)); refine q01 (k:=?_); clear hF)
    (refine Fin.nextW (⟨A.length, j + 1, out ++ [b]⟩) ?_ (have hW := (aI @q07 @q12); q0g); (try dsimp only))
    exact ⟨⟨Nat.le_refl _, hjb, by simp; omega, n, by omega, by rw [List.drop_length]; exact hf⟩, by omega⟩
   ·(have hF := (aI (aI @e1 @e2) (aI @e3 @g2)); refine q01 (k:=?_); clear hF)
    (refine Fin.nextW (⟨A.length, j + 1, out⟩) ?_ (have hW := (aI @q07 @q12); q0g); (try dsimp only))
    exact ⟨⟨Nat.le_refl _, hjb, by omega, n, by omega, by rw [List.drop_length]; simpa [qey] using hf⟩, by omega⟩
  ·have hRs : R = some out := by
    rw [List.drop_length, List.drop_eq_nil_of_le (by omega)] at hf
    rw [← hf]
    cases n <;> simp [q62]
   rw [hRs]
   (have hF := (aI @e1 (aI @e2 @e3)); refine q01 (k:=?_); clear hF)
   exact Fin.two (x := .sl 4 (q0b out)) (by simp [fz, fzc, q4i, upd, tms, mms]) (q07 _) rfl rfl (.inl rfl) (.inl rfl)

open Classical in
noncomputable def leftF (A B : List Ent) (bp : Pst) : List Ent := A.filter fun e => decide (q4h B e.dot) || q19 bp e

open Classical in
noncomputable def mrgP (A : List Ent) (ap : Pst) (B : List Ent) (bp : Pst) : List Ent × Int :=
 if okM A ap B bp then (qcr (q62 (q19 bp) (q19 ap) (A.length + B.length) A B), errO (q62 (q19 bp) (q19 ap) (A.length + B.length) A B)) else ([], 1)

structure Swt where
 live : List Ent
 past : Pst
 defer : List Rec
structure Fct where
 adds : List Ent
 gone : Pst
 recs : List Rec
theorem qq5 (p : Pst) (r : Nat) (n : Int) : inP p r n ↔ q2q p ((r : Int), n) = true := by
 rw [q1u]
 simp
theorem zle {p q : Pst} (hp : CanP p) (hq : CanP q) (h : ∀ d, q2q p d = true ↔ q2q q d = true) : p = q :=
 hp.ext hq fun r _ n => by rw [qq5, qq5, h]
theorem q3h {p q : Pst} : q14 p q = true ↔ ∀ d, q2q p d = true → q2q q d = true := by
 constructor
 ·exact fun h d hd => z9i h hd
 ·intro h
  refine q6h.2 fun r _ n hn => ?_
  rw [qq5] at hn ⊢
  exact h _ hn
def q3w (l : List Ent) : Pst := ofP (l.map Ent.dot)
theorem canP_of2 (ds : List Rn) : CanP (ofP ds) := qqs _ (zkj ds).1
theorem z9x {e : Ent} (h : q21 e = 0) : 0 ≤ e.rep ∧ e.rep < 16 ∧ 1 ≤ e.num ∧ e.num ≤ 1000000000 := by
 unfold q21 at h
 split at h
 ·omega
 ·split at h
  ·omega
  ·omega
theorem q2n {l : List Ent} (h : ∀ e ∈ l, q21 e = 0) (d : Rn) : q2q (q3w l) d = true ↔ q4h l d := by
 rw [q1u]
 unfold q3w q4h
 constructor
 ·rintro ⟨h0, hd⟩
  have := ((zkk _ (q8e hd) _).1 hd).2.2
  obtain ⟨e, he, hed⟩ := List.mem_map.1 this
  refine ⟨e, he, ?_⟩
  rw [hed]
  have : ((d.1.toNat : Nat) : Int) = d.1 := Int.toNat_of_nonneg h0
  rw [this]
 ·rintro ⟨e, he, rfl⟩
  obtain ⟨h1, h2, h3, h4⟩ := z9x (h e he)
  refine ⟨h1, (zkk _ (show e.dot.1.toNat < 16 by show e.rep.toNat < 16; omega) _).2 ⟨h3, h4, ?_⟩⟩
  have : ((e.dot.1.toNat : Nat) : Int) = e.dot.1 := Int.toNat_of_nonneg h1
  rw [this]
  exact List.mem_map.2 ⟨e, he, rfl⟩
theorem q1m {l : List Ent} (h : q71 l) : ∀ e ∈ l, q21 e = 0 := fun e he => by
 obtain ⟨i, hi⟩ := List.mem_iff_getElem?.1 he
 exact h.1 i e hi
structure FormS (s : Swt) : Prop where
 live : q71 s.live
 past : CanP s.past
 defer : q3g s.defer
 dots : q14 (q3w s.live) s.past = true
 waits : ∀ r ∈ s.defer, q14 r.past s.past = false
 bars : ∀ e ∈ s.live, ¬ qbm s.defer e
def qdb (s : Swt) : Pst := q30 s.past (q3w s.live)
def qef (A B : List Ent) : Option (List Ent) := q62 (fun _ => true) (fun _ => true) (A.length + B.length) A B
theorem qdk {A B : List Ent} (hA : q71 A) (hB : q71 B) : match qef A B with | none => Clash A B | some L => ¬ Clash A B ∧ znf L ∧ ∀ e, e ∈ L ↔ e ∈ A ∨ e ∈ B := by
 have h := q50 (fun _ => true) (fun _ => true) _ A B (Nat.le_refl _) (qc0 hA.2) (qc0 hB.2)
 unfold qef
 generalize q62 (fun _ => true) (fun _ => true) (A.length + B.length) A B = r at h ⊢
 cases r with
 | none => exact h
 | some L =>
  refine ⟨h.1, h.2.1, fun e => ?_⟩
  rw [h.2.2 e]
  unfold InM
  simp
theorem z9g {a b : Swt} (ha : FormS a) (hb : FormS b) {L : List Ent} (hL : ∀ e, e ∈ L ↔ e ∈ a.live ∨ e ∈ b.live) : q1s [q3w L, q1s [qdb a, qdb b]] = q1s [a.past, b.past] := by
 have he : ∀ e ∈ L, q21 e = 0 := fun e he => ((hL e).1 he).elim (q1m ha.live e) (q1m hb.live e)
 refine zle (q58 _) (q58 _) fun d => ?_
 rw [q7s, q7s, q7s, Bool.or_eq_true, Bool.or_eq_true, Bool.or_eq_true, q2n he]
 unfold qdb
 rw [q7c, q7c, Bool.and_eq_true, Bool.and_eq_true, Bool.not_eq_true', Bool.not_eq_true', ← Bool.not_eq_true, ← Bool.not_eq_true, q2n (q1m ha.live), q2n (q1m hb.live)]
 have da : q4h a.live d → q2q a.past d = true := fun h => q3h.1 ha.dots d ((q2n (q1m ha.live) d).2 h)
 have db : q4h b.live d → q2q b.past d = true := fun h => q3h.1 hb.dots d ((q2n (q1m hb.live) d).2 h)
 have dL : q4h L d ↔ q4h a.live d ∨ q4h b.live d := by
  unfold q4h
  constructor
  ·rintro ⟨e, h1, h2⟩
   exact ((hL e).1 h1).imp (fun h => ⟨e, h, h2⟩) (fun h => ⟨e, h, h2⟩)
  ·rintro (⟨e, h1, h2⟩ | ⟨e, h1, h2⟩)
   ·exact ⟨e, (hL e).2 (.inl h1), h2⟩
   ·exact ⟨e, (hL e).2 (.inr h1), h2⟩
 rw [dL]
 constructor
 ·rintro ((h | h) | (h | h))
  ·exact .inl (da h)
  ·exact .inr (db h)
  ·exact .inl h.1
  ·exact .inr h.1
 ·rintro (h | h)
  ·by_cases hd : q4h a.live d
   ·exact .inl (.inl hd)
   ·exact .inr (.inl ⟨h, hd⟩)
  ·by_cases hd : q4h b.live d
   ·exact .inl (.inr hd)
   ·exact .inr (.inr ⟨h, hd⟩)
def q4k (a b : Swt) : List Rec := q8b (a.defer ++ b.defer)
def q2l (a b : Swt) : Option (List Ent) := q62 (q19 b.past) (q19 a.past) (a.live.length + b.live.length) a.live b.live
noncomputable def qd6 (a b : Swt) : Swt := ⟨q36 (q4k a b) (qcr (q2l a b)), q1s [a.past, b.past], q18 (q4k a b) (q1s [a.past, b.past])⟩
def qa4 (adds : List Ent) (gone : Pst) (recs : List Rec) : List Ent := adds.filter fun e => !q2q gone e.dot && decide (q5g recs e = 0)
theorem q6m {a b : Swt} (ha : FormS a) (hb : FormS b) : MSpec (q19 b.past) (q19 a.past) a.live b.live (q2l a b) :=
 q50 _ _ _ a.live b.live (Nat.le_refl _) (qc0 ha.live.2) (qc0 hb.live.2)
theorem q80 {a b : Swt} (ha : FormS a) (hb : FormS b) : (q2l a b = none ↔ Clash a.live b.live) ∧ (qef a.live b.live = none ↔ Clash a.live b.live) := by
 have h1 := q6m ha hb
 have h2 := qdk ha.live hb.live
 constructor
 ·cases hm : q2l a b with
  | none => rw [hm] at h1; exact ⟨fun _ => h1, fun _ => rfl⟩
  | some L => rw [hm] at h1; exact ⟨fun h => (by cases h), fun h => absurd h h1.1⟩
 ·cases hm : qef a.live b.live with
  | none => rw [hm] at h2; exact ⟨fun _ => h2, fun _ => rfl⟩
  | some L => rw [hm] at h2; exact ⟨fun h => (by cases h), fun h => absurd h h2.1⟩
theorem zku {a b : Swt} (ha : FormS a) (hb : FormS b) {L M : List Ent} (hL : qef a.live b.live = some L) (hM : q2l a b = some M) (recs : List Rec) : qa4 L (q1s [qdb a, qdb b]) recs = q36 recs M := by
 have h1 := q6m ha hb
 have h2 := qdk ha.live hb.live
 rw [hM] at h1
 rw [hL] at h2
 refine qrz (h2.2.1.filter _) (h1.2.1.filter _) fun e => ?_
 unfold qa4 q36
 rw [List.mem_filter, List.mem_filter, h1.2.2 e, h2.2.2 e, Bool.and_eq_true, Bool.not_eq_true', ← Bool.not_eq_true, q7s, Bool.or_eq_true]
 unfold qdb InM q19
 rw [q7c, q7c, Bool.and_eq_true, Bool.and_eq_true, Bool.not_eq_true', Bool.not_eq_true', ← Bool.not_eq_true, ← Bool.not_eq_true, q2n (q1m ha.live), q2n (q1m hb.live), Bool.not_eq_true', ← Bool.not_eq_true, Bool.not_eq_true', ← Bool.not_eq_true]
 have da : e ∈ a.live → q4h a.live e.dot := fun h => ⟨e, h, rfl⟩
 have db : e ∈ b.live → q4h b.live e.dot := fun h => ⟨e, h, rfl⟩
 have pa : q4h a.live e.dot → q2q a.past e.dot = true := fun h => q3h.1 ha.dots _ ((q2n (q1m ha.live) _).2 h)
 have pb : q4h b.live e.dot → q2q b.past e.dot = true := fun h => q3h.1 hb.dots _ ((q2n (q1m hb.live) _).2 h)
 generalize (decide (q5g recs e = 0) = true) = X
 by_cases h1 : e ∈ a.live <;> by_cases h2 : e ∈ b.live <;> by_cases h3 : q4h a.live e.dot <;> by_cases h4 : q4h b.live e.dot <;> by_cases h5 : q2q a.past e.dot = true <;> by_cases h6 : q2q b.past e.dot = true <;> simp_all
structure FormF (f : Fct) : Prop where
 adds : q71 f.adds
 gone : CanP f.gone
 recs : q3g f.recs
open Classical in
noncomputable def evErr (f : Fct) : Int := if ¬ FormF f then 1 else match f.adds, f.recs with
 | [e], [] => if lastP f.gone e.rep < e.num then 0 else 2
 | [], [] => 0
 | [], [_] => if q3e f.gone = 0 then 0 else 2
 | _, _ => 2
def evS (f : Fct) : Swt := ⟨f.adds, q1s [q3w f.adds, f.gone], f.recs⟩

open Classical in
noncomputable def qdd (s : Swt) : Bool := decide (FormS s)
theorem qa9 {s : Swt} (h : FormS s) : qdd s = true := by classical exact decide_eq_true h
theorem qdc {s : Swt} (h : ¬ FormS s) : qdd s = false := by classical exact decide_eq_false h
theorem q3t {s : Swt} : qdd s = true ↔ FormS s := by classical exact decide_eq_true_iff
theorem qad {α : Type} (p : α → Bool) : ∀ l : List α, (l.filter p).length = l.length ↔ ∀ x ∈ l, p x = true
 | [] => by simp
 | x :: l => by
  have ih := qad p l
  have hle := List.length_filter_le p l
  by_cases h : p x = true
  ·rw [List.filter_cons_of_pos h, List.length_cons, List.length_cons, Nat.add_right_cancel_iff, ih]
   simp [h]
  ·rw [List.filter_cons_of_neg h, List.length_cons]
   constructor
   ·intro h'; omega
   ·intro h'; exact absurd (h' x (by simp)) h
theorem qhp {l : List Rec} {p : Pst} : (q18 l p).length = l.length ↔ ∀ r ∈ l, q14 r.past p = false := by
 unfold q18
 rw [qad]
 simp
theorem z7c {l : List Rec} {es : List Ent} : (q36 l es).length = es.length ↔ ∀ e ∈ es, ¬ qbm l e := by
 unfold q36
 rw [qad]
 simp only [decide_eq_true_eq, q84]
theorem qau {s : Swt} : FormS s ↔ q70 s.live = true ∧ q1j s.past = true ∧ q3f s.defer = true ∧ q14 (q3w s.live) s.past = true ∧ (q18 s.defer s.past).length = s.defer.length ∧ (q36 s.defer s.live).length = s.live.length := by
 rw [qdg, q42, q7d, qhp, z7c]
 exact ⟨fun h => ⟨h.live, h.past, h.defer, h.dots, h.waits, h.bars⟩, fun h => ⟨h.1, h.2.1, h.2.2.1, h.2.2.2.1, h.2.2.2.2.1, h.2.2.2.2.2⟩⟩
theorem z7m {l : List Ent} (hs : znf l) (h : ∀ e ∈ l, q21 e = 0) : q71 l := by
 refine ⟨fun i e he => h e (List.mem_of_getElem? he), fun i a b ha hb => ?_⟩
 unfold znf at hs
 rw [List.getElem?_eq_some_iff] at ha hb
 obtain ⟨h1, rfl⟩ := ha
 obtain ⟨h2, rfl⟩ := hb
 exact List.pairwise_iff_getElem.1 hs i (i + 1) h1 h2 (by omega)
theorem zl7 {ka kb : Ent → Bool} {A B : List Ent} {e : Ent} (h : InM ka kb A B e) : e ∈ A ∨ e ∈ B := by
 rcases h with h | h
 ·exact .inl h.1
 ·exact .inr h.1
theorem qf1 {a b : Swt} (ha : FormS a) (hb : FormS b) {M : List Ent} (hM : q2l a b = some M) : q71 M := by
 have h1 := q6m ha hb
 rw [hM] at h1
 exact z7m h1.2.1 fun e he => (zl7 ((h1.2.2 e).1 he)).elim (q1m ha.live e) (q1m hb.live e)
theorem qf5 {a b : Swt} (ha : FormS a) (hb : FormS b) : q3g (q4k a b) := qq7 ha.defer hb.defer
theorem qf4 {a b : Swt} (ha : FormS a) (hb : FormS b) {M : List Ent} (hM : q2l a b = some M) : FormS (qd6 a b) := by
 have h1 := q6m ha hb
 rw [hM] at h1
 have hMf := qf1 ha hb hM
 have hl : (qd6 a b).live = q36 (q4k a b) M := by unfold qd6; rw [hM]; rfl
 have he : ∀ e ∈ q36 (q4k a b) M, e ∈ M ∧ ¬ qbm (q4k a b) e := fun e he => by
  unfold q36 at he
  rw [List.mem_filter, decide_eq_true_eq, q84] at he
  exact he
 refine ⟨?_, q58 _, qo4 _ (qf5 ha hb), ?_, fun r hr => ?_, fun e hem => ?_⟩
 ·rw [hl]
  exact z7m (h1.2.1.filter _) fun e hem => q1m hMf e (he e hem).1
 ·rw [hl]
  refine q3h.2 fun d hd => ?_
  rw [q2n fun e hem => q1m hMf e (he e hem).1] at hd
  obtain ⟨e, hem, rfl⟩ := hd
  show q2q (q1s [a.past, b.past]) e.dot = true
  rw [q7s, Bool.or_eq_true]
  exact (zl7 ((h1.2.2 e).1 (he e hem).1)).imp (fun h => q3h.1 ha.dots _ ((q2n (q1m ha.live) _).2 ⟨e, h, rfl⟩)) (fun h => q3h.1 hb.dots _ ((q2n (q1m hb.live) _).2 ⟨e, h, rfl⟩))
 ·have : r ∈ q18 (q4k a b) (q1s [a.past, b.past]) := hr
  unfold q18 at this
  rw [List.mem_filter] at this
  show q14 r.past (q1s [a.past, b.past]) = false
  simpa using this.2
 ·rw [hl] at hem
  intro hc
  obtain ⟨r, hr, hcv⟩ := hc
  have : r ∈ q18 (q4k a b) (q1s [a.past, b.past]) := hr
  unfold q18 at this
  rw [List.mem_filter] at this
  exact (he e hem).2 ⟨r, this.1, hcv⟩
open Classical in
noncomputable def fate (s : Swt) (d : Rn) : Int := if q2q s.past d = true then (if q4h s.live d then 1 else 2) else 0
open Classical in
noncomputable def q6u (a b : Swt) : Int := if FormS a ∧ FormS b then (if Clash a.live b.live then 10 else 0) else 1
def noS : Swt := ⟨[], ⟨[], []⟩, []⟩
open Classical in
noncomputable def q37 (a b : Swt) : Swt := if q6u a b = 0 then qd6 a b else noS
theorem zmc {a b : Swt} : q6u a b = 0 ↔ FormS a ∧ FormS b ∧ ∃ M, q2l a b = some M := by
 unfold q6u
 constructor
 ·intro h
  split at h
  ·rename_i hf
   split at h
   ·omega
   ·rename_i hc
    refine ⟨hf.1, hf.2, ?_⟩
    cases hm : q2l a b with
    | none => exact absurd ((q80 hf.1 hf.2).1.1 hm) hc
    | some M => exact ⟨M, rfl⟩
  ·omega
 ·rintro ⟨h1, h2, M, hM⟩
  rw [if_pos ⟨h1, h2⟩, if_neg]
  intro hc
  rw [(q80 h1 h2).1.2 hc] at hM
  cases hM
theorem qpk {a b : Swt} (h1 : a.live = b.live) (h2 : a.past = b.past) (h3 : a.defer = b.defer) : a = b := by
 cases a; cases b
 simp only at h1 h2 h3
 rw [h1, h2, h3]
theorem z9d {a b : Swt} {M : List Ent} (hM : q2l a b = some M) : (qd6 a b).live = q36 (q4k a b) M := by unfold qd6; rw [hM]; rfl


def q9i (f : Fct) : Pst := q1s [q3w f.adds, f.gone]
noncomputable def stF (f : Fct) : Swt := ⟨qa4 f.adds f.gone f.recs, q9i f, q18 f.recs (q9i f)⟩
def unionF (f g : Fct) (L : List Ent) : Fct := ⟨L, q1s [f.gone, g.gone], q8b (f.recs ++ g.recs)⟩

def Wkn (x y : AVal) : Prop := ∀ (D : Nat → Nat → Prop) (G : Gh) (B : Nat → Prop) (w : World) (v : Value), VR D G B w x v → VR D G B w y v
theorem Wkn.refl (x : AVal) : Wkn x x := fun _ _ _ _ _ h => h
theorem Wkn.nil (sz : Nat) : Wkn .nil (.sl sz []) := fun D G B w v h => by
 cases h
 exact .slnil sz
def Wkns : List AVal → List AVal → Prop
 | [], [] => True
 | a :: l, b :: m => Wkn a b ∧ Wkns l m
 | _, _ => False
theorem Wkns.len : ∀ {l m : List AVal}, Wkns l m → l.length = m.length
 | [], [], _ => rfl
 | a :: l, b :: m, h => by rw [List.length_cons, List.length_cons, Wkns.len h.2]
 | [], _ :: _, h => h.elim
 | _ :: _, [], h => h.elim
theorem Wkns.get : ∀ {l m : List AVal}, Wkns l m → ∀ (i : Nat) (y : AVal), m[i]? = some y → ∃ x, l[i]? = some x ∧ Wkn x y
 | [], [], _, i, y, h => by simp at h
 | a :: l, b :: m, hw, 0, y, h => by
  simp only [List.getElem?_cons_zero, Option.some.injEq] at h
  subst h
  exact ⟨a, rfl, hw.1⟩
 | a :: l, b :: m, hw, i + 1, y, h => by
  obtain ⟨x, hx, hxy⟩ := Wkns.get hw.2 i y (by simpa using h)
  exact ⟨x, by simpa using hx, hxy⟩
 | [], _ :: _, h, _, _, _ => h.elim
 | _ :: _, [], h, _, _, _ => h.elim
theorem Wkns.refl : ∀ l : List AVal, Wkns l l
 | [] => trivial
 | a :: l => ⟨Wkn.refl a, Wkns.refl l⟩
theorem Wkn.agg {l m : List AVal} (h : Wkns l m) : Wkn (.agg l) (.agg m) := fun D G B w v hv => by
 cases hv with
 | agg cs vs hl hh =>
  refine .agg m vs (by rw [hl, h.len]) fun n x u hx hu => ?_
  obtain ⟨y, hy, hyx⟩ := h.get n x hx
  exact hyx D G B w u (hh n y u hy hu)
theorem Ev.wks {P : Program} {f : FuncId} {l m : List AVal} {out : Out} (he : Ev P f m out) (h : Wkns l m) : Ev P f l out :=
 ⟨he.1, fun B w vs G ho hs hv hb => he.2 B w vs G ho (by rw [hs, h.len]) (fun i y v hy hvv => by
  obtain ⟨x, hx, hxy⟩ := h.get i y hy
  exact hxy _ G B w v (hv i x v hx hvv)) hb⟩

theorem Wkn.sl {sz : Nat} {xs ys : List AVal} (hl : xs.length = ys.length) (hf : Wkns (flat xs) (flat ys)) (h1 : ∀ x ∈ flat ys, x.one = true) (h2 : ∀ x ∈ ys, x.cells.length = sz) : Wkn (.sl sz xs) (.sl sz ys) := fun D G B w v h => by
 cases h with
 | slnil =>
  have : ys = [] := List.length_eq_zero_iff.1 hl.symm
  subst this
  exact .slnil sz
 | slemp _ a cap =>
  have : ys = [] := List.length_eq_zero_iff.1 hl.symm
  subst this
  exact .slemp sz a cap
 | sl _ _ b off cap f hcap hB hone hsz hc hv =>
  have hne : flat ys ≠ [] → flat xs ≠ [] := fun h h' => h (List.length_eq_zero_iff.1 (by rw [← hf.len, h']; rfl))
  have hg := fun n y (hy : (flat ys)[n]? = some y) => hf.get n y hy
  rw [hl]
  refine .sl sz ys b off cap f (by omega) (fun h => hB (hne h)) h1 h2 (fun n y hy => ?_) (fun n y hy => ?_)
  ·obtain ⟨x, hx, _⟩ := hg n y hy
   exact hc n x hx
  ·obtain ⟨x, hx, hxy⟩ := hg n y hy
   exact hxy D G B w _ (hv n x hx)
def sA : ByteArray := ⟨#[65]⟩
def sa : ByteArray := ⟨#[97]⟩
theorem rows0 : (q0l [⟨[], []⟩]).map q0y = [[], [], [], [], [], [], [], [], [], [], [], [], [], [], [], []] := by
 have h : q0l [⟨[], []⟩] = [[], [], [], [], [], [], [], [], [], [], [], [], [], [], [], []] := by decide
 rw [h]
 have n0 : q0y [] = [] := q4e Can.nil
 simp only [List.map_cons, List.map_nil, n0]
theorem kpe_size : q3e ⟨[], []⟩ = 0 := by
 unfold q3e q25
 simp only [qo1, rows0]
 rfl
theorem good_A : q6z sA = true := by decide +kernel

theorem qot : Tryz.prog.cellsOf 9 = 1 := by kernel_rfl
theorem qou : Tryz.prog.cellsOf 91 = 3 := by kernel_rfl
theorem qov : Tryz.prog.cellsOf 62 = 4 := by kernel_rfl
theorem za1 : Tryz.prog.cellsOf 27 = 1 := by kernel_rfl
theorem za3 : Tryz.prog.cellsOf 22 = 1 := by kernel_rfl
theorem op_str : Opens Tryz.prog 9 ByteArray (fun _ => True) (fun s => [.str s]) (fun s => s.size + 1) := Opens.string Tryz.underlying9
def okK (r : Rec) : Prop := okP r.past
def cellsK (r : Rec) : List AVal := [.str r.sku, .sl 1 (q05 r.past.vec), .sl 3 (q0d r.past.cloud)]
theorem op_Rec : Opens Tryz.prog 91 Rec okK cellsK wtK :=
 (Opens.struct Tryz.underlying91 qou (OpensF.cons (k := 1) op_str (fun _ => rfl) qot rfl (OpensF.cons (k := 2) zke (fun _ => rfl) qak rfl (OpensF.nil _)))).map
  (fun x => ⟨x.1, x.2.1⟩) (fun x h => h.2.1) (fun _ => rfl) (fun x => by show wt x.2.1 + 1 ≤ x.1.size + 1 + (wt x.2.1 + 0) + 1; omega)
theorem op_recs : Opens Tryz.prog 27 (List Rec) (fun l => ∀ x ∈ l, okK x) (fun l => [.sl 3 (q09 l)]) (wtL wtK) :=
 Opens.slice (mk := q3p) Tryz.underlying27 op_Rec qou (by decide) (fun _ => rfl) (fun _ => rfl) (fun x y hy => by simp [cellsK] at hy; rcases hy with rfl | rfl | rfl <;> rfl)
def okE (e : Ent) : Prop := True
def cellsE (e : Ent) : List AVal := [.int .i64 e.rep, .int .i64 e.num, .str e.sku, .int .i64 e.qty]
theorem op_Ent : Opens Tryz.prog 62 Ent okE cellsE (fun _ => 1) :=
 (Opens.struct Tryz.underlying62 qov (OpensF.cons (k := 2) op_Dot (fun _ => rfl) qow rfl (OpensF.cons (k := 1) op_str (fun _ => rfl) qot rfl (OpensF.cons (k := 1) qcu (fun _ => rfl) q57 rfl (OpensF.nil _))))).map
  (fun x => ⟨x.1.1, x.1.2, x.2.1, x.2.2.1⟩) (fun x h => trivial) (fun _ => rfl) (fun _ => Nat.le_add_left _ _)
theorem op_ents : Opens Tryz.prog 22 (List Ent) (fun l => ∀ x ∈ l, okE x) (fun l => [.sl 4 (q0b l)]) (wtL fun _ => 1) :=
 Opens.slice (mk := qb1) Tryz.underlying22 op_Ent qov (by decide) (fun _ => rfl) (fun _ => rfl) (fun x y hy => by simp [cellsE] at hy; rcases hy with rfl | rfl | rfl | rfl <;> rfl)
structure CasK where
 r : List Rec
 q : List Rec
 a : List Ent
 b : List Ent
 p : Pst
 o : Pst

theorem qa2 : ∀ (ka kb : Ent → Bool) (n : Nat) (A B : List Ent), (qcr (q62 ka kb n A B)).length ≤ A.length + B.length
 | ka, kb, 0, A, B => by simp [q62, qcr]
 | ka, kb, n + 1, [], [] => by simp [q62, qcr]
 | ka, kb, n + 1, a :: A, [] => by
  have ih := qa2 ka kb n A []
  unfold q62
  cases h : q62 ka kb n A [] with
  | none => simp [qcr]
  | some L => rw [h] at ih; simp only [qcr, Option.map_some, List.length_append, List.length_cons, List.length_nil, qey] at *; split <;> simp at * <;> omega
 | ka, kb, n + 1, [], b :: B => by
  have ih := qa2 ka kb n [] B
  unfold q62
  cases h : q62 ka kb n [] B with
  | none => simp [qcr]
  | some L => rw [h] at ih; simp only [qcr, Option.map_some, List.length_append, List.length_cons, List.length_nil, qey] at *; split <;> simp at * <;> omega
 | ka, kb, n + 1, a :: A, b :: B => by
  unfold q62
  split
  ·have ih := qa2 ka kb n A (b :: B)
   cases h : q62 ka kb n A (b :: B) with
   | none => simp [qcr]
   | some L => rw [h] at ih; simp only [qcr, Option.map_some, List.length_append, List.length_cons, qey] at *; split <;> simp at * <;> omega
  ·split
   ·have ih := qa2 ka kb n (a :: A) B
    cases h : q62 ka kb n (a :: A) B with
    | none => simp [qcr]
    | some L => rw [h] at ih; simp only [qcr, Option.map_some, List.length_append, List.length_cons, qey] at *; split <;> simp at * <;> omega
   ·split
    ·have ih := qa2 ka kb n A B
     cases h : q62 ka kb n A B with
     | none => simp [qcr]
     | some L => rw [h] at ih; simp only [qcr, Option.map_some, List.length_cons] at *; omega
    ·simp [qcr]

theorem zka {l : List Rec} (h : q3g l) : q8b l = l := (qcs (fun r hr => (q4f h r hr).1) (qo3 h) fun x => Iff.rfl).symm
theorem qnu {a b : List Rec} (ha : q3g a) (hb : q3g b) : qa3 a b = q8b (a ++ b) := by
 have h := mrgR_ord (can_app ha hb) (a := a) (b := b) fun x => List.mem_append
 rw [zka ha, zka hb] at h
 exact h
def q7t (s : Swt) : Fct := ⟨s.live, qdb s, s.defer⟩
theorem z8p {a b : Swt} (ha : FormS a) (hb : FormS b) {L M : List Ent} (hL : qef a.live b.live = some L) (hM : q2l a b = some M) : stF (unionF (q7t a) (q7t b) L) = qd6 a b := by
 have h := qdk ha.live hb.live
 rw [hL] at h
 have hh := z9g ha hb h.2.2
 refine qpk ?_ hh ?_
 ·rw [z9d hM]
  exact zku ha hb hL hM _
 ·show q18 (q8b (a.defer ++ b.defer)) (q1s [q3w L, q1s [qdb a, qdb b]]) = q18 (q4k a b) (q1s [a.past, b.past])
  rw [hh]
  rfl
theorem q4n {a b : Swt} (h : q6u a b = 0) : q37 a b = qd6 a b := if_pos h
theorem qd7 {a b : Swt} (h : ¬ q6u a b = 0) : q37 a b = noS := if_neg h
def wtS (s : Swt) : Nat := s.live.length + wt s.past + q5d s.defer
def wtF (f : Fct) : Nat := f.adds.length + wt f.gone + q5d f.recs
theorem qpe (p : Rec → Bool) (l : List Rec) : q5d (l.filter p) ≤ q5d l := qfw ((List.filter_sublist (p := p) (l := l)).map wtK)
theorem qgl (ka kb : Ent → Bool) {A B : List Ent} : ∀ n, (qcr (q62 ka kb n A B)).length ≤ A.length + B.length := fun n => qa2 ka kb n A B
theorem z7d (a b : Swt) : wtS (qd6 a b) ≤ 16 + wtS a + wtS b := by
 unfold wtS qd6
 have h1 : (q36 (q4k a b) (qcr (q2l a b))).length ≤ a.live.length + b.live.length := Nat.le_trans (List.length_filter_le _ _) (qgl _ _ _)
 have h2 := q6o [a.past, b.past]
 have h3 : q5d (q18 (q4k a b) (q1s [a.past, b.past])) ≤ q5d a.defer + q5d b.defer := by
  refine Nat.le_trans (qpe _ _) (Nat.le_trans (qb6 _) ?_)
  rw [qfr]
  exact Nat.le_refl _
 simp only [List.map_cons, List.map_nil, List.sum_cons, List.sum_nil] at h2
 simp only
 omega

def zf9 : List SOp := [⟨some 2,.assign (.const (.slice none 0 0)),none⟩]
instance : Live zf9 := ⟨[0]⟩
def zf8 : List SOp := [⟨some 3,.move (.tmp 0),none⟩,⟨some 4,.binOp .eql 22 (.tmp 3) (.const (.slice none 0 0)) 22,none⟩]
instance : Live zf8 := ⟨[0]⟩
def zf7 : List SOp := [⟨some 2,.assign (.const (.slice none 0 0)),none⟩]
instance : Live zf7 := ⟨[]⟩
def zf6 : List SOp := [⟨some 5,.buildSlice 22 0 #[],none⟩,⟨some 6,.move (.tmp 0),none⟩,⟨some 7,.call ⟨.builtin .append,#[.tmp 5,.tmp 6],#[22,22]⟩,none⟩,⟨some 2,.assign (.tmp 7),none⟩]
instance : Live zf6 := ⟨[0]⟩
def t_k63 : SC :=
 (.seq (.ops false zf9) (.seq (.seq (.ops false zf8) (.cond (.tmp 4) (.seq (.ops false zf7) .ret) .skip)) (.seq (.ops false zf6) .ret)))
theorem it_k63 : FnIs Tryz.prog 63 8 [.tmp 2] t_k63 := ⟨Tryz.f63, _, Tryz.func63, rfl, rfl, rfl, rfl, by kernel_rfl⟩

def zc9 : List SOp := [⟨some 2,.assign (.const (.slice none 0 0)),none⟩]
instance : Live zc9 := ⟨[0]⟩
def zc8 : List SOp := [⟨some 3,.move (.tmp 0),none⟩,⟨some 4,.binOp .eql 27 (.tmp 3) (.const (.slice none 0 0)) 27,none⟩]
instance : Live zc8 := ⟨[0]⟩
def zc7 : List SOp := [⟨some 2,.assign (.const (.slice none 0 0)),none⟩]
instance : Live zc7 := ⟨[]⟩
def zc6 : List SOp := [⟨some 5,.buildSlice 27 0 #[],none⟩,⟨some 6,.move (.tmp 0),none⟩,⟨some 7,.call ⟨.builtin .append,#[.tmp 5,.tmp 6],#[27,27]⟩,none⟩,⟨some 2,.assign (.tmp 7),none⟩]
instance : Live zc6 := ⟨[0]⟩
def t_k95 : SC :=
 (.seq (.ops false zc9) (.seq (.seq (.ops false zc8) (.cond (.tmp 4) (.seq (.ops false zc7) .ret) .skip)) (.seq (.ops false zc6) .ret)))
theorem it_k95 : FnIs Tryz.prog 95 8 [.tmp 2] t_k95 := ⟨Tryz.f95, _, Tryz.func95, rfl, rfl, rfl, rfl, by kernel_rfl⟩

def zhq : List SOp := [⟨some 2,.alloc 26,none⟩,⟨some 3,.assign (.const (.int .i64 0)),none⟩]
instance : Live zhq := ⟨[0]⟩
def zhp : List SOp := [⟨some 7,.move (.tmp 0),none⟩,⟨some 8,.call ⟨.value (.func 53),#[.tmp 7],#[22]⟩,none⟩,⟨some 9,.binOp .neq 32 (.tmp 8) (.const (.int .i64 0)) 32,none⟩]
instance : Live zhp := ⟨[0,2]⟩
def zho : List SOp := [⟨some 10,.build 26 #[],none⟩,⟨none,.store 26 (.tmp 2) (.tmp 10),none⟩,⟨some 3,.assign (.const (.int .i64 1)),none⟩]
instance : Live zho := ⟨[2]⟩
def zhn : List SOp := [⟨some 11,.move (.tmp 0),none⟩,⟨some 12,.call ⟨.builtin .len,#[.tmp 11],#[22]⟩,none⟩,⟨some 13,.makeSlice 38 (.tmp 12) (.tmp 12),none⟩,⟨some 4,.assign (.tmp 13),none⟩]
instance : Live zhn := ⟨[0,2]⟩
def zhm : List SOp := [⟨some 14,.move (.tmp 0),none⟩,⟨some 15,.call ⟨.builtin .len,#[.tmp 14],#[22]⟩,none⟩,⟨some 16,.move (.const (.int .i64 0)),none⟩]
instance : Live zhm := ⟨[0,2,4]⟩
def zhl : List SOp := [⟨some 17,.binOp .lss 3 (.tmp 16) (.tmp 15) 3,none⟩]
instance : Live zhl := ⟨[2,4,14,15,16]⟩
def zhk : List SOp := [⟨some 18,.move (.tmp 16),none⟩,⟨some 19,.indexAddr 22 (.tmp 14) (.tmp 16),none⟩,⟨some 20,.load 62 (.tmp 19),none⟩,⟨some 6,.alloc 62,none⟩,⟨some 5,.assign (.tmp 18),none⟩,⟨none,.store 62 (.tmp 6) (.tmp 20),none⟩]
instance : Live zhk := ⟨[2,4,14,15,16]⟩
def zhj : List SOp := [⟨some 21,.move (.tmp 4),none⟩,⟨some 22,.move (.tmp 5),none⟩,⟨some 23,.fieldAddr 62 (.tmp 6) 0,none⟩,⟨some 24,.load 41 (.tmp 23),none⟩,⟨some 25,.indexAddr 38 (.tmp 21) (.tmp 22),none⟩,⟨none,.store 41 (.tmp 25) (.tmp 24),none⟩]
instance : Live zhj := ⟨[2,4,5,6,14,15,16]⟩
def zhi : List SOp := [⟨some 26,.binOp .add 3 (.tmp 16) (.const (.int .i64 1)) 3,none⟩,⟨some 16,.move (.tmp 26),none⟩]
instance : Live zhi := ⟨[2,4,14,15,16]⟩
def qtu : List SOp := [⟨some 27,.move (.tmp 4),none⟩,⟨some 28,.call ⟨.value (.func 94),#[.tmp 27],#[38]⟩,none⟩,⟨none,.store 26 (.tmp 2) (.tmp 28),none⟩,⟨some 3,.assign (.const (.int .i64 0)),none⟩]
instance : Live qtu := ⟨[2,4]⟩
def qrr : SC :=
 (.seq (.ops false zhl) (.seq (.cond (.tmp 17) .skip (.exit 0)) (.seq (.block 1 (.seq (.ops false zhk) (.ops false zhj))) (.ops false zhi))))
def t_k47 : SC :=
 (.seq (.ops false zhq) (.seq (.seq (.ops false zhp) (.cond (.tmp 9) (.seq (.ops false zho) .ret) .skip)) (.seq (.ops false zhn) (.seq (.seq (.ops false zhm) (.block 0 (.loop qrr))) (.seq (.ops false qtu) .ret)))))
theorem it_k47 : FnIs Tryz.prog 47 29 [.cell 2 26, .tmp 3] t_k47 := ⟨Tryz.f47, _, Tryz.func47, rfl, rfl, rfl, rfl, by kernel_rfl⟩

def zhh : List SOp := [⟨some 1,.box 31 (.tmp 0),none⟩,⟨some 2,.alloc 31,none⟩]
instance : Live zhh := ⟨[0]⟩
def zhg : List SOp := [⟨some 6,.fieldAddr 31 (.tmp 1) 0,none⟩,⟨some 7,.load 22 (.tmp 6),none⟩,⟨some 8,.call ⟨.value (.func 63),#[.tmp 7],#[22]⟩,none⟩,⟨some 9,.fieldAddr 31 (.tmp 1) 1,none⟩,⟨some 10,.load 26 (.tmp 9),none⟩,⟨some 11,.call ⟨.value (.func 64),#[.tmp 10],#[26]⟩,none⟩,⟨some 12,.fieldAddr 31 (.tmp 1) 2,none⟩,⟨some 13,.load 27 (.tmp 12),none⟩,⟨some 14,.call ⟨.value (.func 95),#[.tmp 13],#[27]⟩,none⟩,⟨some 15,.build 31 #[(0,.tmp 8),(1,.tmp 11),(2,.tmp 14)],none⟩,⟨some 3,.alloc 31,none⟩,⟨none,.store 31 (.tmp 3) (.tmp 15),none⟩]
instance : Live zhg := ⟨[1,2]⟩
def zhf : List SOp := [⟨some 16,.fieldAddr 31 (.tmp 3) 2,none⟩,⟨some 17,.load 27 (.tmp 16),none⟩,⟨some 18,.call ⟨.builtin .len,#[.tmp 17],#[27]⟩,none⟩,⟨some 19,.move (.const (.int .i64 0)),none⟩]
instance : Live zhf := ⟨[2,3]⟩
def zhe : List SOp := [⟨some 20,.binOp .lss 3 (.tmp 19) (.tmp 18) 3,none⟩]
instance : Live zhe := ⟨[2,3,17,18,19]⟩
def zhd : List SOp := [⟨some 21,.move (.tmp 19),none⟩,⟨some 22,.indexAddr 27 (.tmp 17) (.tmp 19),none⟩,⟨some 23,.load 91 (.tmp 22),none⟩,⟨some 5,.alloc 91,none⟩,⟨some 4,.assign (.tmp 21),none⟩,⟨none,.store 91 (.tmp 5) (.tmp 23),none⟩]
instance : Live zhd := ⟨[2,3,17,18,19]⟩
def zhc : List SOp := [⟨some 24,.fieldAddr 31 (.tmp 3) 2,none⟩,⟨some 25,.load 27 (.tmp 24),none⟩,⟨some 26,.move (.tmp 4),none⟩,⟨some 27,.fieldAddr 91 (.tmp 5) 1,none⟩,⟨some 28,.load 26 (.tmp 27),none⟩,⟨some 29,.call ⟨.value (.func 64),#[.tmp 28],#[26]⟩,none⟩,⟨some 30,.indexAddr 27 (.tmp 25) (.tmp 26),none⟩,⟨some 31,.fieldAddr 91 (.tmp 30) 1,none⟩,⟨none,.store 26 (.tmp 31) (.tmp 29),none⟩]
instance : Live zhc := ⟨[2,3,4,5,17,18,19]⟩
def zhb : List SOp := [⟨some 32,.binOp .add 3 (.tmp 19) (.const (.int .i64 1)) 3,none⟩,⟨some 19,.move (.tmp 32),none⟩]
instance : Live zhb := ⟨[2,3,17,18,19]⟩
def zha : List SOp := [⟨some 33,.load 31 (.tmp 3),none⟩,⟨none,.store 31 (.tmp 2) (.tmp 33),none⟩]
instance : Live zha := ⟨[2,3]⟩
def qrq : SC :=
 (.seq (.ops false zhe) (.seq (.cond (.tmp 20) .skip (.exit 0)) (.seq (.block 1 (.seq (.ops false zhd) (.ops true zhc))) (.ops false zhb))))
def t_k48 : SC :=
 (.seq (.ops false zhh) (.seq (.ops true zhg) (.seq (.seq (.ops false zhf) (.block 0 (.loop qrq))) (.seq (.ops false zha) .ret))))
theorem it_k48 : FnIs Tryz.prog 48 34 [.cell 2 31] t_k48 := ⟨Tryz.f48, _, Tryz.func48, rfl, rfl, rfl, rfl, by kernel_rfl⟩

def q33 (s : Swt) : AVal := .agg [.sl 4 (q0b s.live), .sl 1 (q05 s.past.vec), .sl 3 (q0d s.past.cloud), .sl 3 (q09 s.defer)]
def qeg (f : Fct) : AVal := .agg [.sl 4 (q0b f.adds), .sl 1 (q05 f.gone.vec), .sl 3 (q0d f.gone.cloud), .sl 3 (q09 f.recs)]
theorem q61 (a : List Ent) (v : List Int) (c : List Sn) (r : List Rec) : q0k [AVal.sl 4 (q0b a), .sl 1 (q05 v), .sl 3 (q0d c), .sl 3 (q09 r)] = true := by simp [q0k, AVal.stb, q03, q04, q02, q07]
theorem q2y (s : Swt) : (q33 s).stb = true := q61 _ _ _ _
theorem qbg (s : Fct) : (qeg s).stb = true := q61 _ _ _ _
theorem q9v : (∀ e, (qb1 e).stb = true) ∧ (∀ r, (q3p r).stb = true) ∧ (∀ l, q0k (q0b l) = true) ∧ (∀ l, q0k (q09 l) = true) ∧ (∀ s, (q33 s).stb = true) ∧ (∀ s, (qeg s).stb = true) := ⟨qhb, qha, q07, q02, q2y, qbg⟩
theorem Wk.cells_nil {n : Nat} {T : q1y} {M : Mem} {k : Nat} {cs ds : List AVal} (hk : M k = some (.cells cs)) (h : qrx cs ds) : Wk n ⟨T, M⟩ ⟨T, upd M k (some (.cells ds))⟩ := by
 intro B G a w hR
 obtain ⟨c, el, b1, b2, b3, b4, b5⟩ := hR.mem k _ hk
 have hD : ∀ j e, Dm M j e → Dm (upd M k (some (.cells ds))) j e := fun j e => q5c (by rw [hk]; trivial)
 have hw : ∀ b, b < w.heap.size → ¬ B b → G.ow b = none → w.heap[b]? = w.heap[b]? ∧ ¬ B b ∧ G.ow b = none := fun b _ hn ho => ⟨rfl, hn, ho⟩
 refine ⟨G, hR.update (.refl G w) k (.cells ds) (by show zag (M k) _; rw [hk]; trivial) (fun _ _ _ => ⟨rfl, rfl⟩) (fun b key _ _ ho _ => ⟨rfl, ho⟩) (fun b hb => hR.ol b hb) ?_, .refl G w⟩
 refine ⟨c, el, b1, b2, b3, by rw [b4, qfx h], fun i y hy => ?_⟩
 obtain ⟨x, hx, hs⟩ := qfy h hy
 obtain ⟨u, hu, hr⟩ := b5 i x hx
 refine ⟨u, hu, ?_⟩
 rcases hs with rfl | ⟨rfl, sz, rfl⟩
 ·cases x with
  | own sz' xs' => exact OwnAt.mono hD (fun _ _ _ => ⟨rfl, rfl⟩) hw (fun b _ hb2 hb3 => ⟨rfl, hb2, hb3⟩) hr
  | hole => trivial
  | _ => exact VR.mono hD (fun _ _ _ => ⟨rfl, rfl⟩) hw hr
 ·have hr : VR (Dm M) G B w .nil u := hr
  cases hr
  exact .slnil sz
theorem sub4 : qrx [.nil, .nil, .nil, .nil] [.sl 4 [], .sl 1 [], .sl 3 [], .sl 3 []] := ⟨.inr ⟨rfl, 4, rfl⟩, .inr ⟨rfl, 1, rfl⟩, .inr ⟨rfl, 3, rfl⟩, .inr ⟨rfl, 3, rfl⟩, trivial⟩
theorem sub2 : qrx [.nil, .nil] [.sl 1 [], .sl 3 []] := ⟨.inr ⟨rfl, 1, rfl⟩, .inr ⟨rfl, 3, rfl⟩, trivial⟩
theorem qqg (l : List Ent) (hl : l.length ≤ 100000000) : Ev (En Tryz.prog rfl).P 63 [.sl 4 (q0b l)] (.ret (.sl 4 (q0b l))) := by
 refine Ev.of_body it_k63 (by simp) (Run.start ?_)
 unfold t_k63
 cases l with
 | nil =>
  have e0 : q0b [] = [] := rfl
  rw [e0]
  (have hF := True.intro; refine q1i (k:=?_); clear hF)
  refine q49 (Hook.nil_eq (En Tryz.prog rfl).hT (sz := 4) TE_22 (by simp only [opS, opA, ev, cst, upd, evs, evp, q85, qd9, NoM, qe6, qp6, En_P, Option.getD, Option.map_some, Option.map_none, List.map_cons, List.map_nil, List.getElem?_cons_zero, List.getElem?_cons_succ, List.getElem?_nil, List.all_cons, List.all_nil, List.length_cons, List.length_nil, List.take_succ_cons, List.take_zero, List.drop_succ_cons, List.drop_zero, List.set_cons_zero, List.set_cons_succ, List.cons_append, List.nil_append, List.append_nil, List.toList_toArray, q6v, boxA, q9d, q64, q3m, q7f, qaz, q1g, q7b, qay, q86, q93, q4y, z84, q7l, q76, zb6, qog, qpt, zaj, zak, qns, unA, qdp, zal, q2o, mmA, q5i, q28, q5a, qhi, q24, zai, q1x, TyI.zeros, TyI.zeroElem, TyI.okElem, TD.isAgg, Value.cells, AVal.known, AVal.cells, AVal.one, AVal.plain, q0m, AVal.withCells, reduceCtorEq, ↓reduceIte, if_true, if_false, Bool.false_eq_true, false_implies, true_implies, implies_true, true_and, and_true, and_self, ne_eq, not_true, not_false_iff, Bool.and_true, Bool.true_and, Bool.and_false, Bool.false_and, Bool.or_true, Bool.true_or, Bool.or_false, Bool.false_or, Bool.not_true, Bool.not_false, beq_self_eq_true, Nat.reduceAdd, Nat.reduceMul, Nat.reduceLeDiff, Nat.reduceEqDiff, Nat.reduceBEq, Nat.mul_one, Nat.le_refl, Nat.zero_add, Nat.add_zero, Option.isSome_some, decide_true, decide_false, q77, q94, List.replicate_succ, List.replicate_zero, List.flatMap_cons, List.flatMap_nil, flat, tms, mms, Array.size_empty, z9z, qhj, q5z, Op.operands, AVal.at, AVal.atR, q5x, qdv, qqo, Option.map_some, List.contains_cons, List.contains_nil, List.isEmpty_nil, List.isEmpty_cons, Int.toNat_natCast, Int.natCast_nonneg, Int.reduceLE, Int.reduceLT, Int.reduceToNat, Nat.reduceLT, Nat.reduceSub, Int.reduceNeg, Int.reduceEq])) ?_
  rintro v M' ⟨rfl, b, rfl⟩
  dsimp only [AS.put]
  (have hF := True.intro; refine q1i (k:=?_); clear hF)
  refine Run.cond _ rfl (fun hc => ?_) (fun hc => ?_)
  ·(have hF := True.intro; refine q1i (k:=?_); clear hF)
   exact Fin.nil rfl
  ·(have hF := True.intro; refine q1i (k:=?_); clear hF)
   exact Fin.tmp' rfl rfl
 | cons x l =>
  have e1 : q0b (x :: l) = qb1 x :: q0b l := rfl
  have e2 : (q0b l).length = l.length := q0n l
  have hl2 : l.length + 1 ≤ 100000000 := by simpa using hl
  rw [e1]
  (have hF := @e2; refine q01 (k:=?_); clear hF)
  exact Fin.tmp' rfl (q07 (x :: l))
theorem qqf (l : List Rec) (hl : l.length ≤ 100000000) : EvFresh (En Tryz.prog rfl).P 95 [.sl 3 (q09 l)] 3 (q09 l) := by
 refine EvFresh.of_body it_k95 (by simp) (AW.wkEnd (Run.start ?_))
 unfold t_k95
 cases l with
 | nil =>
  have e0 : q09 [] = [] := rfl
  rw [e0]
  (have hF := True.intro; refine q1i (k:=?_); clear hF)
  refine q49 (Hook.nil_eq (En Tryz.prog rfl).hT (sz := 3) TE_27 (by simp only [opS, opA, ev, cst, upd, evs, evp, q85, qd9, NoM, qe6, qp6, En_P, Option.getD, Option.map_some, Option.map_none, List.map_cons, List.map_nil, List.getElem?_cons_zero, List.getElem?_cons_succ, List.getElem?_nil, List.all_cons, List.all_nil, List.length_cons, List.length_nil, List.take_succ_cons, List.take_zero, List.drop_succ_cons, List.drop_zero, List.set_cons_zero, List.set_cons_succ, List.cons_append, List.nil_append, List.append_nil, List.toList_toArray, q6v, boxA, q9d, q64, q3m, q7f, qaz, q1g, q7b, qay, q86, q93, q4y, z84, q7l, q76, zb6, qog, qpt, zaj, zak, qns, unA, qdp, zal, q2o, mmA, q5i, q28, q5a, qhi, q24, zai, q1x, TyI.zeros, TyI.zeroElem, TyI.okElem, TD.isAgg, Value.cells, AVal.known, AVal.cells, AVal.one, AVal.plain, q0m, AVal.withCells, reduceCtorEq, ↓reduceIte, if_true, if_false, Bool.false_eq_true, false_implies, true_implies, implies_true, true_and, and_true, and_self, ne_eq, not_true, not_false_iff, Bool.and_true, Bool.true_and, Bool.and_false, Bool.false_and, Bool.or_true, Bool.true_or, Bool.or_false, Bool.false_or, Bool.not_true, Bool.not_false, beq_self_eq_true, Nat.reduceAdd, Nat.reduceMul, Nat.reduceLeDiff, Nat.reduceEqDiff, Nat.reduceBEq, Nat.mul_one, Nat.le_refl, Nat.zero_add, Nat.add_zero, Option.isSome_some, decide_true, decide_false, q77, q94, List.replicate_succ, List.replicate_zero, List.flatMap_cons, List.flatMap_nil, flat, tms, mms, Array.size_empty, z9z, qhj, q5z, Op.operands, AVal.at, AVal.atR, q5x, qdv, qqo, Option.map_some, List.contains_cons, List.contains_nil, List.isEmpty_nil, List.isEmpty_cons, Int.toNat_natCast, Int.natCast_nonneg, Int.reduceLE, Int.reduceLT, Int.reduceToNat, Nat.reduceLT, Nat.reduceSub, Int.reduceNeg, Int.reduceEq])) ?_
  rintro v M' ⟨rfl, b, rfl⟩
  dsimp only [AS.put]
  (have hF := True.intro; refine q1i (k:=?_); clear hF)
  refine Run.cond _ rfl (fun hc => ?_) (fun hc => ?_)
  ·(have hF := True.intro; refine q1i (k:=?_); clear hF)
   exact Fin.done ⟨_, Wk.own_nil 2 99 3 rfl rfl, 99, 0, rfl, rfl, rfl⟩
  ·(have hF := True.intro; refine q1i (k:=?_); clear hF)
   exact Fin.done ⟨_, Wk.refl _ _, _, _, rfl, rfl, rfl⟩
 | cons x l =>
  have e1 : q09 (x :: l) = q3p x :: q09 l := rfl
  have e2 : (q09 l).length = l.length := q0h l
  have hl2 : l.length + 1 ≤ 100000000 := by simpa using hl
  rw [e1]
  (have hF := @e2; refine q01 (k:=?_); clear hF)
  exact Fin.done ⟨_, Wk.refl _ _, _, _, rfl, rfl, q02 (x :: l)⟩
theorem zmi {l : List Rec} {i : Nat} {r : Rec} (h : l[i]? = some r) : (q09 l).set i (.agg [.str r.sku, .sl 1 (q05 r.past.vec), .sl 3 (q0d r.past.cloud)]) = q09 l := by
 have hi : i < l.length := by
  rcases Nat.lt_or_ge i l.length with h' | h'
  ·exact h'
  ·rw [List.getElem?_eq_none h'] at h; cases h
 have e : l.set i r = l := by
  rw [List.getElem?_eq_getElem hi] at h
  rw [← Option.some.inj h, List.set_getElem_self]
 have e2 : (q09 l).set i (q3p r) = q09 (l.set i r) := by unfold q09; rw [List.map_set]
 rw [e] at e2
 exact e2
theorem ev_k48 (s : Swt) (hw : wtS s ≤ 30000000) (hc : CanP s.past) (hr : ∀ r ∈ s.defer, q72 r) : Ev (En Tryz.prog rfl).P 48 [q33 s] (.ret (q33 s)) := by
 refine Ev.of_body it_k48 (by simp) (Run.start ?_)
 unfold t_k48 q33
 have hS := q9v
 have hcs := q61 s.live s.past.vec s.past.cloud s.defer
 have hlen := q6f s.defer
 have hww := hw
 unfold wtS at hww
 have c1 := qqg s.live (by omega)
 have c2 := qfa s.past (by omega)
 have c3 := qqf s.defer (by omega)
 have hn : q16 s.past = s.past := hc
 rw [hn] at c2
 have eK := q0h s.defer
 (have hF := @hcs; refine q01 (k:=?_); clear hF)
 refine q00 [.sl 4 (q0b s.live)] (he := c1) (k:=?_)
 (have hF := @hcs; refine q01 (k:=?_); clear hF)
 refine q00 [q0f s.past] (he := c2) (k:=?_)
 unfold q0f
 (have hF := @hcs; refine q01 (k:=?_); clear hF)
 refine stFresh [.sl 3 (q09 s.defer)] (he := c3) (k:=?_)
 (have hF := (aI @hcs @eK); refine q01 (k:=?_); clear hF)
 have hoff : ∀ a b c, z8w [(2, a), (3, b), (14, c)] 14 = false := fun _ _ _ => rfl
 refine Run.while (σ := Nat) (fun i => ⟨tms [(2, .ptr 2 0), (3, .ptr 3 0), (17, .os 14 0), (18, .int .i64 (s.defer.length : Int)), (19, .int .i64 (i : Int))], mms [(2, .cells [.nil, .nil, .nil, .nil]), (3, .cells [.sl 4 (q0b s.live), .sl 1 (q05 s.past.vec), .sl 3 (q0d s.past.cloud), .os 14 0]), (14, .arr 0 3 (q09 s.defer))]⟩)
  (fun i => i ≤ s.defer.length) (fun i => s.defer.length - i) 0 (have hW := (aI @q07 (aI @q02 @hoff)); q0g) (Nat.zero_le _) ?_
 intro i hi
 unfold qrq
 by_cases hlt : i < s.defer.length
 ·obtain ⟨r, hrr⟩ : ∃ r, s.defer[i]? = some r := ⟨s.defer[i], by simp [hlt]⟩
  have g1 := q0o hrr
  have hrl := List.mem_of_getElem? hrr
  have hwr := qek hrl
  unfold wtK at hwr
  have c4 := qfa r.past (by omega)
  have hn2 : q16 r.past = r.past := hr r hrl
  rw [hn2] at c4
  have hput := zmi hrr
  (have hF := (aI @eK @g1); refine q01 (k:=?_); clear hF)
  refine q00 [q0f r.past] (he := c4) (k:=?_)
  unfold q0f
  (have hF := (aI @eK @g1); refine q01 (k:=?_); clear hF)
  (refine Fin.nextW (i + 1) ?_ (have hW := (aI (aI @q07 @q02) (aI @hput @hoff)); q0g); (try dsimp only))
  omega
 ·(have hF := @eK; refine q01 (k:=?_); clear hF)
  exact Fin.all (xs := [q33 s]) (by with_unfolding_all rfl) (by simp [q0k, q2y]) rfl
theorem zme (l : List Rn) (i : Nat) (a b : Int) : (q06 l).set i (.agg [.int .i64 a, .int .i64 b]) = q06 (l.set i (a, b)) := by
 unfold q06
 rw [List.map_set]
 rfl




def q7e (l : List Ent) (i : Nat) : List Rn := (l.take i).map Ent.dot ++ List.replicate (l.length - i) (0, 0)
theorem z9l (l : List Ent) : q7e l 0 = List.replicate l.length (0, 0) := by simp [q7e]
theorem zlm {l : List Ent} {i : Nat} (h : i ≤ l.length) : (q7e l i).length = l.length := by simp [q7e]; omega
theorem zln (l : List Ent) : q7e l l.length = l.map Ent.dot := by simp [q7e]
theorem zll {l : List Ent} {i : Nat} {e : Ent} (h : l[i]? = some e) : (q7e l i).set i e.dot = q7e l (i + 1) := by
 have hi : i < l.length := by
  rcases Nat.lt_or_ge i l.length with h' | h'
  ·exact h'
  ·rw [List.getElem?_eq_none h'] at h; cases h
 unfold q7e
 rw [List.set_append_right _ _ (by simp; omega), List.take_add_one, h, List.map_append, List.append_assoc]
 congr 1
 have : l.length - i = l.length - (i + 1) + 1 := by omega
 rw [this, List.replicate_succ]
 simp [show i - min i l.length = 0 by omega]
theorem zmf (n : Nat) : List.replicate n (AVal.agg [.int .i64 0, .int .i64 0]) = q06 (List.replicate n (0, 0)) := by simp [q06, q3v]
theorem ev_k47 (l : List Ent) (hl : l.length ≤ 10000000) : Ev (En Tryz.prog rfl).P 47 [.sl 4 (q0b l)] (.ret (.tup [q0f (if q70 l = true then q3w l else ⟨[], []⟩), .int .i64 (if q70 l = true then 0 else 1)])) := by
 refine Ev.of_body it_k47 (by simp) (AW.wkEnd (Run.start ?_))
 unfold t_k47
 have e1 := q0n l
 have hS := q9v
 have c1 := qod l (by omega)
 by_cases hf : q70 l = true
 case' neg =>
  rw [if_neg hf] at c1
  rw [if_neg hf, if_neg hf]
  (have hF := @e1; refine q01 (k:=?_); clear hF)
  refine q00 [.sl 4 (q0b l)] (he := c1) (k:=?_)
  (have hF := @e1; refine q01 (k:=?_); clear hF)
  exact Fin.done ⟨_, Wk.cells_nil (k := 2) rfl sub2, _, by with_unfolding_all rfl, rfl, _, q1l _, rfl⟩
 case' pos =>
  rw [if_pos hf] at c1
  rw [if_pos hf, if_pos hf]
  have hz := z9l l
  have er := zmf l.length
  (have hF := (aI @e1 @er); refine q01 (k:=?_); clear hF)
  refine q00 [.sl 4 (q0b l)] (he := c1) (k:=?_)
  (have hF := (aI @e1 @er); refine q01 (k:=?_); clear hF)
  rw [← hz]
  refine Run.while (σ := Nat) (fun i => ⟨tms [(2, .ptr 2 0), (4, .os 13 0), (14, .sl 4 (q0b l)), (15, .int .i64 (l.length : Int)), (16, .int .i64 (i : Int))], mms [(2, .cells [.nil, .nil]), (13, .arr 0 2 (q06 (q7e l i)))]⟩)
   (fun i => i ≤ l.length) (fun i => l.length - i) 0 (have hW := @q07; q0g) (Nat.zero_le _) ?_
  intro i hi
  unfold qrr
  by_cases hlt : i < l.length
  ·obtain ⟨e, he⟩ : ∃ e, l[i]? = some e := ⟨l[i], by simp [hlt]⟩
   have g1 := q0w he
   have hfs := zll he
   have hfl := zlm hi
   have e3 := q0u (q7e l i)
   rw [hfl] at e3
   obtain ⟨d0, hd0⟩ : ∃ d, (q7e l i)[i]? = some d := ⟨(q7e l i)[i]'(by omega), by simp [show i < (q7e l i).length by omega]⟩
   have g2 : (q06 (q7e l i))[i]? = some (.agg [.int .i64 d0.1, .int .i64 d0.2]) := q39 hd0
   have hst : (q06 (q7e l i)).set i (.agg [.int .i64 e.rep, .int .i64 e.num]) = q06 (q7e l (i + 1)) := by rw [← hfs]; exact zme _ _ _ _
   (have hF := (aI (aI @e1 @e3) (aI @g1 @g2)); refine q01 (k:=?_); clear hF)
   (refine Fin.nextW (i + 1) ?_ (have hW := (aI @q07 @hst); q0g); (try dsimp only))
   omega
  ·have hie : i = l.length := by omega
   subst hie
   rw [zln]
   have c2 := ev_k94 (l.map Ent.dot) (by simp; omega)
   (have hF := @e1; refine q01 (k:=?_); clear hF)
   refine qry (fun j => j == 13) [.sl 2 (q06 (l.map Ent.dot))] (he := c2) (k:=?_)
   (have hF := @e1; refine q01 (k:=?_); clear hF)
   exact Fin.done ⟨_, Wk.refl _ _, [q0f (q3w l), .int .i64 0], by with_unfolding_all rfl, by simp [q0k, q13, AVal.stb], _, q1l _, rfl⟩
open Classical in
noncomputable def formF (f : Fct) : Bool := decide (FormF f)
theorem q74 {f : Fct} {W : Nat} (h : wtF f ≤ W) : f.adds.length ≤ W ∧ wt f.gone ≤ W ∧ f.recs.length ≤ W ∧ q5d f.recs ≤ W ∧ ∀ r ∈ f.recs, wt r.past ≤ W := by
 unfold wtF at h
 have := q6f f.recs
 exact ⟨by omega, by omega, by omega, by omega, fun r hr => by have := qek hr; unfold wtK at this; omega⟩
theorem q3q {s : Swt} {W : Nat} (h : wtS s ≤ W) : s.live.length ≤ W ∧ wt s.past ≤ W ∧ s.defer.length ≤ W ∧ q5d s.defer ≤ W ∧ ∀ r ∈ s.defer, wt r.past ≤ W := by
 unfold wtS at h
 have := q6f s.defer
 exact ⟨by omega, by omega, by omega, by omega, fun r hr => by have := qek hr; unfold wtK at this; omega⟩
theorem q7w (l : List Ent) : wt (q3w l) ≤ 16 + l.length := by
 have := ofP_wt (l.map Ent.dot)
 rw [List.length_map] at this
 exact this
open Classical in
noncomputable def evtS (f : Fct) : Swt := if evErr f = 0 then evS f else noS

def z47 : List SOp := [⟨some 1,.box 62 (.tmp 0),none⟩,⟨some 2,.assign (.const (.bool false)),none⟩]
instance : Live z47 := ⟨[0]⟩
def z44 : List SOp := [⟨some 3,.fieldAddr 62 (.tmp 1) 0,none⟩,⟨some 4,.load 41 (.tmp 3),none⟩,⟨some 5,.call ⟨.value (.func 111),#[.tmp 4],#[41]⟩,none⟩,⟨some 6,.move (.tmp 5),none⟩,⟨some 7,.fieldAddr 62 (.tmp 1) 1,some ((some 6),true)⟩,⟨some 8,.load 9 (.tmp 7),some ((some 6),true)⟩,⟨some 9,.call ⟨.value (.func 146),#[.tmp 8],#[9]⟩,some ((some 6),true)⟩,⟨some 10,.pick (.tmp 6) (.tmp 9) (.const (.bool false)),none⟩,⟨some 11,.move (.tmp 10),none⟩,⟨some 12,.fieldAddr 62 (.tmp 1) 2,some ((some 11),true)⟩,⟨some 13,.load 3 (.tmp 12),some ((some 11),true)⟩,⟨some 14,.binOp .geq 3 (.tmp 13) (.const (.int .i64 1)) 3,some ((some 11),true)⟩,⟨some 15,.pick (.tmp 11) (.tmp 14) (.const (.bool false)),none⟩,⟨some 16,.move (.tmp 15),none⟩,⟨some 17,.fieldAddr 62 (.tmp 1) 2,some ((some 16),true)⟩,⟨some 18,.load 3 (.tmp 17),some ((some 16),true)⟩,⟨some 19,.binOp .leq 3 (.tmp 18) (.const (.int .i64 1000000)) 3,some ((some 16),true)⟩,⟨some 20,.pick (.tmp 16) (.tmp 19) (.const (.bool false)),none⟩,⟨some 2,.assign (.tmp 20),none⟩]
instance : Live z44 := ⟨[1]⟩
def t_k115 : SC :=
 (.seq (.ops false z47) (.seq (.ops false z44) .ret))
theorem it_k115 : FnIs Tryz.prog 115 21 [.tmp 2] t_k115 := ⟨Tryz.f115, _, Tryz.func115, rfl, rfl, rfl, rfl, by kernel_rfl⟩

def z43 : List SOp := [⟨some 2,.box 41 (.tmp 0),none⟩,⟨some 3,.box 41 (.tmp 1),none⟩,⟨some 4,.assign (.const (.bool false)),none⟩]
instance : Live z43 := ⟨[0,1]⟩
def z42 : List SOp := [⟨some 5,.fieldAddr 41 (.tmp 2) 0,none⟩,⟨some 6,.load 3 (.tmp 5),none⟩,⟨some 7,.fieldAddr 41 (.tmp 3) 0,none⟩,⟨some 8,.load 3 (.tmp 7),none⟩,⟨some 9,.binOp .lss 3 (.tmp 6) (.tmp 8) 3,none⟩,⟨some 10,.move (.tmp 9),none⟩,⟨some 11,.fieldAddr 41 (.tmp 2) 0,some ((some 10),false)⟩,⟨some 12,.load 3 (.tmp 11),some ((some 10),false)⟩,⟨some 13,.fieldAddr 41 (.tmp 3) 0,some ((some 10),false)⟩,⟨some 14,.load 3 (.tmp 13),some ((some 10),false)⟩,⟨some 15,.binOp .eql 3 (.tmp 12) (.tmp 14) 3,some ((some 10),false)⟩,⟨some 16,.move (.tmp 15),some ((some 10),false)⟩,⟨some 17,.fieldAddr 41 (.tmp 2) 1,some ((some 16),true)⟩,⟨some 18,.load 3 (.tmp 17),some ((some 16),true)⟩,⟨some 19,.fieldAddr 41 (.tmp 3) 1,some ((some 16),true)⟩,⟨some 20,.load 3 (.tmp 19),some ((some 16),true)⟩,⟨some 21,.binOp .lss 3 (.tmp 18) (.tmp 20) 3,some ((some 16),true)⟩,⟨some 22,.pick (.tmp 16) (.tmp 21) (.const (.bool false)),some ((some 10),false)⟩,⟨some 23,.pick (.tmp 10) (.const (.bool true)) (.tmp 22),none⟩,⟨some 4,.assign (.tmp 23),none⟩]
instance : Live z42 := ⟨[2,3]⟩
def t_k116 : SC :=
 (.seq (.ops false z43) (.seq (.ops false z42) .ret))
theorem it_k116 : FnIs Tryz.prog 116 24 [.tmp 4] t_k116 := ⟨Tryz.f116, _, Tryz.func116, rfl, rfl, rfl, rfl, by kernel_rfl⟩

def zeq : List SOp := [⟨some 2,.assign (.const (.bool false)),none⟩]
instance : Live zeq := ⟨[0]⟩
def zep : List SOp := [⟨some 3,.assign (.const (.int .i64 0)),none⟩]
instance : Live zep := ⟨[0]⟩
def zeo : List SOp := [⟨some 4,.move (.tmp 3),none⟩,⟨some 5,.move (.tmp 0),none⟩,⟨some 6,.call ⟨.builtin .len,#[.tmp 5],#[22]⟩,none⟩,⟨some 7,.binOp .lss 3 (.tmp 4) (.tmp 6) 3,none⟩]
instance : Live zeo := ⟨[0,3]⟩
def zen : List SOp := [⟨some 10,.move (.tmp 0),none⟩,⟨some 11,.move (.tmp 3),none⟩,⟨some 12,.indexAddr 22 (.tmp 10) (.tmp 11),none⟩,⟨some 13,.load 62 (.tmp 12),none⟩,⟨some 14,.call ⟨.value (.func 115),#[.tmp 13],#[62]⟩,none⟩,⟨some 15,.unOp .not 4 (.tmp 14),none⟩,⟨some 16,.move (.tmp 15),none⟩,⟨some 17,.move (.tmp 3),some ((some 16),false)⟩,⟨some 18,.binOp .gtr 3 (.tmp 17) (.const (.int .i64 0)) 3,some ((some 16),false)⟩,⟨some 19,.move (.tmp 18),some ((some 16),false)⟩,⟨some 20,.move (.tmp 0),some ((some 19),true)⟩,⟨some 21,.move (.tmp 3),some ((some 19),true)⟩,⟨some 22,.binOp .sub 3 (.tmp 21) (.const (.int .i64 1)) 3,some ((some 19),true)⟩,⟨some 23,.indexAddr 22 (.tmp 20) (.tmp 22),some ((some 19),true)⟩,⟨some 24,.fieldAddr 62 (.tmp 23) 0,some ((some 19),true)⟩,⟨some 25,.load 41 (.tmp 24),some ((some 19),true)⟩,⟨some 26,.move (.tmp 0),some ((some 19),true)⟩,⟨some 27,.move (.tmp 3),some ((some 19),true)⟩,⟨some 28,.indexAddr 22 (.tmp 26) (.tmp 27),some ((some 19),true)⟩,⟨some 29,.fieldAddr 62 (.tmp 28) 0,some ((some 19),true)⟩,⟨some 30,.load 41 (.tmp 29),some ((some 19),true)⟩,⟨some 31,.call ⟨.value (.func 116),#[.tmp 25,.tmp 30],#[41,41]⟩,some ((some 19),true)⟩,⟨some 32,.unOp .not 4 (.tmp 31),some ((some 19),true)⟩,⟨some 33,.pick (.tmp 19) (.tmp 32) (.const (.bool false)),some ((some 16),false)⟩,⟨some 34,.pick (.tmp 16) (.const (.bool true)) (.tmp 33),none⟩]
instance : Live zen := ⟨[0,3]⟩
def zem : List SOp := [⟨some 2,.assign (.const (.bool false)),none⟩]
instance : Live zem := ⟨[]⟩
def zel : List SOp := [⟨some 8,.move (.tmp 3),none⟩,⟨some 9,.binOp .add 3 (.tmp 8) (.const (.int .i64 1)) 3,none⟩,⟨some 3,.assign (.tmp 9),none⟩]
instance : Live zel := ⟨[0,3]⟩
def zek : List SOp := [⟨some 2,.assign (.const (.bool true)),none⟩]
instance : Live zek := ⟨[]⟩
def qri : SC :=
 (.seq (.seq (.ops false zeo) (.cond (.tmp 7) .skip (.exit 0))) (.seq (.block 1 (.seq (.ops true zen) (.cond (.tmp 34) (.seq (.ops false zem) .ret) .skip))) (.ops false zel)))
def t_k67 : SC :=
 (.seq (.ops false zeq) (.seq (.seq (.ops false zep) (.block 0 (.loop qri))) (.seq (.ops false zek) .ret)))
theorem it_k67 : FnIs Tryz.prog 67 35 [.tmp 2] t_k67 := ⟨Tryz.f67, _, Tryz.func67, rfl, rfl, rfl, rfl, by kernel_rfl⟩

def z3z : List SOp := [⟨some 1,.box 91 (.tmp 0),none⟩,⟨some 2,.assign (.const (.bool false)),none⟩]
instance : Live z3z := ⟨[0]⟩
def z3y : List SOp := [⟨some 3,.fieldAddr 91 (.tmp 1) 0,none⟩,⟨some 4,.load 9 (.tmp 3),none⟩,⟨some 5,.binOp .eql 9 (.tmp 4) (.const (.string ⟨#[]⟩)) 9,none⟩,⟨some 6,.move (.tmp 5),none⟩,⟨some 7,.fieldAddr 91 (.tmp 1) 0,some ((some 6),false)⟩,⟨some 8,.load 9 (.tmp 7),some ((some 6),false)⟩,⟨some 9,.call ⟨.value (.func 146),#[.tmp 8],#[9]⟩,some ((some 6),false)⟩,⟨some 10,.pick (.tmp 6) (.const (.bool true)) (.tmp 9),none⟩,⟨some 11,.move (.tmp 10),none⟩,⟨some 12,.fieldAddr 91 (.tmp 1) 1,some ((some 11),true)⟩,⟨some 13,.load 26 (.tmp 12),some ((some 11),true)⟩,⟨some 14,.call ⟨.value (.func 68),#[.tmp 13],#[26]⟩,some ((some 11),true)⟩,⟨some 15,.pick (.tmp 11) (.tmp 14) (.const (.bool false)),none⟩,⟨some 16,.move (.tmp 15),none⟩,⟨some 17,.fieldAddr 91 (.tmp 1) 1,some ((some 16),true)⟩,⟨some 18,.load 26 (.tmp 17),some ((some 16),true)⟩,⟨some 19,.call ⟨.value (.func 76),#[.tmp 18],#[26]⟩,some ((some 16),true)⟩,⟨some 20,.unOp .not 4 (.tmp 19),some ((some 16),true)⟩,⟨some 21,.pick (.tmp 16) (.tmp 20) (.const (.bool false)),none⟩,⟨some 2,.assign (.tmp 21),none⟩]
instance : Live z3y := ⟨[1]⟩
def t_k118 : SC :=
 (.seq (.ops false z3z) (.seq (.ops false z3y) .ret))
theorem it_k118 : FnIs Tryz.prog 118 22 [.tmp 2] t_k118 := ⟨Tryz.f118, _, Tryz.func118, rfl, rfl, rfl, rfl, by kernel_rfl⟩

def zeh : List SOp := [⟨some 2,.assign (.const (.bool false)),none⟩]
instance : Live zeh := ⟨[0]⟩
def zeg : List SOp := [⟨some 3,.assign (.const (.int .i64 0)),none⟩]
instance : Live zeg := ⟨[0]⟩
def zef : List SOp := [⟨some 6,.move (.tmp 3),none⟩,⟨some 7,.move (.tmp 0),none⟩,⟨some 8,.call ⟨.builtin .len,#[.tmp 7],#[27]⟩,none⟩,⟨some 9,.binOp .lss 3 (.tmp 6) (.tmp 8) 3,none⟩]
instance : Live zef := ⟨[0,3]⟩
def zee : List SOp := [⟨some 12,.move (.tmp 0),none⟩,⟨some 13,.move (.tmp 3),none⟩,⟨some 14,.indexAddr 27 (.tmp 12) (.tmp 13),none⟩,⟨some 15,.load 91 (.tmp 14),none⟩,⟨some 16,.call ⟨.value (.func 118),#[.tmp 15],#[91]⟩,none⟩,⟨some 17,.unOp .not 4 (.tmp 16),none⟩]
instance : Live zee := ⟨[0,3]⟩
def zed : List SOp := [⟨some 2,.assign (.const (.bool false)),none⟩]
instance : Live zed := ⟨[]⟩
def zec : List SOp := [⟨some 18,.move (.tmp 3),none⟩,⟨some 19,.binOp .gtr 3 (.tmp 18) (.const (.int .i64 0)) 3,none⟩]
instance : Live zec := ⟨[0,3]⟩
def qps : List SOp := [⟨some 20,.move (.tmp 0),none⟩,⟨some 21,.move (.tmp 3),none⟩,⟨some 22,.binOp .sub 3 (.tmp 21) (.const (.int .i64 1)) 3,none⟩,⟨some 23,.indexAddr 27 (.tmp 20) (.tmp 22),none⟩,⟨some 24,.load 91 (.tmp 23),none⟩,⟨some 25,.move (.tmp 0),none⟩,⟨some 26,.move (.tmp 3),none⟩,⟨some 27,.indexAddr 27 (.tmp 25) (.tmp 26),none⟩,⟨some 28,.load 91 (.tmp 27),none⟩,⟨some 4,.alloc 91,none⟩,⟨some 5,.alloc 91,none⟩,⟨none,.store 91 (.tmp 4) (.tmp 24),none⟩,⟨none,.store 91 (.tmp 5) (.tmp 28),none⟩]
instance : Live qps := ⟨[0,3]⟩
instance : Rd qps := ⟨fun j => j == 0⟩
def zeb : List SOp := [⟨some 29,.fieldAddr 91 (.tmp 4) 0,none⟩,⟨some 30,.load 9 (.tmp 29),none⟩,⟨some 31,.fieldAddr 91 (.tmp 5) 0,none⟩,⟨some 32,.load 9 (.tmp 31),none⟩,⟨some 33,.binOp .gtr 9 (.tmp 30) (.tmp 32) 9,none⟩,⟨some 34,.move (.tmp 33),none⟩,⟨some 35,.fieldAddr 91 (.tmp 4) 0,some ((some 34),false)⟩,⟨some 36,.load 9 (.tmp 35),some ((some 34),false)⟩,⟨some 37,.fieldAddr 91 (.tmp 5) 0,some ((some 34),false)⟩,⟨some 38,.load 9 (.tmp 37),some ((some 34),false)⟩,⟨some 39,.binOp .eql 9 (.tmp 36) (.tmp 38) 9,some ((some 34),false)⟩,⟨some 40,.move (.tmp 39),some ((some 34),false)⟩,⟨some 41,.fieldAddr 91 (.tmp 4) 1,some ((some 40),true)⟩,⟨some 42,.load 26 (.tmp 41),some ((some 40),true)⟩,⟨some 43,.fieldAddr 91 (.tmp 5) 1,some ((some 40),true)⟩,⟨some 44,.load 26 (.tmp 43),some ((some 40),true)⟩,⟨some 45,.call ⟨.value (.func 119),#[.tmp 42,.tmp 44],#[26,26]⟩,some ((some 40),true)⟩,⟨some 46,.binOp .geq 3 (.tmp 45) (.const (.int .i64 0)) 3,some ((some 40),true)⟩,⟨some 47,.pick (.tmp 40) (.tmp 46) (.const (.bool false)),some ((some 34),false)⟩,⟨some 48,.pick (.tmp 34) (.const (.bool true)) (.tmp 47),none⟩]
instance : Live zeb := ⟨[0,3,4,5]⟩
def zea : List SOp := [⟨some 2,.assign (.const (.bool false)),none⟩]
instance : Live zea := ⟨[]⟩
def qt5 : List SOp := [⟨some 10,.move (.tmp 3),none⟩,⟨some 11,.binOp .add 3 (.tmp 10) (.const (.int .i64 1)) 3,none⟩,⟨some 3,.assign (.tmp 11),none⟩]
instance : Live qt5 := ⟨[0,3]⟩
def qt4 : List SOp := [⟨some 2,.assign (.const (.bool true)),none⟩]
instance : Live qt4 := ⟨[]⟩
def qrh : SC :=
 (.seq (.seq (.ops false zef) (.cond (.tmp 9) .skip (.exit 0))) (.seq (.block 1 (.seq (.seq (.ops false zee) (.cond (.tmp 17) (.seq (.ops false zed) .ret) .skip)) (.seq (.ops false zec) (.cond (.tmp 19) (.seq (.opsW [] qps) (.seq (.ops false zeb) (.cond (.tmp 48) (.seq (.ops false zea) .ret) .skip))) .skip)))) (.ops false qt5)))
def t_k69 : SC :=
 (.seq (.ops false zeh) (.seq (.seq (.ops false zeg) (.block 0 (.loop qrh))) (.seq (.ops false qt4) .ret)))
theorem it_k69 : FnIs Tryz.prog 69 49 [.tmp 2] t_k69 := ⟨Tryz.f69, _, Tryz.func69, rfl, rfl, rfl, rfl, by kernel_rfl⟩


def zdz : List SOp := [⟨some 2,.box 91 (.tmp 0),none⟩,⟨some 3,.box 62 (.tmp 1),none⟩,⟨some 4,.assign (.const (.bool false)),none⟩]
instance : Live zdz := ⟨[0,1]⟩
def zdy : List SOp := [⟨some 5,.fieldAddr 91 (.tmp 2) 0,none⟩,⟨some 6,.load 9 (.tmp 5),none⟩,⟨some 7,.binOp .eql 9 (.tmp 6) (.const (.string ⟨#[]⟩)) 9,none⟩,⟨some 8,.move (.tmp 7),none⟩,⟨some 9,.fieldAddr 91 (.tmp 2) 0,some ((some 8),false)⟩,⟨some 10,.load 9 (.tmp 9),some ((some 8),false)⟩,⟨some 11,.fieldAddr 62 (.tmp 3) 1,some ((some 8),false)⟩,⟨some 12,.load 9 (.tmp 11),some ((some 8),false)⟩,⟨some 13,.binOp .eql 9 (.tmp 10) (.tmp 12) 9,some ((some 8),false)⟩,⟨some 14,.pick (.tmp 8) (.const (.bool true)) (.tmp 13),none⟩,⟨some 15,.move (.tmp 14),none⟩,⟨some 16,.fieldAddr 91 (.tmp 2) 1,some ((some 15),true)⟩,⟨some 17,.load 26 (.tmp 16),some ((some 15),true)⟩,⟨some 18,.fieldAddr 62 (.tmp 3) 0,some ((some 15),true)⟩,⟨some 19,.load 41 (.tmp 18),some ((some 15),true)⟩,⟨some 20,.call ⟨.value (.func 62),#[.tmp 17,.tmp 19],#[26,41]⟩,some ((some 15),true)⟩,⟨some 21,.pick (.tmp 15) (.tmp 20) (.const (.bool false)),none⟩,⟨some 4,.assign (.tmp 21),none⟩]
instance : Live zdy := ⟨[2,3]⟩
def t_k72 : SC :=
 (.seq (.ops false zdz) (.seq (.ops false zdy) .ret))
theorem it_k72 : FnIs Tryz.prog 72 22 [.tmp 4] t_k72 := ⟨Tryz.f72, _, Tryz.func72, rfl, rfl, rfl, rfl, by kernel_rfl⟩

theorem ev_k115 (e : Ent) : Ev (En Tryz.prog rfl).P 115 [qb1 e] (.ret (.bool (decide (q21 e = 0)))) := by
 refine Ev.of_body it_k115 (by simp) (Run.start ?_)
 unfold t_k115 qb1
 have c1 := zmb e.dot
 have c0 := zm5 e.sku
 have hee := z9w e
 change Ev _ _ _ (.ret (.bool (q3l e.rep e.num))) at c1
 generalize q3l e.rep e.num = v1 at c1 hee
 generalize q6z e.sku = v2 at c0 hee
 generalize q21 e = u at hee ⊢
 (have hF := True.intro; refine q01 (k:=?_); clear hF)
 refine q00 [q3v e.dot] (he := c1) (k:=?_)
 cases v1
 ·rw [decide_eq_false (fun h => by have := (hee.1 h).1; simp at this)]
  (have hF := True.intro; refine q01 (k:=?_); clear hF)
  exact Fin.tmp' rfl rfl
 ·(have hF := True.intro; refine q01 (k:=?_); clear hF)
  refine q00 [.str e.sku] (he := c0) (k:=?_)
  cases v2
  ·rw [decide_eq_false (fun h => by have := (hee.1 h).2.1; simp at this)]
   (have hF := True.intro; refine q01 (k:=?_); clear hF)
   exact Fin.tmp' rfl rfl
  ·by_cases h3 : e.qty < 1
   ·rw [decide_eq_false (fun h => (hee.1 h).2.2.1 h3)]
    (have hF := True.intro; refine q01 (k:=?_); clear hF)
    exact Fin.tmp' rfl rfl
   ·by_cases h4 : 1000000 < e.qty
    ·rw [decide_eq_false (fun h => (hee.1 h).2.2.2 h4)]
     (have hF := True.intro; refine q01 (k:=?_); clear hF)
     exact Fin.tmp' rfl rfl
    ·rw [decide_eq_true (hee.2 ⟨rfl, rfl, h3, h4⟩)]
     (have hF := True.intro; refine q01 (k:=?_); clear hF)
     exact Fin.tmp' rfl rfl
theorem qqc (a b : Rn) : Ev (En Tryz.prog rfl).P 116 [q3v a, q3v b] (.ret (.bool (q34 a b))) := by
 refine Ev.of_body it_k116 (by simp) (Run.start ?_)
 unfold t_k116 q3v q34
 by_cases h1 : a.1 < b.1
 ·rw [show (decide (a.1 < b.1) || (decide (a.1 = b.1) && decide (a.2 < b.2))) = true by simp [h1]]
  (have hF := True.intro; refine q01 (k:=?_); clear hF)
  exact Fin.tmp' rfl rfl
 ·by_cases h2 : a.1 = b.1
  ·rw [show (decide (a.1 < b.1) || (decide (a.1 = b.1) && decide (a.2 < b.2))) = decide (a.2 < b.2) by simp [h1, h2]]
   (have hF := True.intro; refine q01 (k:=?_); clear hF)
   exact Fin.tmp' rfl rfl
  ·rw [show (decide (a.1 < b.1) || (decide (a.1 = b.1) && decide (a.2 < b.2))) = false by simp [h1, h2]]
   (have hF := True.intro; refine q01 (k:=?_); clear hF)
   exact Fin.tmp' rfl rfl
theorem ev_k67 (l : List Ent) (hl : l.length ≤ 1000000000) : Ev (En Tryz.prog rfl).P 67 [.sl 4 (q0b l)] (.ret (.bool (q70 l))) := by
 refine Ev.of_body it_k67 (by simp) (Run.start ?_)
 unfold t_k67
 have e1 := q0n l
 have hS := qpa
 (have hF := @e1; refine q01 (k:=?_); clear hF)
 refine Run.while (σ := Nat) (fun i => ⟨tms [(0, .sl 4 (q0b l)), (3, .int .i64 (i : Int))], mms []⟩)
  (fun i => i ≤ l.length ∧ (∀ (j : Nat) q, j < i → l[j]? = some q → q21 q = 0) ∧ ∀ (j : Nat) a b, j + 1 < i → l[j]? = some a → l[j + 1]? = some b → q34 a.dot b.dot = true) (fun i => l.length - i) 0 (have hW := @q07; q0g) ⟨Nat.zero_le _, fun j q hj => absurd hj (Nat.not_lt_zero _), fun j a b hj => by omega⟩ ?_
 rintro i ⟨hi, hI⟩
 unfold qri
 by_cases hlt : i < l.length
 ·obtain ⟨r, hr⟩ : ∃ r, l[i]? = some r := ⟨l[i], by simp [hlt]⟩
  have g1 := q0w hr
  have c1 := ev_k115 r
  have hst := fun h0 h1 => qf8 hr hI h0 h1
  have hbad : q21 r ≠ 0 → ¬ q71 l := fun h hf => h (hf.1 i r hr)
  generalize q21 r = v at c1 hst hbad
  (have hF := (aI @e1 @g1); refine q01 (k:=?_); clear hF)
  refine q00 [qb1 r] (he := c1) (k:=?_)
  by_cases hv : v = 0
  ·rw [decide_eq_true hv]
   have hst := hst hv
   by_cases h0 : i = 0
   ·have hst := hst (fun q hq => by omega)
    subst h0
    (have hF := (aI @e1 @g1); refine q01 (k:=?_); clear hF)
    (refine Fin.nextW (0 + 1) ?_ (have hW := @q07; q0g); (try dsimp only))
    exact ⟨⟨hlt, hst⟩, by omega⟩
   ·obtain ⟨q, hq⟩ : ∃ q, l[i - 1]? = some q := ⟨l[i - 1]'(by omega), by simp [show i - 1 < l.length by omega]⟩
    have g2 := q0w hq
    have hpw : IntKind.i64.wrap ((i : Int) - 1) = ((i - 1 : Nat) : Int) := by rw [q2i (by omega)]; omega
    have c2 := qqc q.dot r.dot
    have hbad2 : q34 q.dot r.dot = false → ¬ q71 l := fun h hf => by
     have := hf.2 (i - 1) q r hq (by rw [show i - 1 + 1 = i by omega]; exact hr)
     rw [h] at this
     cases this
    have hst : q34 q.dot r.dot = true → _ := fun h => hst (fun q' _ hq' => by rw [hq] at hq'; cases hq'; exact h)
    generalize q34 q.dot r.dot = u at c2 hst hbad2
    (have hF := (aI (aI @e1 @g1) (aI @g2 @hpw)); refine q01 (k:=?_); clear hF)
    refine q00 [q3v q.dot, q3v r.dot] (he := c2) (k:=?_)
    cases u
    ·rw [q6q (hbad2 rfl)]
     (have hF := (aI @e1 @g1); refine q01 (k:=?_); clear hF)
     exact Fin.tmp' rfl rfl
    ·have hst := hst rfl
     (have hF := (aI @e1 @g1); refine q01 (k:=?_); clear hF)
     (refine Fin.nextW (i + 1) ?_ (have hW := @q07; q0g); (try dsimp only))
     exact ⟨⟨hlt, hst⟩, by omega⟩
  ·rw [decide_eq_false hv, q6q (hbad hv)]
   (have hF := (aI @e1 @g1); refine q01 (k:=?_); clear hF)
   exact Fin.tmp' rfl rfl
 ·rw [q4o (qo6 (by omega) hI)]
  (have hF := @e1; refine q01 (k:=?_); clear hF)
  exact Fin.tmp' rfl rfl
theorem z8q (r : Rec) : q2z r = 0 ↔ (r.sku.size = 0 ∨ q6z r.sku = true) ∧ q1j r.past = true ∧ q3e r.past ≠ 0 := by
 unfold q2z
 by_cases h1 : r.sku.size = 0 <;> cases h2 : q6z r.sku <;> cases h3 : q1j r.past <;> by_cases h4 : q3e r.past = 0 <;> simp [h1, h4]
theorem ev_k118 (r : Rec) (hw : wt r.past ≤ 30000000) : Ev (En Tryz.prog rfl).P 118 [q3p r] (.ret (.bool (decide (q2z r = 0)))) := by
 refine Ev.of_body it_k118 (by simp) (Run.start ?_)
 unfold t_k118 q3p
 have c1 := zm5 r.sku
 have c2 := ev_k68 r.past (by omega)
 have c3 := ev_k76 r.past (by omega)
 have e := q8j r.sku
 have hee := z8q r
 generalize q6z r.sku = v1 at c1 hee
 generalize q1j r.past = v2 at c2 hee
 generalize q3e r.past = v3 at c3 hee
 generalize q2z r = u at hee ⊢
 by_cases h0 : r.sku.size = 0
 case' pos =>
  rw [eq_true h0] at e
  (have hF := (aI @e (aI @decide_true @Bool.not_true)); refine q01 (k:=?_); clear hF)
 case' neg =>
  rw [eq_false h0] at e
  cases v1
  case' false =>
   rw [decide_eq_false (fun h => by have := (hee.1 h).1; simp [h0] at this)]
  all_goals
   (have hF := (aI @e (aI @decide_false @Bool.not_false)); refine q01 (k:=?_); clear hF)
   refine q00 [.str r.sku] (he := c1) (k:=?_)
   (have hF := True.intro; refine q01 (k:=?_); clear hF)
  case' false => exact Fin.tmp' rfl rfl
 all_goals
  refine q00 [q0f r.past] (he := c2) (k:=?_)
  cases v2
  ·rw [decide_eq_false (fun h => by have := (hee.1 h).2.1; simp at this)]
   (have hF := True.intro; refine q01 (k:=?_); clear hF)
   exact Fin.tmp' rfl rfl
  ·(have hF := True.intro; refine q01 (k:=?_); clear hF)
   refine q00 [q0f r.past] (he := c3) (k:=?_)
   by_cases h3 : v3 = 0
   ·rw [decide_eq_false (fun h => (hee.1 h).2.2 h3), decide_eq_true h3]
    (have hF := True.intro; refine q01 (k:=?_); clear hF)
    exact Fin.tmp' rfl rfl
   ·rw [decide_eq_true (hee.2 ⟨by simp [h0], rfl, h3⟩), decide_eq_false h3]
    (have hF := True.intro; refine q01 (k:=?_); clear hF)
    exact Fin.tmp' rfl rfl

def z3m : List SOp := [⟨some 2,.alloc 26,none⟩]
instance : Live z3m := ⟨[0]⟩
def z3l : List SOp := [⟨some 3,.alloc 26,none⟩]
instance : Live z3l := ⟨[0,2]⟩
def z3k : List SOp := [⟨some 4,.assign (.const (.int .i64 0)),none⟩]
instance : Live z3k := ⟨[0,2,3]⟩
def z3j : List SOp := [⟨some 5,.move (.tmp 4),none⟩,⟨some 6,.move (.tmp 0),none⟩,⟨some 7,.call ⟨.builtin .len,#[.tmp 6],#[38]⟩,none⟩,⟨some 8,.binOp .lss 3 (.tmp 5) (.tmp 7) 3,none⟩]
instance : Live z3j := ⟨[0,2,3,4]⟩
def qgd : List SOp := [⟨some 11,.fieldAddr 26 (.tmp 3) 1,none⟩,⟨some 12,.load 24 (.tmp 11),none⟩,⟨some 13,.move (.tmp 0),none⟩,⟨some 14,.move (.tmp 4),none⟩,⟨some 15,.indexAddr 38 (.tmp 13) (.tmp 14),none⟩,⟨some 16,.fieldAddr 41 (.tmp 15) 0,none⟩,⟨some 17,.load 3 (.tmp 16),none⟩,⟨some 18,.move (.tmp 0),none⟩,⟨some 19,.move (.tmp 4),none⟩,⟨some 20,.indexAddr 38 (.tmp 18) (.tmp 19),none⟩,⟨some 21,.fieldAddr 41 (.tmp 20) 1,none⟩,⟨some 22,.load 3 (.tmp 21),none⟩,⟨some 23,.move (.tmp 0),none⟩,⟨some 24,.move (.tmp 4),none⟩,⟨some 25,.indexAddr 38 (.tmp 23) (.tmp 24),none⟩,⟨some 26,.fieldAddr 41 (.tmp 25) 1,none⟩,⟨some 27,.load 3 (.tmp 26),none⟩,⟨some 28,.build 127 #[(0,.tmp 17),(1,.tmp 22),(2,.tmp 27)],none⟩,⟨some 29,.buildSlice 24 1 #[(0,.tmp 28)],none⟩,⟨some 30,.call ⟨.builtin .append,#[.tmp 12,.tmp 29],#[24,24]⟩,none⟩,⟨some 31,.fieldAddr 26 (.tmp 3) 1,none⟩,⟨none,.store 24 (.tmp 31) (.tmp 30),none⟩]
instance : Live qgd := ⟨[0,2,3,4]⟩
instance : Rd qgd := ⟨fun j => j == 0⟩
def z3i : List SOp := [⟨some 9,.move (.tmp 4),none⟩,⟨some 10,.binOp .add 3 (.tmp 9) (.const (.int .i64 1)) 3,none⟩,⟨some 4,.assign (.tmp 10),none⟩]
instance : Live z3i := ⟨[0,2,3,4]⟩
def z3h : List SOp := [⟨some 32,.load 26 (.tmp 3),none⟩,⟨some 33,.call ⟨.value (.func 117),#[.tmp 32],#[26]⟩,none⟩,⟨none,.store 26 (.tmp 2) (.tmp 33),none⟩]
instance : Live z3h := ⟨[2,3]⟩
def qiq : SC :=
 (.seq (.seq (.ops false z3j) (.cond (.tmp 8) .skip (.exit 0))) (.seq (.block 1 (.opsW [12] qgd)) (.ops false z3i)))
def t_k121 : SC :=
 (.seq (.ops false z3m) (.seq (.ops false z3l) (.seq (.seq (.ops false z3k) (.block 0 (.loop qiq))) (.seq (.ops false z3h) .ret))))
theorem it_k121 : FnIs Tryz.prog 121 34 [.cell 2 26] t_k121 := ⟨Tryz.f121, _, Tryz.func121, rfl, rfl, rfl, rfl, by kernel_rfl⟩

def ze7 : List SOp := [⟨some 6,.alloc 26,none⟩]
instance : Live ze7 := ⟨[0,1,2]⟩
def ze6 : List SOp := [⟨some 7,.assign (.const (.slice none 0 0)),none⟩]
instance : Live ze6 := ⟨[0,1,2,6]⟩
def ze5 : List SOp := [⟨some 8,.assign (.const (.int .i64 0)),none⟩]
instance : Live ze5 := ⟨[0,1,2,6,7]⟩
def ze4 : List SOp := [⟨some 9,.move (.tmp 8),none⟩,⟨some 10,.move (.tmp 0),none⟩,⟨some 11,.call ⟨.builtin .len,#[.tmp 10],#[22]⟩,none⟩,⟨some 12,.binOp .lss 3 (.tmp 9) (.tmp 11) 3,none⟩]
instance : Live ze4 := ⟨[0,1,2,6,7,8]⟩
def ze3 : List SOp := [⟨some 15,.move (.tmp 1),none⟩,⟨some 16,.binOp .eql 9 (.tmp 15) (.const (.string ⟨#[]⟩)) 9,none⟩,⟨some 17,.move (.tmp 16),none⟩,⟨some 18,.move (.tmp 0),some ((some 17),false)⟩,⟨some 19,.move (.tmp 8),some ((some 17),false)⟩,⟨some 20,.indexAddr 22 (.tmp 18) (.tmp 19),some ((some 17),false)⟩,⟨some 21,.fieldAddr 62 (.tmp 20) 1,some ((some 17),false)⟩,⟨some 22,.load 9 (.tmp 21),some ((some 17),false)⟩,⟨some 23,.move (.tmp 1),some ((some 17),false)⟩,⟨some 24,.binOp .eql 9 (.tmp 22) (.tmp 23) 9,some ((some 17),false)⟩,⟨some 25,.pick (.tmp 17) (.const (.bool true)) (.tmp 24),none⟩,⟨some 26,.move (.tmp 25),none⟩,⟨some 27,.move (.tmp 2),some ((some 26),true)⟩,⟨some 28,.binOp .lss 3 (.tmp 27) (.const (.int .i64 0)) 3,some ((some 26),true)⟩,⟨some 29,.move (.tmp 28),some ((some 26),true)⟩,⟨some 30,.move (.tmp 0),some ((some 29),false)⟩,⟨some 31,.move (.tmp 8),some ((some 29),false)⟩,⟨some 32,.indexAddr 22 (.tmp 30) (.tmp 31),some ((some 29),false)⟩,⟨some 33,.fieldAddr 62 (.tmp 32) 0,some ((some 29),false)⟩,⟨some 34,.fieldAddr 41 (.tmp 33) 0,some ((some 29),false)⟩,⟨some 35,.load 3 (.tmp 34),some ((some 29),false)⟩,⟨some 36,.move (.tmp 2),some ((some 29),false)⟩,⟨some 37,.binOp .eql 3 (.tmp 35) (.tmp 36) 3,some ((some 29),false)⟩,⟨some 38,.pick (.tmp 29) (.const (.bool true)) (.tmp 37),some ((some 26),true)⟩,⟨some 39,.pick (.tmp 26) (.tmp 38) (.const (.bool false)),none⟩]
instance : Live ze3 := ⟨[0,1,2,6,7,8]⟩
def ze2 : List SOp := [⟨some 40,.move (.tmp 7),none⟩,⟨some 41,.move (.tmp 0),none⟩,⟨some 42,.move (.tmp 8),none⟩,⟨some 43,.indexAddr 22 (.tmp 41) (.tmp 42),none⟩,⟨some 44,.fieldAddr 62 (.tmp 43) 0,none⟩,⟨some 45,.load 41 (.tmp 44),none⟩,⟨some 46,.buildSlice 38 1 #[(0,.tmp 45)],none⟩,⟨some 47,.call ⟨.builtin .append,#[.tmp 40,.tmp 46],#[38,38]⟩,none⟩,⟨some 7,.assign (.tmp 47),none⟩]
instance : Live ze2 := ⟨[0,1,2,6,7,8]⟩
def ze1 : List SOp := [⟨some 13,.move (.tmp 8),none⟩,⟨some 14,.binOp .add 3 (.tmp 13) (.const (.int .i64 1)) 3,none⟩,⟨some 8,.assign (.tmp 14),none⟩]
instance : Live ze1 := ⟨[0,1,2,6,7,8]⟩
def ze0 : List SOp := [⟨some 48,.move (.tmp 7),none⟩,⟨some 49,.call ⟨.value (.func 121),#[.tmp 48],#[38]⟩,none⟩,⟨none,.store 26 (.tmp 6) (.tmp 49),none⟩]
instance : Live ze0 := ⟨[6,7]⟩
def qrg : SC :=
 (.seq (.seq (.ops false ze4) (.cond (.tmp 12) .skip (.exit 0))) (.seq (.block 1 (.seq (.ops false ze3) (.cond (.tmp 39) (.ops false ze2) .skip))) (.ops false ze1)))
def t_k71 : SC :=
 (.seq (.ops false ze7) (.seq (.ops false ze6) (.seq (.seq (.ops false ze5) (.block 0 (.loop qrg))) (.seq (.ops false ze0) .ret))))
theorem it_k71 : FnIs Tryz.prog 71 50 [.cell 6 26] t_k71 := ⟨Tryz.f71, _, Tryz.func71, rfl, rfl, rfl, rfl, by kernel_rfl⟩


theorem ev_k69 (l : List Rec) (hl : l.length ≤ 1000000000) (hw : ∀ r ∈ l, wt r.past ≤ 30000000) : Ev (En Tryz.prog rfl).P 69 [.sl 3 (q09 l)] (.ret (.bool (q3f l))) := by
 refine Ev.of_body it_k69 (by simp) (Run.start ?_)
 unfold t_k69
 have e1 := q0h l
 have hS := q9v
 (have hF := @e1; refine q01 (k:=?_); clear hF)
 refine Run.while (σ := Nat) (fun i => ⟨tms [(0, .sl 3 (q09 l)), (3, .int .i64 (i : Int))], mms []⟩)
  (fun i => i ≤ l.length ∧ (∀ (j : Nat) q, j < i → l[j]? = some q → q2z q = 0) ∧ ∀ (j : Nat) a b, j + 1 < i → l[j]? = some a → l[j + 1]? = some b → q31 a b < 0) (fun i => l.length - i) 0 (have hW := @q02; q0g) ⟨Nat.zero_le _, fun j q hj => absurd hj (Nat.not_lt_zero _), fun j a b hj => by omega⟩ ?_
 rintro i ⟨hi, hI⟩
 unfold qrh
 by_cases hlt : i < l.length
 ·obtain ⟨r, hr⟩ : ∃ r, l[i]? = some r := ⟨l[i], by simp [hlt]⟩
  have g1 := q0o hr
  have hwr := hw r (List.mem_of_getElem? hr)
  have c1 := ev_k118 r (by omega)
  have hst := fun h0 h1 => qf7 hr hI h0 h1
  have hbad : q2z r ≠ 0 → ¬ q3g l := fun h hf => h (hf.1 i r hr)
  generalize q2z r = v at c1 hst hbad
  (have hF := (aI @e1 @g1); refine q01 (k:=?_); clear hF)
  refine q00 [q3p r] (he := c1) (k:=?_)
  by_cases hv : v = 0
  ·rw [decide_eq_true hv]
   have hst := hst hv
   by_cases h0 : i = 0
   ·have hst := hst (fun q hq => by omega)
    subst h0
    (have hF := (aI @e1 @g1); refine q01 (k:=?_); clear hF)
    (refine Fin.nextW (0 + 1) ?_ (have hW := @q02; q0g); (try dsimp only))
    exact ⟨⟨hlt, hst⟩, by omega⟩
   ·obtain ⟨q, hq⟩ : ∃ q, l[i - 1]? = some q := ⟨l[i - 1]'(by omega), by simp [show i - 1 < l.length by omega]⟩
    have g2 := q0o hq
    have hpw : IntKind.i64.wrap ((i : Int) - 1) = ((i - 1 : Nat) : Int) := by rw [q2i (by omega)]; omega
    have hwq := hw q (List.mem_of_getElem? hq)
    have c2 := zma q.past r.past (by omega) (by omega)
    have hbad2 : ¬ q31 q r < 0 → ¬ q3g l := fun h hf => h (hf.2 (i - 1) q r hq (by rw [show i - 1 + 1 = i by omega]; exact hr))
    have hst : q31 q r < 0 → _ := fun h => hst (fun q' _ hq' => by rw [hq] at hq'; cases hq'; exact h)
    have h1 := qoq q.sku r.sku
    have hrg : q7k q.sku r.sku = -1 ∨ q7k q.sku r.sku = 0 ∨ q7k q.sku r.sku = 1 := qa6 _ _
    have h0 : (q.sku = r.sku) = (q7k q.sku r.sku = 0) := propext q4g.symm
    unfold q31 at hst hbad2
    generalize q7k q.sku r.sku = u at *
    rcases hrg with rfl | rfl | rfl
    ·rw [show decide ((-1 : Int) < 0) = true by decide] at h1
     rw [show ((-1 : Int) = 0) = False by simp] at h0
     have hst := hst (by simp)
     (have hF := (aI (aI @e1 (aI @g1 @g2)) (aI @hpw (aI @h1 @h0))); refine q01 (k:=?_); clear hF)
     (have hF := (aI (aI (aI @e1 @g1) (aI @g2 @hpw)) (aI (aI @h1 @h0) (aI @Bool.not_true (aI @Bool.true_or @decide_false)))); refine run2 (k:=?_); clear hF)
     (refine Fin.nextW (i + 1) ?_ (have hW := @q02; q0g); (try dsimp only))
     exact ⟨⟨hlt, hst⟩, by omega⟩
    ·rw [show decide ((0 : Int) < 0) = false by decide] at h1
     rw [show ((0 : Int) = 0) = True by simp] at h0
     simp only [if_true] at hst hbad2
     generalize zao q.past r.past = u at c2 hst hbad2
     (have hF := (aI (aI @e1 (aI @g1 @g2)) (aI @hpw (aI @h1 @h0))); refine q01 (k:=?_); clear hF)
     (have hF := (aI (aI (aI @e1 @g1) (aI @g2 (aI @hpw @h1))) (aI (aI @h0 @Bool.not_true) (aI @Bool.or_true (aI @Bool.false_or @decide_true)))); refine run2 (k:=?_); clear hF)
     refine q00 [q0f q.past, q0f r.past] (he := c2) (k:=?_)
     by_cases hu : u < 0
     ·have hst := hst hu
      (have hF := (aI @e1 @g1); refine q01 (k:=?_); clear hF)
      (refine Fin.nextW (i + 1) ?_ (have hW := @q02; q0g); (try dsimp only))
      exact ⟨⟨hlt, hst⟩, by omega⟩
     ·rw [q53 (hbad2 hu)]
      (have hF := (aI @e1 @g1); refine q01 (k:=?_); clear hF)
      exact Fin.tmp' rfl rfl
    ·rw [show decide ((1 : Int) < 0) = false by decide] at h1
     rw [show ((1 : Int) = 0) = False by simp] at h0
     rw [q53 (hbad2 (by simp))]
     (have hF := (aI (aI @e1 (aI @g1 @g2)) (aI @hpw (aI @h1 @h0))); refine q01 (k:=?_); clear hF)
     (have hF := (aI (aI (aI @e1 @g1) (aI @g2 @hpw)) (aI (aI @h1 @h0) (aI @Bool.not_false (aI @Bool.or_false @decide_false)))); refine run2 (k:=?_); clear hF)
     exact Fin.tmp' rfl rfl
  ·rw [decide_eq_false hv, q53 (hbad hv)]
   (have hF := (aI @e1 @g1); refine q01 (k:=?_); clear hF)
   exact Fin.tmp' rfl rfl
 ·rw [q2g ⟨fun j q hq => hI.1 j q (by
   rcases Nat.lt_or_ge j l.length with h | h
   ·omega
   ·rw [List.getElem?_eq_none h] at hq; cases hq) hq, fun j a b ha hb => hI.2 j a b (by
   rcases Nat.lt_or_ge (j + 1) l.length with h | h
   ·omega
   ·rw [List.getElem?_eq_none h] at hb; cases hb) ha hb⟩]
  (have hF := @e1; refine q01 (k:=?_); clear hF)
  exact Fin.tmp' rfl rfl
def q4u (ds : List Rn) : List Sn := ds.map fun d => (d.1, d.2, d.2)
theorem qpn {ds : List Rn} {i : Nat} {d : Rn} (h : ds[i]? = some d) : q4u (ds.take (i + 1)) = q4u (ds.take i) ++ [(d.1, d.2, d.2)] := by
 unfold q4u
 rw [List.take_add_one, h, List.map_append]
 rfl
theorem z8x (ds : List Rn) : q16 ⟨[], q4u ds⟩ = ofP ds := by
 refine (q9q _).ext (canP_of2 ds) fun r hr n => ?_
 rw [qgh _ hr, zkk ds hr]
 unfold inP q4u
 constructor
 ·rintro ⟨_, h1, h2, h3⟩
  refine ⟨h1, h2, ?_⟩
  rcases h3 with ⟨h3, _⟩ | ⟨s, hs, a1, a2, a3⟩
  ·simp at h3
  ·obtain ⟨d, hd, rfl⟩ := List.mem_map.1 hs
   simp only at a1 a2 a3
   have : d = ((r : Int), n) := by
    cases d with
    | mk x y => simp only at a1 a2 a3; rw [a1, show y = n by omega]
   rw [← this]
   exact hd
 ·rintro ⟨h1, h2, h3⟩
  exact ⟨hr, h1, h2, .inr ⟨((r : Int), n, n), List.mem_map.2 ⟨_, h3, rfl⟩, rfl, Int.le_refl _, Int.le_refl _⟩⟩
theorem ev_k121 (ds : List Rn) (hl : ds.length ≤ 10000000) : Ev (En Tryz.prog rfl).P 121 [.sl 2 (q06 ds)] (.ret (q0f (ofP ds))) := by
 refine Ev.of_body it_k121 (by simp) (Run.start ?_)
 unfold t_k121
 have e1 := q0u ds
 have hS := q9v
 (have hF := @e1; refine q01 (k:=?_); clear hF)
 refine Run.wk (Wk.own_cells (k := 3) (cs' := [.own 1 [], .own 3 []]) rfl rfl ?_) ?_
 ·intro i x y hx hy
  match i with
  | 0 => simp at hx hy; subst hx; subst hy; exact .inr ⟨rfl, 1, rfl⟩
  | 1 => simp at hx hy; subst hx; subst hy; exact .inr ⟨rfl, 3, rfl⟩
  | i + 2 => simp at hx
 refine Run.while (σ := Nat) (fun i => ⟨tms [(0, .sl 2 (q06 ds)), (2, .ptr 2 0), (3, .ptr 3 0), (4, .int .i64 (i : Int))], mms [(2, .cells [.nil, .nil]), (3, .cells [.own 1 [], .own 3 (q0d (q4u (ds.take i)))])]⟩)
  (fun i => i ≤ ds.length) (fun i => ds.length - i) 0 (have hW := @q08; q0g) (Nat.zero_le _) ?_
 intro i hi
 unfold qiq
 by_cases hlt : i < ds.length
 ·obtain ⟨d, hd⟩ : ∃ d, ds[i]? = some d := ⟨ds[i], by simp [hlt]⟩
  have g1 : (q06 ds)[i]? = some (.agg [.int .i64 d.1, .int .i64 d.2]) := q39 hd
  have hst := qpn hd
  have hle : (q4u (ds.take i)).length ≤ ds.length := by unfold q4u; rw [List.length_map, List.length_take]; omega
  generalize q4u (ds.take i) = sp at *
  have e2 := q1e sp
  (have hF := (aI @e1 (aI @e2 @g1)); refine q01 (k:=?_); clear hF)
  (have hF := (aI @e1 (aI @e2 @g1)); refine run2 (k:=?_); clear hF)
  (refine Fin.nextW (i + 1) ?_ (have hW := (aI @q08 (aI @hst @q7u)); q0g); (try dsimp only))
  omega
 ·rw [List.take_of_length_le (show ds.length ≤ i by omega)]
  have hsl : (q4u ds).length = ds.length := by simp [q4u]
  have c1 := qh4 ⟨[], q4u ds⟩ (by show 0 + (q4u ds).length ≤ _; omega)
  rw [z8x] at c1
  refine Run.wk (Wk.freeze (k := 3) (cs := [.own 1 [], .own 3 (q0d (q4u ds))]) rfl) ?_
  (have hF := @e1; refine q01 (k:=?_); clear hF)
  refine q00 [q0f ⟨[], q4u ds⟩] (he := c1) (k:=?_)
  unfold q0f
  (have hF := @e1; refine q01 (k:=?_); clear hF)
  exact Fin.all (xs := [q0f (ofP ds)]) (by with_unfolding_all rfl) (by simp [q0k, q13]) rfl

def zht : List SOp := [⟨some 1,.box 29 (.tmp 0),none⟩,⟨some 2,.alloc 31,none⟩]
instance : Live zht := ⟨[0]⟩
def zhs : List SOp := [⟨some 4,.load 29 (.tmp 1),none⟩,⟨some 5,.call ⟨.value (.func 81),#[.tmp 4],#[29]⟩,none⟩,⟨some 3,.alloc 26,none⟩,⟨none,.store 26 (.tmp 3) (.tmp 5),none⟩]
instance : Live zhs := ⟨[1,2]⟩
def zhr : List SOp := [⟨some 6,.load 29 (.tmp 1),none⟩,⟨some 7,.call ⟨.value (.func 82),#[.tmp 6],#[29]⟩,none⟩,⟨some 8,.load 26 (.tmp 3),none⟩,⟨some 9,.fieldAddr 29 (.tmp 1) 2,none⟩,⟨some 10,.load 27 (.tmp 9),none⟩,⟨some 11,.load 26 (.tmp 3),none⟩,⟨some 12,.call ⟨.value (.func 83),#[.tmp 10,.tmp 11],#[27,26]⟩,none⟩,⟨some 13,.build 31 #[(0,.tmp 7),(1,.tmp 8),(2,.tmp 12)],none⟩,⟨none,.store 31 (.tmp 2) (.tmp 13),none⟩]
instance : Live zhr := ⟨[1,2,3]⟩
def t_k37 : SC :=
 (.seq (.ops false zht) (.seq (.ops false zhs) (.seq (.ops true zhr) .ret)))
theorem it_k37 : FnIs Tryz.prog 37 14 [.cell 2 31] t_k37 := ⟨Tryz.f37, _, Tryz.func37, rfl, rfl, rfl, rfl, by kernel_rfl⟩


def zd7 : List SOp := [⟨some 1,.box 29 (.tmp 0),none⟩,⟨some 2,.alloc 26,none⟩]
instance : Live zd7 := ⟨[0]⟩
def zd6 : List SOp := [⟨some 3,.fieldAddr 29 (.tmp 1) 0,none⟩,⟨some 4,.load 22 (.tmp 3),none⟩,⟨some 5,.call ⟨.value (.func 71),#[.tmp 4,.const (.string ⟨#[]⟩),.const (.int .i64 (-1))],#[22,9,3]⟩,none⟩,⟨some 6,.fieldAddr 29 (.tmp 1) 1,none⟩,⟨some 7,.load 26 (.tmp 6),none⟩,⟨some 8,.buildSlice 116 2 #[(0,.tmp 5),(1,.tmp 7)],none⟩,⟨some 9,.call ⟨.value (.func 79),#[.tmp 8],#[116]⟩,none⟩,⟨none,.store 26 (.tmp 2) (.tmp 9),none⟩]
instance : Live zd6 := ⟨[1,2]⟩
def t_k81 : SC :=
 (.seq (.ops false zd7) (.seq (.ops true zd6) .ret))
theorem it_k81 : FnIs Tryz.prog 81 10 [.cell 2 26] t_k81 := ⟨Tryz.f81, _, Tryz.func81, rfl, rfl, rfl, rfl, by kernel_rfl⟩

def zd5 : List SOp := [⟨some 1,.box 29 (.tmp 0),none⟩,⟨some 2,.assign (.const (.slice none 0 0)),none⟩]
instance : Live zd5 := ⟨[0]⟩
def zd4 : List SOp := [⟨some 3,.assign (.const (.slice none 0 0)),none⟩]
instance : Live zd4 := ⟨[1]⟩
def zd3 : List SOp := [⟨some 4,.assign (.const (.int .i64 0)),none⟩]
instance : Live zd3 := ⟨[1,3]⟩
def zd2 : List SOp := [⟨some 7,.move (.tmp 4),none⟩,⟨some 8,.fieldAddr 29 (.tmp 1) 0,none⟩,⟨some 9,.load 22 (.tmp 8),none⟩,⟨some 10,.call ⟨.builtin .len,#[.tmp 9],#[22]⟩,none⟩,⟨some 11,.binOp .lss 3 (.tmp 7) (.tmp 10) 3,none⟩]
instance : Live zd2 := ⟨[1,3,4]⟩
def zd1 : List SOp := [⟨some 14,.fieldAddr 29 (.tmp 1) 1,none⟩,⟨some 15,.load 26 (.tmp 14),none⟩,⟨some 16,.fieldAddr 29 (.tmp 1) 0,none⟩,⟨some 17,.load 22 (.tmp 16),none⟩,⟨some 18,.move (.tmp 4),none⟩,⟨some 19,.indexAddr 22 (.tmp 17) (.tmp 18),none⟩,⟨some 20,.fieldAddr 62 (.tmp 19) 0,none⟩,⟨some 21,.load 41 (.tmp 20),none⟩,⟨some 22,.call ⟨.value (.func 62),#[.tmp 15,.tmp 21],#[26,41]⟩,none⟩,⟨some 23,.unOp .not 4 (.tmp 22),none⟩,⟨some 5,.assign (.tmp 23),none⟩]
instance : Live zd1 := ⟨[1,3,4]⟩
def zd0 : List SOp := [⟨some 6,.assign (.const (.int .i64 0)),none⟩]
instance : Live zd0 := ⟨[1,3,4,5]⟩
def zcz : List SOp := [⟨some 24,.move (.tmp 6),none⟩,⟨some 25,.fieldAddr 29 (.tmp 1) 2,none⟩,⟨some 26,.load 27 (.tmp 25),none⟩,⟨some 27,.call ⟨.builtin .len,#[.tmp 26],#[27]⟩,none⟩,⟨some 28,.binOp .lss 3 (.tmp 24) (.tmp 27) 3,none⟩]
instance : Live zcz := ⟨[1,3,4,5,6]⟩
def zcy : List SOp := [⟨some 31,.move (.tmp 5),none⟩,⟨some 32,.move (.tmp 31),none⟩,⟨some 33,.fieldAddr 29 (.tmp 1) 2,some ((some 32),true)⟩,⟨some 34,.load 27 (.tmp 33),some ((some 32),true)⟩,⟨some 35,.move (.tmp 6),some ((some 32),true)⟩,⟨some 36,.indexAddr 27 (.tmp 34) (.tmp 35),some ((some 32),true)⟩,⟨some 37,.load 91 (.tmp 36),some ((some 32),true)⟩,⟨some 38,.fieldAddr 29 (.tmp 1) 0,some ((some 32),true)⟩,⟨some 39,.load 22 (.tmp 38),some ((some 32),true)⟩,⟨some 40,.move (.tmp 4),some ((some 32),true)⟩,⟨some 41,.indexAddr 22 (.tmp 39) (.tmp 40),some ((some 32),true)⟩,⟨some 42,.load 62 (.tmp 41),some ((some 32),true)⟩,⟨some 43,.call ⟨.value (.func 72),#[.tmp 37,.tmp 42],#[91,62]⟩,some ((some 32),true)⟩,⟨some 44,.unOp .not 4 (.tmp 43),some ((some 32),true)⟩,⟨some 45,.pick (.tmp 32) (.tmp 44) (.const (.bool false)),none⟩,⟨some 5,.assign (.tmp 45),none⟩]
instance : Live zcy := ⟨[1,3,4,5,6]⟩
def zcx : List SOp := [⟨some 29,.move (.tmp 6),none⟩,⟨some 30,.binOp .add 3 (.tmp 29) (.const (.int .i64 1)) 3,none⟩,⟨some 6,.assign (.tmp 30),none⟩]
instance : Live zcx := ⟨[1,3,4,5,6]⟩
def qso : List SOp := [⟨some 46,.move (.tmp 5),none⟩]
instance : Live qso := ⟨[1,3,4,5]⟩
def qsn : List SOp := [⟨some 47,.move (.tmp 3),none⟩,⟨some 48,.fieldAddr 29 (.tmp 1) 0,none⟩,⟨some 49,.load 22 (.tmp 48),none⟩,⟨some 50,.move (.tmp 4),none⟩,⟨some 51,.indexAddr 22 (.tmp 49) (.tmp 50),none⟩,⟨some 52,.load 62 (.tmp 51),none⟩,⟨some 53,.buildSlice 22 1 #[(0,.tmp 52)],none⟩,⟨some 54,.call ⟨.builtin .append,#[.tmp 47,.tmp 53],#[22,22]⟩,none⟩,⟨some 3,.assign (.tmp 54),none⟩]
instance : Live qsn := ⟨[1,3,4]⟩
def qsm : List SOp := [⟨some 12,.move (.tmp 4),none⟩,⟨some 13,.binOp .add 3 (.tmp 12) (.const (.int .i64 1)) 3,none⟩,⟨some 4,.assign (.tmp 13),none⟩]
instance : Live qsm := ⟨[1,3,4]⟩
def qsl : List SOp := [⟨some 55,.move (.tmp 3),none⟩,⟨some 2,.assign (.tmp 55),none⟩]
instance : Live qsl := ⟨[3]⟩
def qrc : SC :=
 (.seq (.seq (.ops false zcz) (.cond (.tmp 28) .skip (.exit 2))) (.seq (.block 3 (.ops true zcy)) (.ops false zcx)))
def qrd : SC :=
 (.seq (.seq (.ops false zd2) (.cond (.tmp 11) .skip (.exit 0))) (.seq (.block 1 (.seq (.ops true zd1) (.seq (.seq (.ops false zd0) (.block 2 (.loop qrc))) (.seq (.ops false qso) (.cond (.tmp 46) (.ops false qsn) .skip))))) (.ops false qsm)))
def t_k82 : SC :=
 (.seq (.ops false zd5) (.seq (.ops false zd4) (.seq (.seq (.ops false zd3) (.block 0 (.loop qrd))) (.seq (.ops false qsl) .ret))))
theorem it_k82 : FnIs Tryz.prog 82 56 [.tmp 2] t_k82 := ⟨Tryz.f82, _, Tryz.func82, rfl, rfl, rfl, rfl, by kernel_rfl⟩

def zcw : List SOp := [⟨some 3,.box 26 (.tmp 1),none⟩,⟨some 4,.assign (.const (.slice none 0 0)),none⟩]
instance : Live zcw := ⟨[0,1]⟩
def zcv : List SOp := [⟨some 5,.assign (.const (.slice none 0 0)),none⟩]
instance : Live zcv := ⟨[0,3]⟩
def zcu : List SOp := [⟨some 6,.assign (.const (.int .i64 0)),none⟩]
instance : Live zcu := ⟨[0,3,5]⟩
def zct : List SOp := [⟨some 7,.move (.tmp 6),none⟩,⟨some 8,.move (.tmp 0),none⟩,⟨some 9,.call ⟨.builtin .len,#[.tmp 8],#[27]⟩,none⟩,⟨some 10,.binOp .lss 3 (.tmp 7) (.tmp 9) 3,none⟩]
instance : Live zct := ⟨[0,3,5,6]⟩
def zcs : List SOp := [⟨some 13,.move (.tmp 0),none⟩,⟨some 14,.move (.tmp 6),none⟩,⟨some 15,.indexAddr 27 (.tmp 13) (.tmp 14),none⟩,⟨some 16,.fieldAddr 91 (.tmp 15) 1,none⟩,⟨some 17,.load 26 (.tmp 16),none⟩,⟨some 18,.load 26 (.tmp 3),none⟩,⟨some 19,.call ⟨.value (.func 70),#[.tmp 17,.tmp 18],#[26,26]⟩,none⟩,⟨some 20,.unOp .not 4 (.tmp 19),none⟩]
instance : Live zcs := ⟨[0,3,5,6]⟩
def zcr : List SOp := [⟨some 21,.move (.tmp 5),none⟩,⟨some 22,.move (.tmp 0),none⟩,⟨some 23,.move (.tmp 6),none⟩,⟨some 24,.indexAddr 27 (.tmp 22) (.tmp 23),none⟩,⟨some 25,.load 91 (.tmp 24),none⟩,⟨some 26,.buildSlice 27 1 #[(0,.tmp 25)],none⟩,⟨some 27,.call ⟨.builtin .append,#[.tmp 21,.tmp 26],#[27,27]⟩,none⟩,⟨some 5,.assign (.tmp 27),none⟩]
instance : Live zcr := ⟨[0,3,5,6]⟩
def zcq : List SOp := [⟨some 11,.move (.tmp 6),none⟩,⟨some 12,.binOp .add 3 (.tmp 11) (.const (.int .i64 1)) 3,none⟩,⟨some 6,.assign (.tmp 12),none⟩]
instance : Live zcq := ⟨[0,3,5,6]⟩
def zcp : List SOp := [⟨some 28,.move (.tmp 5),none⟩,⟨some 4,.assign (.tmp 28),none⟩]
instance : Live zcp := ⟨[5]⟩
def qrb : SC :=
 (.seq (.seq (.ops false zct) (.cond (.tmp 10) .skip (.exit 0))) (.seq (.block 1 (.seq (.ops true zcs) (.cond (.tmp 20) (.ops false zcr) .skip))) (.ops false zcq)))
def t_k83 : SC :=
 (.seq (.ops false zcw) (.seq (.ops false zcv) (.seq (.seq (.ops false zcu) (.block 0 (.loop qrb))) (.seq (.ops false zcp) .ret))))
theorem it_k83 : FnIs Tryz.prog 83 29 [.tmp 4] t_k83 := ⟨Tryz.f83, _, Tryz.func83, rfl, rfl, rfl, rfl, by kernel_rfl⟩

def zk1 : List SOp := [⟨some 2,.box 31 (.tmp 0),none⟩,⟨some 3,.box 31 (.tmp 1),none⟩,⟨some 4,.assign (.const (.bool false)),none⟩]
instance : Live zk1 := ⟨[0,1]⟩
def zk0 : List SOp := [⟨some 7,.fieldAddr 31 (.tmp 2) 0,none⟩,⟨some 8,.load 22 (.tmp 7),none⟩,⟨some 9,.call ⟨.builtin .len,#[.tmp 8],#[22]⟩,none⟩,⟨some 10,.fieldAddr 31 (.tmp 3) 0,none⟩,⟨some 11,.load 22 (.tmp 10),none⟩,⟨some 12,.call ⟨.builtin .len,#[.tmp 11],#[22]⟩,none⟩,⟨some 13,.binOp .neq 3 (.tmp 9) (.tmp 12) 3,none⟩,⟨some 14,.move (.tmp 13),none⟩,⟨some 15,.fieldAddr 31 (.tmp 2) 1,some ((some 14),false)⟩,⟨some 16,.load 26 (.tmp 15),some ((some 14),false)⟩,⟨some 17,.fieldAddr 31 (.tmp 3) 1,some ((some 14),false)⟩,⟨some 18,.load 26 (.tmp 17),some ((some 14),false)⟩,⟨some 19,.call ⟨.value (.func 50),#[.tmp 16,.tmp 18],#[26,26]⟩,some ((some 14),false)⟩,⟨some 20,.unOp .not 4 (.tmp 19),some ((some 14),false)⟩,⟨some 21,.pick (.tmp 14) (.const (.bool true)) (.tmp 20),none⟩,⟨some 22,.move (.tmp 21),none⟩,⟨some 23,.fieldAddr 31 (.tmp 2) 2,some ((some 22),false)⟩,⟨some 24,.load 27 (.tmp 23),some ((some 22),false)⟩,⟨some 25,.call ⟨.builtin .len,#[.tmp 24],#[27]⟩,some ((some 22),false)⟩,⟨some 26,.fieldAddr 31 (.tmp 3) 2,some ((some 22),false)⟩,⟨some 27,.load 27 (.tmp 26),some ((some 22),false)⟩,⟨some 28,.call ⟨.builtin .len,#[.tmp 27],#[27]⟩,some ((some 22),false)⟩,⟨some 29,.binOp .neq 3 (.tmp 25) (.tmp 28) 3,some ((some 22),false)⟩,⟨some 30,.pick (.tmp 22) (.const (.bool true)) (.tmp 29),none⟩]
instance : Live zk0 := ⟨[2,3]⟩
def zjz : List SOp := [⟨some 4,.assign (.const (.bool false)),none⟩]
instance : Live zjz := ⟨[]⟩
def zjy : List SOp := [⟨some 5,.assign (.const (.int .i64 0)),none⟩]
instance : Live zjy := ⟨[2,3]⟩
def zjx : List SOp := [⟨some 31,.move (.tmp 5),none⟩,⟨some 32,.fieldAddr 31 (.tmp 2) 0,none⟩,⟨some 33,.load 22 (.tmp 32),none⟩,⟨some 34,.call ⟨.builtin .len,#[.tmp 33],#[22]⟩,none⟩,⟨some 35,.binOp .lss 3 (.tmp 31) (.tmp 34) 3,none⟩]
instance : Live zjx := ⟨[2,3,5]⟩
def zjw : List SOp := [⟨some 38,.fieldAddr 31 (.tmp 2) 0,none⟩,⟨some 39,.load 22 (.tmp 38),none⟩,⟨some 40,.move (.tmp 5),none⟩,⟨some 41,.indexAddr 22 (.tmp 39) (.tmp 40),none⟩,⟨some 42,.load 62 (.tmp 41),none⟩,⟨some 43,.fieldAddr 31 (.tmp 3) 0,none⟩,⟨some 44,.load 22 (.tmp 43),none⟩,⟨some 45,.move (.tmp 5),none⟩,⟨some 46,.indexAddr 22 (.tmp 44) (.tmp 45),none⟩,⟨some 47,.load 62 (.tmp 46),none⟩,⟨some 48,.binOp .neq 62 (.tmp 42) (.tmp 47) 62,none⟩]
instance : Live zjw := ⟨[2,3,5]⟩
def zjv : List SOp := [⟨some 4,.assign (.const (.bool false)),none⟩]
instance : Live zjv := ⟨[]⟩
def zju : List SOp := [⟨some 36,.move (.tmp 5),none⟩,⟨some 37,.binOp .add 3 (.tmp 36) (.const (.int .i64 1)) 3,none⟩,⟨some 5,.assign (.tmp 37),none⟩]
instance : Live zju := ⟨[2,3,5]⟩
def zjt : List SOp := [⟨some 6,.assign (.const (.int .i64 0)),none⟩]
instance : Live zjt := ⟨[2,3]⟩
def qxt : List SOp := [⟨some 49,.move (.tmp 6),none⟩,⟨some 50,.fieldAddr 31 (.tmp 2) 2,none⟩,⟨some 51,.load 27 (.tmp 50),none⟩,⟨some 52,.call ⟨.builtin .len,#[.tmp 51],#[27]⟩,none⟩,⟨some 53,.binOp .lss 3 (.tmp 49) (.tmp 52) 3,none⟩]
instance : Live qxt := ⟨[2,3,6]⟩
def qxs : List SOp := [⟨some 56,.fieldAddr 31 (.tmp 2) 2,none⟩,⟨some 57,.load 27 (.tmp 56),none⟩,⟨some 58,.move (.tmp 6),none⟩,⟨some 59,.indexAddr 27 (.tmp 57) (.tmp 58),none⟩,⟨some 60,.fieldAddr 91 (.tmp 59) 0,none⟩,⟨some 61,.load 9 (.tmp 60),none⟩,⟨some 62,.fieldAddr 31 (.tmp 3) 2,none⟩,⟨some 63,.load 27 (.tmp 62),none⟩,⟨some 64,.move (.tmp 6),none⟩,⟨some 65,.indexAddr 27 (.tmp 63) (.tmp 64),none⟩,⟨some 66,.fieldAddr 91 (.tmp 65) 0,none⟩,⟨some 67,.load 9 (.tmp 66),none⟩,⟨some 68,.binOp .neq 9 (.tmp 61) (.tmp 67) 9,none⟩,⟨some 69,.move (.tmp 68),none⟩,⟨some 70,.fieldAddr 31 (.tmp 2) 2,some ((some 69),false)⟩,⟨some 71,.load 27 (.tmp 70),some ((some 69),false)⟩,⟨some 72,.move (.tmp 6),some ((some 69),false)⟩,⟨some 73,.indexAddr 27 (.tmp 71) (.tmp 72),some ((some 69),false)⟩,⟨some 74,.fieldAddr 91 (.tmp 73) 1,some ((some 69),false)⟩,⟨some 75,.load 26 (.tmp 74),some ((some 69),false)⟩,⟨some 76,.fieldAddr 31 (.tmp 3) 2,some ((some 69),false)⟩,⟨some 77,.load 27 (.tmp 76),some ((some 69),false)⟩,⟨some 78,.move (.tmp 6),some ((some 69),false)⟩,⟨some 79,.indexAddr 27 (.tmp 77) (.tmp 78),some ((some 69),false)⟩,⟨some 80,.fieldAddr 91 (.tmp 79) 1,some ((some 69),false)⟩,⟨some 81,.load 26 (.tmp 80),some ((some 69),false)⟩,⟨some 82,.call ⟨.value (.func 50),#[.tmp 75,.tmp 81],#[26,26]⟩,some ((some 69),false)⟩,⟨some 83,.unOp .not 4 (.tmp 82),some ((some 69),false)⟩,⟨some 84,.pick (.tmp 69) (.const (.bool true)) (.tmp 83),none⟩]
instance : Live qxs := ⟨[2,3,6]⟩
def qxr : List SOp := [⟨some 4,.assign (.const (.bool false)),none⟩]
instance : Live qxr := ⟨[]⟩
def qxq : List SOp := [⟨some 54,.move (.tmp 6),none⟩,⟨some 55,.binOp .add 3 (.tmp 54) (.const (.int .i64 1)) 3,none⟩,⟨some 6,.assign (.tmp 55),none⟩]
instance : Live qxq := ⟨[2,3,6]⟩
def qxp : List SOp := [⟨some 4,.assign (.const (.bool true)),none⟩]
instance : Live qxp := ⟨[]⟩
def qrv : SC :=
 (.seq (.seq (.ops false zjx) (.cond (.tmp 35) .skip (.exit 0))) (.seq (.block 1 (.seq (.ops true zjw) (.cond (.tmp 48) (.seq (.ops false zjv) .ret) .skip))) (.ops false zju)))
def qru : SC :=
 (.seq (.seq (.ops false qxt) (.cond (.tmp 53) .skip (.exit 2))) (.seq (.block 3 (.seq (.ops true qxs) (.cond (.tmp 84) (.seq (.ops false qxr) .ret) .skip))) (.ops false qxq)))
def t_k15 : SC :=
 (.seq (.ops false zk1) (.seq (.seq (.ops false zk0) (.cond (.tmp 30) (.seq (.ops false zjz) .ret) .skip)) (.seq (.seq (.ops false zjy) (.block 0 (.loop qrv))) (.seq (.seq (.ops false zjt) (.block 2 (.loop qru))) (.seq (.ops false qxp) .ret)))))
theorem it_k15 : FnIs Tryz.prog 15 85 [.tmp 4] t_k15 := ⟨Tryz.f15, _, Tryz.func15, rfl, rfl, rfl, rfl, by kernel_rfl⟩

theorem zlu (l : List Ent) (hl : l.length ≤ 10000000) : Ev (En Tryz.prog rfl).P 71 [.sl 4 (q0b l), .str ⟨#[]⟩, .int .i64 (-1)] (.ret (q0f (q3w l))) := by
 refine Ev.of_body it_k71 (by simp) (Run.start ?_)
 unfold t_k71
 have e1 := q0n l
 have hS := q9v
 (have hF := @e1; refine q01 (k:=?_); clear hF)
 refine Run.wk (Wk.own_nil 7 47 2 rfl rfl) ?_
 refine Run.while (σ := Nat) (fun i => ⟨tms [(0, .sl 4 (q0b l)), (1, .str ⟨#[]⟩), (2, .int .i64 (-1)), (6, .ptr 6 0), (7, .os 47 i), (8, .int .i64 (i : Int))], mms [(6, .cells [.nil, .nil]), (47, .arr i 2 (q06 ((l.take i).map Ent.dot)))]⟩)
  (fun i => i ≤ l.length) (fun i => l.length - i) 0 (have hW := (aI @q07 @q08); q0g) (Nat.zero_le _) ?_
 intro i hi
 unfold qrg
 by_cases hlt : i < l.length
 ·obtain ⟨e, he⟩ : ∃ e, l[i]? = some e := ⟨l[i], by simp [hlt]⟩
  have g1 := q0w he
  have hst : (l.take (i + 1)).map Ent.dot = (l.take i).map Ent.dot ++ [(e.rep, e.num)] := by rw [List.take_add_one, he, List.map_append]; rfl
  have hlen : ((l.take i).map Ent.dot).length ≤ l.length := by rw [List.length_map, List.length_take]; omega
  generalize (l.take i).map Ent.dot = ds at *
  have e2 := q0u ds
  have hs0 : ((⟨#[]⟩ : ByteArray) = ⟨#[]⟩) = True := by simp
  (have hF := (aI (aI @e1 @e2) (aI @g1 (aI @hs0 @decide_true))); refine q01 (k:=?_); clear hF)
  (refine Fin.nextW (i + 1) ?_ (have hW := (aI (aI @q07 @q08) (aI @hst @q69)); q0g); (try dsimp only))
  omega
 ·rw [List.take_of_length_le (show l.length ≤ i by omega)]
  have hll : (l.map Ent.dot).length = l.length := by simp
  have c1 := ev_k121 (l.map Ent.dot) (by omega)
  (have hF := @e1; refine q01 (k:=?_); clear hF)
  refine qry (fun j => j == 47) [.sl 2 (q06 (l.map Ent.dot))] (he := c1) (k:=?_)
  (have hF := @e1; refine q01 (k:=?_); clear hF)
  exact Fin.all (xs := [q0f (q3w l)]) (by with_unfolding_all rfl) (by simp [q0k, q13]) rfl
theorem ev_k81 (f : Fct) (hw : wtF f ≤ 5000000) : Ev (En Tryz.prog rfl).P 81 [qeg f] (.ret (q0f (q9i f))) := by
 refine Ev.of_body it_k81 (by simp) (Run.start ?_)
 unfold t_k81 qeg q9i
 obtain ⟨w1, w2, w3, w4, w5⟩ := q74 hw
 have hS := q9v
 have hcs := q61 f.adds f.gone.vec f.gone.cloud f.recs
 have c1 := zlu f.adds (by omega)
 have hdw := q7w f.adds
 have c2 := ev_k79 [q3w f.adds, f.gone] (show 2 ≤ 1000000000 by omega) (by simp only [List.map_cons, List.map_nil, List.sum_cons, List.sum_nil]; omega)
 generalize q1s [q3w f.adds, f.gone] = q at *
 generalize q3w f.adds = d at *
 (have hF := @hcs; refine q01 (k:=?_); clear hF)
 refine q00 [.sl 4 (q0b f.adds), .str ⟨#[]⟩, .int .i64 (-1)] (he := c1) (k:=?_)
 unfold q0f
 (have hF := @hcs; refine q01 (k:=?_); clear hF)
 refine q00 [.sl 2 (q1k [d, f.gone])] (he := c2) (k:=?_)
 unfold q0f
 (have hF := @hcs; refine q01 (k:=?_); clear hF)
 exact Fin.all (xs := [q0f q]) (by with_unfolding_all rfl) (by simp [q0k, q13]) rfl
theorem ev_k83 (l : List Rec) (p : Pst) (hl : l.length ≤ 1000000000) (hw : ∀ r ∈ l, wt r.past ≤ 10000000) (hp : wt p ≤ 10000000) :
 Ev (En Tryz.prog rfl).P 83 [.sl 3 (q09 l), q0f p] (.ret (.sl 3 (q09 (q18 l p)))) := by
 refine Ev.of_body it_k83 (by simp) (Run.start ?_)
 unfold t_k83 q0f
 have hS := q9v
 have e1 := q0h l
 (have hF := @e1; refine q01 (k:=?_); clear hF)
 refine Run.wk (Wk.own_nil 5 27 3 rfl rfl) ?_
 refine Run.while (σ := Nat) (fun i => ⟨tms [(0, .sl 3 (q09 l)), (3, .ptr 3 0), (5, .os 27 (q18 (l.take i) p).length), (6, .int .i64 (i : Int))], mms [(3, .cells [.sl 1 (q05 p.vec), .sl 3 (q0d p.cloud)]), (27, .arr (q18 (l.take i) p).length 3 (q09 (q18 (l.take i) p)))]⟩)
  (fun i => i ≤ l.length) (fun i => l.length - i) 0 (have hW := @q02; q0g) (Nat.zero_le _) ?_
 intro i hi
 unfold qrb
 by_cases hlt : i < l.length
 ·obtain ⟨r, hr⟩ : ∃ r, l[i]? = some r := ⟨l[i], by simp [hlt]⟩
  have g1 := q0o hr
  have hst := qbq (p := p) hr
  have hle := qem (l.take i) p
  have hle2 : (l.take i).length ≤ l.length := by rw [List.length_take]; omega
  generalize q18 (l.take i) p = out at hst hle ⊢
  have e2 := q0h out
  have hwr := hw r (List.mem_of_getElem? hr)
  have c3 := zlv r.past p (by omega) (by omega)
  (have hF := (aI @e1 (aI @e2 @g1)); refine q01 (k:=?_); clear hF)
  refine q00 [q0f r.past, q0f p] (he := c3) (k:=?_)
  by_cases hwi : q14 r.past p = true
  ·rw [if_pos hwi, List.append_nil] at hst
   rw [hwi]
   (have hF := (aI @e1 (aI @e2 @g1)); refine q01 (k:=?_); clear hF)
   (refine Fin.nextW (i + 1) ?_ (have hW := (aI @q02 @hst); q0g); (try dsimp only))
   omega
  ·rw [if_neg hwi] at hst
   rw [show q14 r.past p = false by simpa using hwi]
   (have hF := (aI @e1 (aI @e2 @g1)); refine q01 (k:=?_); clear hF)
   (refine Fin.nextW (i + 1) ?_ (have hW := (aI @q02 (aI @hst @q2h)); q0g); (try dsimp only))
   omega
 ·rw [List.take_of_length_le (show l.length ≤ i by omega)]
  (have hF := @e1; refine q01 (k:=?_); clear hF)
  exact Fin.tmp' (by simp [fz, fzc, q4i, upd, tms, mms]) (q02 _)
theorem ev_k72 (r : Rec) (e : Ent) (hw : wt r.past ≤ 900000000) : Ev (En Tryz.prog rfl).P 72 [q3p r, qb1 e] (.ret (.bool (qb2 r e))) := by
 refine Ev.of_body it_k72 (by simp) (Run.start ?_)
 unfold t_k72 q3p qb1 qb2
 have es := q8j r.sku
 have c1 := ev_k62 r.past e.dot hw
 generalize q2q r.past e.dot = v at c1 ⊢
 by_cases h0 : r.sku.size = 0
 ·rw [decide_eq_true h0, Bool.true_or, Bool.true_and]
  rw [eq_true h0] at es
  (have hF := @es; refine q01 (k:=?_); clear hF)
  refine q00 [q0f r.past, q3v e.dot] (he := c1) (k:=?_)
  (have hF := True.intro; refine q01 (k:=?_); clear hF)
  exact Fin.tmp' rfl rfl
 ·rw [decide_eq_false h0, Bool.false_or]
  rw [eq_false h0] at es
  by_cases h1 : r.sku = e.sku
  ·rw [decide_eq_true h1, Bool.true_and]
   have es2 := es
   rw [h1] at es2
   (have hF := (aI @es (aI @h1 @es2)); refine q01 (k:=?_); clear hF)
   refine q00 [q0f r.past, q3v e.dot] (he := c1) (k:=?_)
   (have hF := True.intro; refine q01 (k:=?_); clear hF)
   exact Fin.tmp' rfl rfl
  ·rw [decide_eq_false h1, Bool.false_and]
   (have hF := (aI @es @h1); refine q01 (k:=?_); clear hF)
   exact Fin.tmp' rfl rfl
def qeb (p : Pst) (rs : List Rec) (e : Ent) (j : Nat) : Bool := !q2q p e.dot && decide (q5g (rs.take j) e = 0)
theorem z95 (p : Pst) (rs : List Rec) (e : Ent) : qeb p rs e 0 = !q2q p e.dot := by simp [qeb, q5g]
theorem z96 {p : Pst} {rs : List Rec} {e : Ent} {j : Nat} {r : Rec} (h : rs[j]? = some r) : qeb p rs e (j + 1) = (qeb p rs e j && !qb2 r e) := by
 unfold qeb
 rw [qfn h]
 cases q2q p e.dot <;> cases qb2 r e <;> by_cases hz : q5g (rs.take j) e = 0 <;> simp [hz]
theorem z94 {l : List Ent} {p : Pst} {rs : List Rec} {i : Nat} {e : Ent} (h : l[i]? = some e) : qa4 (l.take (i + 1)) p rs = qa4 (l.take i) p rs ++ if qeb p rs e rs.length = true then [e] else [] := by
 unfold qa4 qeb
 rw [List.take_add_one, h, List.filter_append, List.take_length]
 cases hb : (!q2q p e.dot && decide (q5g rs e = 0)) <;> simp [hb]
theorem zkv (l : List Ent) (p : Pst) (rs : List Rec) : (qa4 l p rs).length ≤ l.length := List.length_filter_le _ _
theorem ev_k82 (f : Fct) (hw : wtF f ≤ 5000000) : Ev (En Tryz.prog rfl).P 82 [qeg f] (.ret (.sl 4 (q0b (qa4 f.adds f.gone f.recs)))) := by
 refine Ev.of_body it_k82 (by simp) (Run.start ?_)
 unfold t_k82 qeg
 obtain ⟨w1, w2, w3, w4, w5⟩ := q74 hw
 have hS := q9v
 have hcs := q61 f.adds f.gone.vec f.gone.cloud f.recs
 have e1 := q0n f.adds
 have e2 := q0h f.recs
 (have hF := (aI @hcs (aI @e1 @e2)); refine q01 (k:=?_); clear hF)
 refine Run.wk (Wk.own_nil 3 54 4 rfl rfl) ?_
 refine Run.while (σ := Nat) (fun i => ⟨tms [(1, .ptr 1 0), (3, .os 54 (qa4 (f.adds.take i) f.gone f.recs).length), (4, .int .i64 (i : Int))], mms [(1, .cells [.sl 4 (q0b f.adds), .sl 1 (q05 f.gone.vec), .sl 3 (q0d f.gone.cloud), .sl 3 (q09 f.recs)]), (54, .arr (qa4 (f.adds.take i) f.gone f.recs).length 4 (q0b (qa4 (f.adds.take i) f.gone f.recs)))]⟩)
  (fun i => i ≤ f.adds.length) (fun i => f.adds.length - i) 0 (have hW := (aI @q02 @q07); q0g) (Nat.zero_le _) ?_
 intro i hi
 unfold qrd
 by_cases hlt : i < f.adds.length
 ·obtain ⟨e, he⟩ : ∃ e, f.adds[i]? = some e := ⟨f.adds[i], by simp [hlt]⟩
  have g1 := q0w he
  have hst := z94 (p := f.gone) (rs := f.recs) he
  have hle := zkv (f.adds.take i) f.gone f.recs
  have hle2 : (f.adds.take i).length ≤ f.adds.length := by rw [List.length_take]; omega
  generalize qa4 (f.adds.take i) f.gone f.recs = out at hst hle ⊢
  have e3 := q0n out
  have c1 := ev_k62 f.gone e.dot (by omega)
  have hz := z95 f.gone f.recs e
  (have hF := (aI (aI @hcs @e1) (aI @e2 (aI @e3 @g1))); refine q01 (k:=?_); clear hF)
  refine q00 [q0f f.gone, q3v e.dot] (he := c1) (k:=?_)
  (have hF := (aI (aI @hcs @e1) (aI @e2 (aI @e3 @g1))); refine q01 (k:=?_); clear hF)
  rw [← hz]
  refine Run.while (σ := Nat) (fun j => ⟨tms [(1, .ptr 1 0), (3, .os 54 out.length), (4, .int .i64 (i : Int)), (5, .bool (qeb f.gone f.recs e j)), (6, .int .i64 (j : Int))], mms [(1, .cells [.sl 4 (q0b f.adds), .sl 1 (q05 f.gone.vec), .sl 3 (q0d f.gone.cloud), .sl 3 (q09 f.recs)]), (54, .arr out.length 4 (q0b out))]⟩)
   (fun j => j ≤ f.recs.length) (fun j => f.recs.length - j) 0 (have hW := (aI @q02 @q07); q0g) (Nat.zero_le _) ?_
  intro j hj
  unfold qrc
  by_cases hjl : j < f.recs.length
  ·obtain ⟨r, hr⟩ : ∃ r, f.recs[j]? = some r := ⟨f.recs[j], by simp [hjl]⟩
   have g2 := q0o hr
   have hwr := w5 r (List.mem_of_getElem? hr)
   have c2 := ev_k72 r e (by omega)
   have hsj := z96 (p := f.gone) (e := e) hr
   generalize qb2 r e = cv at c2 hsj
   generalize hb : qeb f.gone f.recs e j = b at *
   cases b
   ·simp only [Bool.false_and] at hsj
    (have hF := (aI (aI @hcs (aI @e1 @e2)) (aI @e3 (aI @g1 @g2))); refine q01 (k:=?_); clear hF)
    (refine Fin.nextW (j + 1) ?_ (have hW := (aI @q02 (aI @q07 @hsj)); q0g); (try dsimp only))
    omega
   ·simp only [Bool.true_and] at hsj
    (have hF := (aI (aI @hcs (aI @e1 @e2)) (aI @e3 (aI @g1 @g2))); refine q01 (k:=?_); clear hF)
    refine q00 [q3p r, qb1 e] (he := c2) (k:=?_)
    (have hF := (aI (aI @hcs (aI @e1 @e2)) (aI @e3 (aI @g1 @g2))); refine q01 (k:=?_); clear hF)
    (refine Fin.nextW (j + 1) ?_ (have hW := (aI @q02 (aI @q07 @hsj)); q0g); (try dsimp only))
    omega
  ·have hje : j = f.recs.length := by omega
   subst hje
   generalize qeb f.gone f.recs e f.recs.length = b at *
   cases b
   ·rw [if_neg (by simp), List.append_nil] at hst
    (have hF := (aI (aI @hcs @e1) (aI @e2 (aI @e3 @g1))); refine q01 (k:=?_); clear hF)
    (refine Fin.nextW (i + 1) ?_ (have hW := (aI @q02 (aI @q07 @hst)); q0g); (try dsimp only))
    omega
   ·rw [if_pos rfl] at hst
    (have hF := (aI (aI @hcs @e1) (aI @e2 (aI @e3 @g1))); refine q01 (k:=?_); clear hF)
    (refine Fin.nextW (i + 1) ?_ (have hW := (aI (aI @q02 @q07) (aI @hst @q12)); q0g); (try dsimp only))
    omega
 ·rw [List.take_of_length_le (show f.adds.length ≤ i by omega)]
  (have hF := (aI @hcs (aI @e1 @e2)); refine q01 (k:=?_); clear hF)
  exact Fin.tmp' (by simp [fz, fzc, q4i, upd, tms, mms]) (q07 _)
theorem zla (f : Fct) : wt (q9i f) ≤ 32 + f.adds.length + wt f.gone := by
 have h1 := q6o [q3w f.adds, f.gone]
 have h2 := q7w f.adds
 simp only [List.map_cons, List.map_nil, List.sum_cons, List.sum_nil] at h1
 unfold q9i
 omega
theorem ev_k37 (f : Fct) (hw : wtF f ≤ 4000000) : Ev (En Tryz.prog rfl).P 37 [qeg f] (.ret (q33 (stF f))) := by
 refine Ev.of_body it_k37 (by simp) (Run.start ?_)
 unfold t_k37 stF
 obtain ⟨w1, w2, w3, w4, w5⟩ := q74 hw
 have hS := q9v
 have hcs := q61 f.adds f.gone.vec f.gone.cloud f.recs
 have hhw := zla f
 have c1 := ev_k81 f (by omega)
 have c2 := ev_k82 f (by omega)
 have c3 := ev_k83 f.recs (q9i f) (by omega) (fun r hr => by have := w5 r hr; omega) (by omega)
 unfold qeg at c1 c2 ⊢
 generalize q18 f.recs (q9i f) = W at *
 generalize qa4 f.adds f.gone f.recs = L at *
 generalize q9i f = q at *
 (have hF := @hcs; refine q01 (k:=?_); clear hF)
 refine q00 [_] (he := c1) (k:=?_)
 unfold q0f
 (have hF := @hcs; refine q01 (k:=?_); clear hF)
 refine q00 [_] (he := c2) (k:=?_)
 (have hF := @hcs; refine q01 (k:=?_); clear hF)
 refine q00 [.sl 3 (q09 f.recs), q0f q] (he := c3) (k:=?_)
 (have hF := @hcs; refine q01 (k:=?_); clear hF)
 exact Fin.all (xs := [q33 ⟨L, q, W⟩]) (by with_unfolding_all rfl) (by simp [q0k, q2y]) rfl

def zjs : List SOp := [⟨some 1,.box 31 (.tmp 0),none⟩,⟨some 2,.assign (.const (.int .i64 0)),none⟩]
instance : Live zjs := ⟨[0]⟩
def zjr : List SOp := [⟨some 9,.fieldAddr 31 (.tmp 1) 0,none⟩,⟨some 10,.load 22 (.tmp 9),none⟩,⟨some 11,.call ⟨.value (.func 53),#[.tmp 10],#[22]⟩,none⟩,⟨some 12,.binOp .neq 32 (.tmp 11) (.const (.int .i64 0)) 32,none⟩,⟨some 13,.move (.tmp 12),none⟩,⟨some 14,.fieldAddr 31 (.tmp 1) 1,some ((some 13),false)⟩,⟨some 15,.load 26 (.tmp 14),some ((some 13),false)⟩,⟨some 16,.call ⟨.value (.func 54),#[.tmp 15],#[26]⟩,some ((some 13),false)⟩,⟨some 17,.unOp .not 4 (.tmp 16),some ((some 13),false)⟩,⟨some 18,.pick (.tmp 13) (.const (.bool true)) (.tmp 17),none⟩,⟨some 19,.move (.tmp 18),none⟩,⟨some 20,.fieldAddr 31 (.tmp 1) 2,some ((some 19),false)⟩,⟨some 21,.load 27 (.tmp 20),some ((some 19),false)⟩,⟨some 22,.call ⟨.value (.func 55),#[.tmp 21],#[27]⟩,some ((some 19),false)⟩,⟨some 23,.binOp .neq 32 (.tmp 22) (.const (.int .i64 0)) 32,some ((some 19),false)⟩,⟨some 24,.pick (.tmp 19) (.const (.bool true)) (.tmp 23),none⟩]
instance : Live zjr := ⟨[1]⟩
def zjq : List SOp := [⟨some 2,.assign (.const (.int .i64 1)),none⟩]
instance : Live zjq := ⟨[]⟩
def zjp : List SOp := [⟨some 26,.fieldAddr 31 (.tmp 1) 0,none⟩,⟨some 27,.load 22 (.tmp 26),none⟩,⟨some 28,.call ⟨.value (.func 47),#[.tmp 27],#[22]⟩,none⟩,⟨some 25,.move (.tmp 28),none⟩,⟨some 29,.extract (.tmp 25) 0,none⟩,⟨some 30,.extract (.tmp 25) 1,none⟩,⟨some 3,.alloc 26,none⟩,⟨none,.store 26 (.tmp 3) (.tmp 29),none⟩,⟨some 4,.assign (.tmp 30),none⟩]
instance : Live zjp := ⟨[1]⟩
def zjo : List SOp := [⟨some 31,.load 26 (.tmp 3),none⟩,⟨some 32,.fieldAddr 31 (.tmp 1) 1,none⟩,⟨some 33,.load 26 (.tmp 32),none⟩,⟨some 34,.call ⟨.value (.func 56),#[.tmp 31,.tmp 33],#[26,26]⟩,none⟩,⟨some 35,.unOp .not 4 (.tmp 34),none⟩]
instance : Live zjo := ⟨[1,3]⟩
def zjn : List SOp := [⟨some 2,.assign (.const (.int .i64 1)),none⟩]
instance : Live zjn := ⟨[]⟩
def zjm : List SOp := [⟨some 37,.fieldAddr 31 (.tmp 1) 2,none⟩,⟨some 38,.load 27 (.tmp 37),none⟩,⟨some 39,.fieldAddr 31 (.tmp 1) 1,none⟩,⟨some 40,.load 26 (.tmp 39),none⟩,⟨some 41,.call ⟨.value (.func 57),#[.tmp 38,.tmp 40],#[27,26]⟩,none⟩,⟨some 36,.move (.tmp 41),none⟩,⟨some 42,.extract (.tmp 36) 0,none⟩,⟨some 43,.extract (.tmp 36) 1,none⟩,⟨some 5,.assign (.tmp 42),none⟩,⟨some 6,.assign (.tmp 43),none⟩]
instance : Live zjm := ⟨[1]⟩
def zjl : List SOp := [⟨some 44,.move (.tmp 5),none⟩,⟨some 45,.call ⟨.builtin .len,#[.tmp 44],#[27]⟩,none⟩,⟨some 46,.fieldAddr 31 (.tmp 1) 2,none⟩,⟨some 47,.load 27 (.tmp 46),none⟩,⟨some 48,.call ⟨.builtin .len,#[.tmp 47],#[27]⟩,none⟩,⟨some 49,.binOp .neq 3 (.tmp 45) (.tmp 48) 3,none⟩]
instance : Live zjl := ⟨[1,5]⟩
def zjk : List SOp := [⟨some 2,.assign (.const (.int .i64 1)),none⟩]
instance : Live zjk := ⟨[]⟩
def quk : List SOp := [⟨some 51,.fieldAddr 31 (.tmp 1) 0,none⟩,⟨some 52,.load 22 (.tmp 51),none⟩,⟨some 53,.fieldAddr 31 (.tmp 1) 2,none⟩,⟨some 54,.load 27 (.tmp 53),none⟩,⟨some 55,.call ⟨.value (.func 58),#[.tmp 52,.tmp 54],#[22,27]⟩,none⟩,⟨some 50,.move (.tmp 55),none⟩,⟨some 56,.extract (.tmp 50) 0,none⟩,⟨some 57,.extract (.tmp 50) 1,none⟩,⟨some 7,.assign (.tmp 56),none⟩,⟨some 8,.assign (.tmp 57),none⟩]
instance : Live quk := ⟨[1]⟩
def quj : List SOp := [⟨some 58,.move (.tmp 7),none⟩,⟨some 59,.call ⟨.builtin .len,#[.tmp 58],#[22]⟩,none⟩,⟨some 60,.fieldAddr 31 (.tmp 1) 0,none⟩,⟨some 61,.load 22 (.tmp 60),none⟩,⟨some 62,.call ⟨.builtin .len,#[.tmp 61],#[22]⟩,none⟩,⟨some 63,.binOp .neq 3 (.tmp 59) (.tmp 62) 3,none⟩]
instance : Live quj := ⟨[1,7]⟩
def qui : List SOp := [⟨some 2,.assign (.const (.int .i64 1)),none⟩]
instance : Live qui := ⟨[]⟩
def quh : List SOp := [⟨some 2,.assign (.const (.int .i64 0)),none⟩]
instance : Live quh := ⟨[]⟩
def t_k18 : SC :=
 (.seq (.ops false zjs) (.seq (.seq (.ops false zjr) (.cond (.tmp 24) (.seq (.ops false zjq) .ret) .skip)) (.seq (.seq (.ops false zjp) (.seq (.ops false zjo) (.cond (.tmp 35) (.seq (.ops false zjn) .ret) .skip))) (.seq (.seq (.ops false zjm) (.seq (.ops false zjl) (.cond (.tmp 49) (.seq (.ops false zjk) .ret) .skip))) (.seq (.seq (.ops false quk) (.seq (.ops false quj) (.cond (.tmp 63) (.seq (.ops false qui) .ret) .skip))) (.seq (.ops false quh) .ret))))))
theorem it_k18 : FnIs Tryz.prog 18 64 [.tmp 2] t_k18 := ⟨Tryz.f18, _, Tryz.func18, rfl, rfl, rfl, rfl, by kernel_rfl⟩

def zj6 : List SOp := [⟨some 1,.box 31 (.tmp 0),none⟩,⟨some 2,.assign (.const (.bool false)),none⟩]
instance : Live zj6 := ⟨[0]⟩
def zj5 : List SOp := [⟨some 5,.fieldAddr 31 (.tmp 1) 0,none⟩,⟨some 6,.load 22 (.tmp 5),none⟩,⟨some 7,.call ⟨.value (.func 67),#[.tmp 6],#[22]⟩,none⟩,⟨some 8,.unOp .not 4 (.tmp 7),none⟩,⟨some 9,.move (.tmp 8),none⟩,⟨some 10,.fieldAddr 31 (.tmp 1) 1,some ((some 9),false)⟩,⟨some 11,.load 26 (.tmp 10),some ((some 9),false)⟩,⟨some 12,.call ⟨.value (.func 68),#[.tmp 11],#[26]⟩,some ((some 9),false)⟩,⟨some 13,.unOp .not 4 (.tmp 12),some ((some 9),false)⟩,⟨some 14,.pick (.tmp 9) (.const (.bool true)) (.tmp 13),none⟩,⟨some 15,.move (.tmp 14),none⟩,⟨some 16,.fieldAddr 31 (.tmp 1) 2,some ((some 15),false)⟩,⟨some 17,.load 27 (.tmp 16),some ((some 15),false)⟩,⟨some 18,.call ⟨.value (.func 69),#[.tmp 17],#[27]⟩,some ((some 15),false)⟩,⟨some 19,.unOp .not 4 (.tmp 18),some ((some 15),false)⟩,⟨some 20,.pick (.tmp 15) (.const (.bool true)) (.tmp 19),none⟩]
instance : Live zj5 := ⟨[1]⟩
def zj4 : List SOp := [⟨some 2,.assign (.const (.bool false)),none⟩]
instance : Live zj4 := ⟨[]⟩
def zj3 : List SOp := [⟨some 21,.fieldAddr 31 (.tmp 1) 0,none⟩,⟨some 22,.load 22 (.tmp 21),none⟩,⟨some 23,.call ⟨.value (.func 71),#[.tmp 22,.const (.string ⟨#[]⟩),.const (.int .i64 (-1))],#[22,9,3]⟩,none⟩,⟨some 24,.fieldAddr 31 (.tmp 1) 1,none⟩,⟨some 25,.load 26 (.tmp 24),none⟩,⟨some 26,.call ⟨.value (.func 70),#[.tmp 23,.tmp 25],#[26,26]⟩,none⟩,⟨some 27,.unOp .not 4 (.tmp 26),none⟩]
instance : Live zj3 := ⟨[1]⟩
def zj2 : List SOp := [⟨some 2,.assign (.const (.bool false)),none⟩]
instance : Live zj2 := ⟨[]⟩
def zj1 : List SOp := [⟨some 3,.assign (.const (.int .i64 0)),none⟩]
instance : Live zj1 := ⟨[1]⟩
def zj0 : List SOp := [⟨some 28,.move (.tmp 3),none⟩,⟨some 29,.fieldAddr 31 (.tmp 1) 2,none⟩,⟨some 30,.load 27 (.tmp 29),none⟩,⟨some 31,.call ⟨.builtin .len,#[.tmp 30],#[27]⟩,none⟩,⟨some 32,.binOp .lss 3 (.tmp 28) (.tmp 31) 3,none⟩]
instance : Live zj0 := ⟨[1,3]⟩
def ziz : List SOp := [⟨some 35,.fieldAddr 31 (.tmp 1) 2,none⟩,⟨some 36,.load 27 (.tmp 35),none⟩,⟨some 37,.move (.tmp 3),none⟩,⟨some 38,.indexAddr 27 (.tmp 36) (.tmp 37),none⟩,⟨some 39,.fieldAddr 91 (.tmp 38) 1,none⟩,⟨some 40,.load 26 (.tmp 39),none⟩,⟨some 41,.fieldAddr 31 (.tmp 1) 1,none⟩,⟨some 42,.load 26 (.tmp 41),none⟩,⟨some 43,.call ⟨.value (.func 70),#[.tmp 40,.tmp 42],#[26,26]⟩,none⟩]
instance : Live ziz := ⟨[1,3]⟩
def ziy : List SOp := [⟨some 2,.assign (.const (.bool false)),none⟩]
instance : Live ziy := ⟨[]⟩
def qu8 : List SOp := [⟨some 4,.assign (.const (.int .i64 0)),none⟩]
instance : Live qu8 := ⟨[1,3]⟩
def qu7 : List SOp := [⟨some 44,.move (.tmp 4),none⟩,⟨some 45,.fieldAddr 31 (.tmp 1) 0,none⟩,⟨some 46,.load 22 (.tmp 45),none⟩,⟨some 47,.call ⟨.builtin .len,#[.tmp 46],#[22]⟩,none⟩,⟨some 48,.binOp .lss 3 (.tmp 44) (.tmp 47) 3,none⟩]
instance : Live qu7 := ⟨[1,3,4]⟩
def qu6 : List SOp := [⟨some 51,.fieldAddr 31 (.tmp 1) 2,none⟩,⟨some 52,.load 27 (.tmp 51),none⟩,⟨some 53,.move (.tmp 3),none⟩,⟨some 54,.indexAddr 27 (.tmp 52) (.tmp 53),none⟩,⟨some 55,.load 91 (.tmp 54),none⟩,⟨some 56,.fieldAddr 31 (.tmp 1) 0,none⟩,⟨some 57,.load 22 (.tmp 56),none⟩,⟨some 58,.move (.tmp 4),none⟩,⟨some 59,.indexAddr 22 (.tmp 57) (.tmp 58),none⟩,⟨some 60,.load 62 (.tmp 59),none⟩,⟨some 61,.call ⟨.value (.func 72),#[.tmp 55,.tmp 60],#[91,62]⟩,none⟩]
instance : Live qu6 := ⟨[1,3,4]⟩
def qu5 : List SOp := [⟨some 2,.assign (.const (.bool false)),none⟩]
instance : Live qu5 := ⟨[]⟩
def qu4 : List SOp := [⟨some 49,.move (.tmp 4),none⟩,⟨some 50,.binOp .add 3 (.tmp 49) (.const (.int .i64 1)) 3,none⟩,⟨some 4,.assign (.tmp 50),none⟩]
instance : Live qu4 := ⟨[1,3,4]⟩
def qu3 : List SOp := [⟨some 33,.move (.tmp 3),none⟩,⟨some 34,.binOp .add 3 (.tmp 33) (.const (.int .i64 1)) 3,none⟩,⟨some 3,.assign (.tmp 34),none⟩]
instance : Live qu3 := ⟨[1,3]⟩
def qu2 : List SOp := [⟨some 2,.assign (.const (.bool true)),none⟩]
instance : Live qu2 := ⟨[]⟩
def qrs : SC :=
 (.seq (.seq (.ops false qu7) (.cond (.tmp 48) .skip (.exit 2))) (.seq (.block 3 (.seq (.ops true qu6) (.cond (.tmp 61) (.seq (.ops false qu5) .ret) .skip))) (.ops false qu4)))
def qrt : SC :=
 (.seq (.seq (.ops false zj0) (.cond (.tmp 32) .skip (.exit 0))) (.seq (.block 1 (.seq (.seq (.ops true ziz) (.cond (.tmp 43) (.seq (.ops false ziy) .ret) .skip)) (.seq (.ops false qu8) (.block 2 (.loop qrs))))) (.ops false qu3)))
def t_k26 : SC :=
 (.seq (.ops false zj6) (.seq (.seq (.ops false zj5) (.cond (.tmp 20) (.seq (.ops false zj4) .ret) .skip)) (.seq (.seq (.ops true zj3) (.cond (.tmp 27) (.seq (.ops false zj2) .ret) .skip)) (.seq (.seq (.ops false zj1) (.block 0 (.loop qrt))) (.seq (.ops false qu2) .ret)))))
theorem it_k26 : FnIs Tryz.prog 26 62 [.tmp 2] t_k26 := ⟨Tryz.f26, _, Tryz.func26, rfl, rfl, rfl, rfl, by kernel_rfl⟩

theorem ev_k18 (s : Swt) (hw : wtS s ≤ 3000000) : Ev (En Tryz.prog rfl).P 18 [q33 s] (.ret (.int .i64 (if qdd s = true then 0 else 1))) := by
 refine Ev.of_body it_k18 (by simp) (Run.start ?_)
 unfold t_k18 q33
 obtain ⟨w1, w2, w3, w4, w5⟩ := q3q hw
 have hS := q9v
 have hcs := q61 s.live s.past.vec s.past.cloud s.defer
 have e1 := q0n s.live
 have e2 := q0h s.defer
 have c1 := qod s.live (by omega)
 have c2 := qoc s.past (by omega)
 have c3 := q2x s.defer (by omega) (fun r hr => by have := w5 r hr; omega)
 have hch := qau (s := s)
 by_cases h1 : q70 s.live = true
 case' neg =>
  rw [if_neg h1] at c1
  rw [if_neg (fun h => h1 (hch.1 (q3t.1 h)).1)]
  (have hF := @hcs; refine q01 (k:=?_); clear hF)
  refine q00 [.sl 4 (q0b s.live)] (he := c1) (k:=?_)
  (have hF := @hcs; refine q01 (k:=?_); clear hF)
  exact Fin.tmp' rfl rfl
 rw [if_pos h1] at c1
 by_cases h2 : q1j s.past = true
 case' neg =>
  rw [show q1j s.past = false by simpa using h2] at c2
  rw [if_neg (fun h => h2 (hch.1 (q3t.1 h)).2.1)]
  (have hF := @hcs; refine q01 (k:=?_); clear hF)
  refine q00 [.sl 4 (q0b s.live)] (he := c1) (k:=?_)
  (have hF := @hcs; refine q01 (k:=?_); clear hF)
  refine q00 [q0f s.past] (he := c2) (k:=?_)
  (have hF := @hcs; refine q01 (k:=?_); clear hF)
  exact Fin.tmp' rfl rfl
 rw [h2] at c2
 by_cases h3 : q3f s.defer = true
 case' neg =>
  rw [if_neg h3] at c3
  rw [if_neg (fun h => h3 (hch.1 (q3t.1 h)).2.2.1)]
  (have hF := @hcs; refine q01 (k:=?_); clear hF)
  refine q00 [.sl 4 (q0b s.live)] (he := c1) (k:=?_)
  (have hF := @hcs; refine q01 (k:=?_); clear hF)
  refine q00 [q0f s.past] (he := c2) (k:=?_)
  (have hF := @hcs; refine q01 (k:=?_); clear hF)
  refine q00 [.sl 3 (q09 s.defer)] (he := c3) (k:=?_)
  (have hF := @hcs; refine q01 (k:=?_); clear hF)
  exact Fin.tmp' rfl rfl
 rw [if_pos h3] at c3
 have c4 := ev_k47 s.live (by omega)
 rw [if_pos h1, if_pos h1] at c4
 have hdw := q7w s.live
 have c5 := ev_k56 (q3w s.live) s.past (by omega) (by omega)
 have c6 := ev_k57 s.defer s.past (by omega) (fun r hr => by have := w5 r hr; omega) (by omega)
 have c7 := ev_k58 s.live s.defer (by omega) (by omega)
 rw [if_pos ⟨h3, h2⟩, show qr1 s.defer s.past = q18 s.defer s.past from if_pos ⟨h3, h2⟩] at c6
 rw [if_pos ⟨h1, h3⟩, if_pos ⟨h1, h3⟩] at c7
 have e3 := q0h (q18 s.defer s.past)
 have e4 := q0n (q36 s.defer s.live)
 have b3 : (q18 s.defer s.past).length ≤ s.defer.length := List.length_filter_le _ _
 have b4 : (q36 s.defer s.live).length ≤ s.live.length := List.length_filter_le _ _
 generalize q3w s.live = d at *
 generalize q18 s.defer s.past = W at *
 generalize q36 s.defer s.live = L at *
 (have hF := @hcs; refine q01 (k:=?_); clear hF)
 refine q00 [.sl 4 (q0b s.live)] (he := c1) (k:=?_)
 (have hF := @hcs; refine q01 (k:=?_); clear hF)
 refine q00 [q0f s.past] (he := c2) (k:=?_)
 (have hF := @hcs; refine q01 (k:=?_); clear hF)
 refine q00 [.sl 3 (q09 s.defer)] (he := c3) (k:=?_)
 (have hF := @hcs; refine q01 (k:=?_); clear hF)
 refine q00 [.sl 4 (q0b s.live)] (he := c4) (k:=?_)
 unfold q0f
 (have hF := @hcs; refine q01 (k:=?_); clear hF)
 refine q00 [q0f d, q0f s.past] (he := c5) (k:=?_)
 by_cases h4 : q14 d s.past = true
 case' neg =>
  rw [if_neg (fun h => h4 (hch.1 (q3t.1 h)).2.2.2.1), show q14 d s.past = false by simpa using h4]
  (have hF := @hcs; refine q01 (k:=?_); clear hF)
  exact Fin.tmp' rfl rfl
 rw [h4]
 (have hF := @hcs; refine q01 (k:=?_); clear hF)
 refine q00 [.sl 3 (q09 s.defer), q0f s.past] (he := c6) (k:=?_)
 by_cases h5 : W.length = s.defer.length
 case' neg =>
  rw [if_neg (fun h => h5 (hch.1 (q3t.1 h)).2.2.2.2.1)]
  (have hF := (aI @hcs (aI @e2 @e3)); refine q01 (k:=?_); clear hF)
  all_goals first | (exfalso; omega) | exact Fin.tmp' rfl rfl
 (have hF := (aI (aI @hcs @e2) (aI @e3 @h5)); refine q01 (k:=?_); clear hF)
 refine q00 [.sl 4 (q0b s.live), .sl 3 (q09 s.defer)] (he := c7) (k:=?_)
 by_cases h6 : L.length = s.live.length
 ·rw [if_pos (q3t.2 (hch.2 ⟨h1, h2, h3, h4, h5, h6⟩))]
  (have hF := (aI (aI @hcs @e1) (aI @e4 @h6)); refine q01 (k:=?_); clear hF)
  all_goals first | (exfalso; omega) | exact Fin.tmp' rfl rfl
 ·rw [if_neg (fun h => h6 (hch.1 (q3t.1 h)).2.2.2.2.2)]
  (have hF := (aI @hcs (aI @e1 @e4)); refine q01 (k:=?_); clear hF)
  all_goals first | (exfalso; omega) | exact Fin.tmp' rfl rfl
theorem ev_k26 (s : Swt) (hw : wtS s ≤ 3000000) : Ev (En Tryz.prog rfl).P 26 [q33 s] (.ret (.bool (qdd s))) := by
 refine Ev.of_body it_k26 (by simp) (Run.start ?_)
 unfold t_k26 q33
 obtain ⟨w1, w2, w3, w4, w5⟩ := q3q hw
 have hS := q9v
 have hcs := q61 s.live s.past.vec s.past.cloud s.defer
 have e1 := q0n s.live
 have e2 := q0h s.defer
 have c1 := ev_k67 s.live (by omega)
 have c2 := ev_k68 s.past (by omega)
 have c3 := ev_k69 s.defer (by omega) (fun r hr => by have := w5 r hr; omega)
 have hch : qdd s = true ↔ _ := q3t.trans (qau (s := s))
 have hno : ∀ {p : Prop}, (qdd s = true → p) → ¬ p → qdd s = false := fun h hp => by
  cases hh : qdd s
  ·rfl
  ·exact absurd (h hh) hp
 cases h1 : q70 s.live
 case' false =>
  rw [h1] at c1
  rw [hno (fun h => (hch.1 h).1) (by rw [h1]; decide)]
  (have hF := @hcs; refine q01 (k:=?_); clear hF)
  refine q00 [.sl 4 (q0b s.live)] (he := c1) (k:=?_)
  (have hF := @hcs; refine q01 (k:=?_); clear hF)
  exact Fin.tmp' rfl rfl
 rw [h1] at c1
 cases h2 : q1j s.past
 case' false =>
  rw [h2] at c2
  rw [hno (fun h => (hch.1 h).2.1) (by rw [h2]; decide)]
  (have hF := @hcs; refine q01 (k:=?_); clear hF)
  refine q00 [.sl 4 (q0b s.live)] (he := c1) (k:=?_)
  (have hF := @hcs; refine q01 (k:=?_); clear hF)
  refine q00 [q0f s.past] (he := c2) (k:=?_)
  (have hF := @hcs; refine q01 (k:=?_); clear hF)
  exact Fin.tmp' rfl rfl
 rw [h2] at c2
 cases h3 : q3f s.defer
 case' false =>
  rw [h3] at c3
  rw [hno (fun h => (hch.1 h).2.2.1) (by rw [h3]; decide)]
  (have hF := @hcs; refine q01 (k:=?_); clear hF)
  refine q00 [.sl 4 (q0b s.live)] (he := c1) (k:=?_)
  (have hF := @hcs; refine q01 (k:=?_); clear hF)
  refine q00 [q0f s.past] (he := c2) (k:=?_)
  (have hF := @hcs; refine q01 (k:=?_); clear hF)
  refine q00 [.sl 3 (q09 s.defer)] (he := c3) (k:=?_)
  (have hF := @hcs; refine q01 (k:=?_); clear hF)
  exact Fin.tmp' rfl rfl
 rw [h3] at c3
 have c4 := zlu s.live (by omega)
 have hdw := q7w s.live
 have c5 := zlv (q3w s.live) s.past (by omega) (by omega)
 rw [qhp, z7c] at hch
 generalize q3w s.live = d at *
 (have hF := @hcs; refine q01 (k:=?_); clear hF)
 refine q00 [.sl 4 (q0b s.live)] (he := c1) (k:=?_)
 (have hF := @hcs; refine q01 (k:=?_); clear hF)
 refine q00 [q0f s.past] (he := c2) (k:=?_)
 (have hF := @hcs; refine q01 (k:=?_); clear hF)
 refine q00 [.sl 3 (q09 s.defer)] (he := c3) (k:=?_)
 (have hF := @hcs; refine q01 (k:=?_); clear hF)
 refine q00 [.sl 4 (q0b s.live), .str ⟨#[]⟩, .int .i64 (-1)] (he := c4) (k:=?_)
 (have hF := @hcs; refine q01 (k:=?_); clear hF)
 refine q00 [q0f d, q0f s.past] (he := c5) (k:=?_)
 by_cases h4 : q14 d s.past = true
 case' neg =>
  rw [hno (fun h => (hch.1 h).2.2.2.1) h4, show q14 d s.past = false by simpa using h4]
  (have hF := @hcs; refine q01 (k:=?_); clear hF)
  exact Fin.tmp' rfl rfl
 rw [h4]
 (have hF := @hcs; refine q01 (k:=?_); clear hF)
 refine Run.while (σ := Nat) (fun i => ⟨tms [(1, .ptr 1 0), (3, .int .i64 (i : Int))], mms [(1, .cells [.sl 4 (q0b s.live), .sl 1 (q05 s.past.vec), .sl 3 (q0d s.past.cloud), .sl 3 (q09 s.defer)])]⟩)
  (fun i => i ≤ s.defer.length ∧ ∀ (j : Nat) r, j < i → s.defer[j]? = some r → q14 r.past s.past = false ∧ ∀ e ∈ s.live, qb2 r e = false) (fun i => s.defer.length - i) 0 (have hW := (aI @q02 @q07); q0g) ⟨Nat.zero_le _, fun j r hj => absurd hj (Nat.not_lt_zero _)⟩ ?_
 rintro i ⟨hi, hI⟩
 unfold qrt
 by_cases hlt : i < s.defer.length
 ·obtain ⟨r, hr⟩ : ∃ r, s.defer[i]? = some r := ⟨s.defer[i], by simp [hlt]⟩
  have g1 := q0o hr
  have hrm := List.mem_of_getElem? hr
  have hwr := w5 r hrm
  have c6 := zlv r.past s.past (by omega) (by omega)
  (have hF := (aI (aI @hcs @e1) (aI @e2 @g1)); refine q01 (k:=?_); clear hF)
  refine q00 [q0f r.past, q0f s.past] (he := c6) (k:=?_)
  cases h5 : q14 r.past s.past
  case' true =>
   rw [hno (fun h => (hch.1 h).2.2.2.2.1 r hrm) (by rw [h5]; decide)]
   (have hF := (aI (aI @hcs @e1) (aI @e2 @g1)); refine q01 (k:=?_); clear hF)
   exact Fin.tmp' rfl rfl
  (have hF := (aI (aI @hcs @e1) (aI @e2 @g1)); refine q01 (k:=?_); clear hF)
  refine Run.while (σ := Nat) (fun j => ⟨tms [(1, .ptr 1 0), (3, .int .i64 (i : Int)), (4, .int .i64 (j : Int))], mms [(1, .cells [.sl 4 (q0b s.live), .sl 1 (q05 s.past.vec), .sl 3 (q0d s.past.cloud), .sl 3 (q09 s.defer)])]⟩)
   (fun j => j ≤ s.live.length ∧ ∀ (m : Nat) e, m < j → s.live[m]? = some e → qb2 r e = false) (fun j => s.live.length - j) 0 (have hW := (aI @q02 @q07); q0g) ⟨Nat.zero_le _, fun m e hm => absurd hm (Nat.not_lt_zero _)⟩ ?_
  rintro j ⟨hj, hJ⟩
  unfold qrs
  by_cases hjl : j < s.live.length
  ·obtain ⟨e, he⟩ : ∃ e, s.live[j]? = some e := ⟨s.live[j], by simp [hjl]⟩
   have g2 := q0w he
   have c7 := ev_k72 r e (by omega)
   (have hF := (aI (aI @hcs @e1) (aI @e2 (aI @g1 @g2))); refine q01 (k:=?_); clear hF)
   refine q00 [q3p r, qb1 e] (he := c7) (k:=?_)
   cases h6 : qb2 r e
   ·(have hF := (aI (aI @hcs @e1) (aI @e2 (aI @g1 @g2))); refine q01 (k:=?_); clear hF)
    (refine Fin.nextW (j + 1) ?_ (have hW := (aI @q02 @q07); q0g); (try dsimp only))
    refine ⟨⟨hjl, fun m x hm hx => ?_⟩, by omega⟩
    by_cases hmj : m = j
    ·subst hmj; rw [he] at hx; cases hx; exact h6
    ·exact hJ m x (by omega) hx
   ·rw [hno (fun h => (hch.1 h).2.2.2.2.2 e (List.mem_of_getElem? he)) (fun h => h ⟨r, hrm, h6⟩)]
    (have hF := (aI (aI @hcs @e1) (aI @e2 (aI @g1 @g2))); refine q01 (k:=?_); clear hF)
    exact Fin.tmp' rfl rfl
  ·(have hF := (aI (aI @hcs @e1) (aI @e2 @g1)); refine q01 (k:=?_); clear hF)
   (refine Fin.nextW (i + 1) ?_ (have hW := (aI @q02 @q07); q0g); (try dsimp only))
   refine ⟨⟨hlt, fun m x hm hx => ?_⟩, by omega⟩
   by_cases hmj : m = i
   ·subst hmj
    rw [hr] at hx
    cases hx
    exact ⟨h5, fun e hem => by
     obtain ⟨m, hm⟩ := List.mem_iff_getElem?.1 hem
     have : m < s.live.length := (List.getElem?_eq_some_iff.1 hm).1
     exact hJ m e (by omega) hm⟩
   ·exact hI m x (by omega) hx
 ·have hall : ∀ r ∈ s.defer, q14 r.past s.past = false ∧ ∀ e ∈ s.live, qb2 r e = false := fun r hr => by
   obtain ⟨m, hm⟩ := List.mem_iff_getElem?.1 hr
   have : m < s.defer.length := (List.getElem?_eq_some_iff.1 hm).1
   exact hI m r (by omega) hm
  rw [hch.2 ⟨h1, h2, h3, h4, fun r hr => (hall r hr).1, fun e he hc => by
   obtain ⟨r, hr, hcv⟩ := hc
   have := (hall r hr).2 e he
   rw [this] at hcv
   cases hcv⟩]
  (have hF := (aI @hcs (aI @e1 @e2)); refine q01 (k:=?_); clear hF)
  exact Fin.tmp' rfl rfl

def zjf : List SOp := [⟨some 2,.box 31 (.tmp 0),none⟩,⟨some 3,.box 31 (.tmp 1),none⟩,⟨some 4,.alloc 31,none⟩,⟨some 5,.assign (.const (.int .i64 0)),none⟩]
instance : Live zjf := ⟨[0,1]⟩
def zje : List SOp := [⟨some 11,.load 31 (.tmp 2),none⟩,⟨some 12,.call ⟨.value (.func 18),#[.tmp 11],#[31]⟩,none⟩,⟨some 13,.binOp .neq 32 (.tmp 12) (.const (.int .i64 0)) 32,none⟩,⟨some 14,.move (.tmp 13),none⟩,⟨some 15,.load 31 (.tmp 3),some ((some 14),false)⟩,⟨some 16,.call ⟨.value (.func 18),#[.tmp 15],#[31]⟩,some ((some 14),false)⟩,⟨some 17,.binOp .neq 32 (.tmp 16) (.const (.int .i64 0)) 32,some ((some 14),false)⟩,⟨some 18,.pick (.tmp 14) (.const (.bool true)) (.tmp 17),none⟩]
instance : Live zje := ⟨[2,3,4]⟩
def zjd : List SOp := [⟨some 19,.build 31 #[],none⟩,⟨none,.store 31 (.tmp 4) (.tmp 19),none⟩,⟨some 5,.assign (.const (.int .i64 1)),none⟩]
instance : Live zjd := ⟨[4]⟩
def zjc : List SOp := [⟨some 21,.fieldAddr 31 (.tmp 2) 0,none⟩,⟨some 22,.load 22 (.tmp 21),none⟩,⟨some 23,.fieldAddr 31 (.tmp 2) 1,none⟩,⟨some 24,.load 26 (.tmp 23),none⟩,⟨some 25,.fieldAddr 31 (.tmp 3) 0,none⟩,⟨some 26,.load 22 (.tmp 25),none⟩,⟨some 27,.fieldAddr 31 (.tmp 3) 1,none⟩,⟨some 28,.load 26 (.tmp 27),none⟩,⟨some 29,.call ⟨.value (.func 65),#[.tmp 22,.tmp 24,.tmp 26,.tmp 28],#[22,26,22,26]⟩,none⟩,⟨some 20,.move (.tmp 29),none⟩,⟨some 30,.extract (.tmp 20) 0,none⟩,⟨some 31,.extract (.tmp 20) 1,none⟩,⟨some 6,.assign (.tmp 30),none⟩,⟨some 7,.assign (.tmp 31),none⟩]
instance : Live zjc := ⟨[2,3,4]⟩
def zjb : List SOp := [⟨some 32,.move (.tmp 7),none⟩,⟨some 33,.binOp .neq 32 (.tmp 32) (.const (.int .i64 0)) 32,none⟩]
instance : Live zjb := ⟨[2,3,4,6,7]⟩
def zja : List SOp := [⟨some 34,.build 31 #[],none⟩,⟨some 35,.move (.tmp 7),none⟩,⟨none,.store 31 (.tmp 4) (.tmp 34),none⟩,⟨some 5,.assign (.tmp 35),none⟩]
instance : Live zja := ⟨[4,7]⟩
def zj9 : List SOp := [⟨some 37,.fieldAddr 31 (.tmp 2) 2,none⟩,⟨some 38,.load 27 (.tmp 37),none⟩,⟨some 39,.fieldAddr 31 (.tmp 3) 2,none⟩,⟨some 40,.load 27 (.tmp 39),none⟩,⟨some 41,.call ⟨.value (.func 66),#[.tmp 38,.tmp 40],#[27,27]⟩,none⟩,⟨some 36,.move (.tmp 41),none⟩,⟨some 42,.extract (.tmp 36) 0,none⟩,⟨some 43,.extract (.tmp 36) 1,none⟩,⟨some 8,.assign (.tmp 42),none⟩,⟨some 9,.assign (.tmp 43),none⟩]
instance : Live zj9 := ⟨[2,3,4,6]⟩
def zj8 : List SOp := [⟨some 45,.move (.tmp 6),none⟩,⟨some 46,.move (.tmp 8),none⟩,⟨some 47,.call ⟨.value (.func 58),#[.tmp 45,.tmp 46],#[22,27]⟩,none⟩,⟨some 44,.move (.tmp 47),none⟩,⟨some 48,.extract (.tmp 44) 0,none⟩,⟨some 49,.extract (.tmp 44) 1,none⟩,⟨some 6,.assign (.tmp 48),none⟩]
instance : Live zj8 := ⟨[2,3,4,6,8]⟩
def zj7 : List SOp := [⟨some 50,.fieldAddr 31 (.tmp 2) 1,none⟩,⟨some 51,.load 26 (.tmp 50),none⟩,⟨some 52,.fieldAddr 31 (.tmp 3) 1,none⟩,⟨some 53,.load 26 (.tmp 52),none⟩,⟨some 54,.buildSlice 116 2 #[(0,.tmp 51),(1,.tmp 53)],none⟩,⟨some 55,.call ⟨.value (.func 49),#[.tmp 54],#[116]⟩,none⟩,⟨some 10,.alloc 26,none⟩,⟨none,.store 26 (.tmp 10) (.tmp 55),none⟩]
instance : Live zj7 := ⟨[2,3,4,6,8]⟩
def qua : List SOp := [⟨some 57,.move (.tmp 8),none⟩,⟨some 58,.load 26 (.tmp 10),none⟩,⟨some 59,.call ⟨.value (.func 57),#[.tmp 57,.tmp 58],#[27,26]⟩,none⟩,⟨some 56,.move (.tmp 59),none⟩,⟨some 60,.extract (.tmp 56) 0,none⟩,⟨some 61,.extract (.tmp 56) 1,none⟩,⟨some 8,.assign (.tmp 60),none⟩]
instance : Live qua := ⟨[4,6,8,10]⟩
def qu9 : List SOp := [⟨some 62,.move (.tmp 6),none⟩,⟨some 63,.load 26 (.tmp 10),none⟩,⟨some 64,.move (.tmp 8),none⟩,⟨some 65,.build 31 #[(0,.tmp 62),(1,.tmp 63),(2,.tmp 64)],none⟩,⟨some 66,.call ⟨.value (.func 48),#[.tmp 65],#[31]⟩,none⟩,⟨none,.store 31 (.tmp 4) (.tmp 66),none⟩,⟨some 5,.assign (.const (.int .i64 0)),none⟩]
instance : Live qu9 := ⟨[4,6,8,10]⟩
def t_k25 : SC :=
 (.seq (.ops false zjf) (.seq (.seq (.ops false zje) (.cond (.tmp 18) (.seq (.ops false zjd) .ret) .skip)) (.seq (.ops false zjc) (.seq (.seq (.ops false zjb) (.cond (.tmp 33) (.seq (.ops false zja) .ret) .skip)) (.seq (.ops false zj9) (.seq (.ops false zj8) (.seq (.ops false zj7) (.seq (.ops false qua) (.seq (.ops false qu9) .ret)))))))))
theorem it_k25 : FnIs Tryz.prog 25 67 [.cell 4 31, .tmp 5] t_k25 := ⟨Tryz.f25, _, Tryz.func25, rfl, rfl, rfl, rfl, by kernel_rfl⟩

theorem q7g {a b : Swt} (ha : FormS a) (hb : FormS b) : q6u a b = errO (q2l a b) := by
 unfold q6u
 rw [if_pos ⟨ha, hb⟩]
 have := (q80 ha hb).1
 cases h : q2l a b with
 | none => rw [if_pos (this.1 h)]; rfl
 | some M => rw [if_neg (fun hc => by have := this.2 hc; rw [h] at this; cases this)]; rfl
theorem qa8 {a b : Swt} (ha : FormS a) (hb : FormS b) {M : List Ent} (hM : q2l a b = some M) : q37 a b = ⟨q36 (q4k a b) M, q1s [a.past, b.past], q18 (q4k a b) (q1s [a.past, b.past])⟩ := by
 have h0 : q6u a b = 0 := by rw [q7g ha hb, hM]; rfl
 rw [q4n h0]
 unfold qd6
 rw [hM]
 rfl
theorem z7k {s : Swt} (h : ¬ FormS s) : (if qdd s = true then (0 : Int) else 1) = 1 := if_neg (fun h' => h (q3t.1 h'))
theorem qo2 {s : Swt} (h : FormS s) : (if qdd s = true then (0 : Int) else 1) = 0 := if_pos (qa9 h)
theorem qoe (a b : Swt) (ha : wtS a ≤ 2000000) (hb : wtS b ≤ 2000000) : Ev (En Tryz.prog rfl).P 25 [q33 a, q33 b] (.ret (.tup [q33 (q37 a b), .int .i64 (q6u a b)])) := by
 refine Ev.of_body it_k25 (by simp) (AW.wkEnd (Run.start ?_))
 unfold t_k25
 obtain ⟨u1, u2, u3, u4, u5⟩ := q3q ha
 obtain ⟨w1, w2, w3, w4, w5⟩ := q3q hb
 have hS := q9v
 have hca := q61 a.live a.past.vec a.past.cloud a.defer
 have hcb := q61 b.live b.past.vec b.past.cloud b.defer
 have c1 := ev_k18 a (by omega)
 have c2 := ev_k18 b (by omega)
 unfold q33 at c1 c2 ⊢
 by_cases h1 : FormS a
 case' neg =>
  rw [z7k h1] at c1
  have he : q6u a b = 1 := if_neg (fun h => h1 h.1)
  rw [qd7 (by rw [he]; decide), he]
  (have hF := (aI @hca @hcb); refine q01 (k:=?_); clear hF)
  refine q00 [_] (he := c1) (k:=?_)
  (have hF := (aI @hca @hcb); refine q01 (k:=?_); clear hF)
  exact Fin.done ⟨_, Wk.cells_nil (k := 4) rfl sub4, [q33 noS, .int .i64 1], by with_unfolding_all rfl, by simp [q0k, q2y, AVal.stb], _, q1l _, rfl⟩
 rw [qo2 h1] at c1
 by_cases h2 : FormS b
 case' neg =>
  rw [z7k h2] at c2
  have he : q6u a b = 1 := if_neg (fun h => h2 h.2)
  rw [qd7 (by rw [he]; decide), he]
  (have hF := (aI @hca @hcb); refine q01 (k:=?_); clear hF)
  refine q00 [_] (he := c1) (k:=?_)
  (have hF := (aI @hca @hcb); refine q01 (k:=?_); clear hF)
  refine q00 [_] (he := c2) (k:=?_)
  (have hF := (aI @hca @hcb); refine q01 (k:=?_); clear hF)
  exact Fin.done ⟨_, Wk.cells_nil (k := 4) rfl sub4, [q33 noS, .int .i64 1], by with_unfolding_all rfl, by simp [q0k, q2y, AVal.stb], _, q1l _, rfl⟩
 rw [qo2 h2] at c2
 have c3 := ev_k65 a.live b.live a.past b.past (by omega) (by omega) (by omega) (by omega) ⟨q4o h1.live, q42.2 h1.past, q4o h2.live, q42.2 h2.past⟩
 change Ev _ _ _ (.ret (.tup [.sl 4 (q0b (qcr (q2l a b))), .int .i64 (errO (q2l a b))])) at c3
 have hej := q7g h1 h2
 cases hM : q2l a b with
 | none =>
  rw [hM] at c3 hej
  change Ev _ _ _ (.ret (.tup [.sl 4 (q0b []), .int .i64 10])) at c3
  change q6u a b = 10 at hej
  rw [qd7 (by rw [hej]; decide), hej]
  (have hF := (aI @hca @hcb); refine q01 (k:=?_); clear hF)
  refine q00 [_] (he := c1) (k:=?_)
  (have hF := (aI @hca @hcb); refine q01 (k:=?_); clear hF)
  refine q00 [_] (he := c2) (k:=?_)
  (have hF := (aI @hca @hcb); refine q01 (k:=?_); clear hF)
  refine q00 [.sl 4 (q0b a.live), q0f a.past, .sl 4 (q0b b.live), q0f b.past] (he := c3) (k:=?_)
  (have hF := (aI @hca @hcb); refine q01 (k:=?_); clear hF)
  exact Fin.done ⟨_, Wk.cells_nil (k := 4) rfl sub4, [q33 noS, .int .i64 10], by with_unfolding_all rfl, by simp [q0k, q2y, AVal.stb], _, q1l _, rfl⟩
 | some M =>
  rw [hM] at c3 hej
  change Ev _ _ _ (.ret (.tup [.sl 4 (q0b M), .int .i64 0])) at c3
  change q6u a b = 0 at hej
  have hMf := qf1 h1 h2 hM
  have hlM : M.length ≤ a.live.length + b.live.length := by
   have := qgl (q19 b.past) (q19 a.past) (A := a.live) (B := b.live) (a.live.length + b.live.length)
   change (qcr (q2l a b)).length ≤ _ at this
   rw [hM] at this
   exact this
  have hRf := qf5 h1 h2
  have c4 := ev_k66 a.defer b.defer (by omega) (by omega) (fun r hr => by have := u5 r hr; omega) (fun r hr => by have := w5 r hr; omega)
  rw [if_pos ⟨q2g h1.defer, q2g h2.defer⟩, show zav a.defer b.defer = q4k a b from if_pos ⟨q2g h1.defer, q2g h2.defer⟩] at c4
  have hwR : q5d (q4k a b) ≤ q5d a.defer + q5d b.defer := by
   have := qb6 (a.defer ++ b.defer)
   rw [qfr] at this
   exact this
  have hlR := q6f (q4k a b)
  have c5 := ev_k58 M (q4k a b) (by omega) (by omega)
  rw [if_pos ⟨q4o hMf, q2g hRf⟩, if_pos ⟨q4o hMf, q2g hRf⟩] at c5
  have c6 := ev_k49 [a.past, b.past] (show 2 ≤ 1000000000 by omega) (by simp only [List.map_cons, List.map_nil, List.sum_cons, List.sum_nil]; omega)
  have hjw := q6o [a.past, b.past]
  simp only [List.map_cons, List.map_nil, List.sum_cons, List.sum_nil] at hjw
  have hjc : q1j (q1s [a.past, b.past]) = true := q42.2 (q58 _)
  have c7 := ev_k57 (q4k a b) (q1s [a.past, b.past]) (by omega) (fun r hr => by have := qek hr; unfold wtK at this; omega) (by omega)
  rw [if_pos ⟨q2g hRf, hjc⟩, show qr1 (q4k a b) (q1s [a.past, b.past]) = q18 (q4k a b) (q1s [a.past, b.past]) from if_pos ⟨q2g hRf, hjc⟩] at c7
  have hje := qa8 h1 h2 hM
  have hjf := qf4 h1 h2 hM
  rw [← q4n hej] at hjf
  have hwj := z7d a b
  rw [← q4n hej] at hwj
  have c8 := ev_k48 (q37 a b) (by omega) hjf.past (fun r hr => (q4f hjf.defer r hr).1)
  rw [hej]
  rw [hje] at c8 ⊢
  clear hje hjf hwj hjw
  generalize q1s [a.past, b.past] = q at *
  generalize q18 (q4k a b) q = W at *
  generalize q36 (q4k a b) M = L at *
  generalize q4k a b = R at *
  (have hF := (aI @hca @hcb); refine q01 (k:=?_); clear hF)
  refine q00 [_] (he := c1) (k:=?_)
  (have hF := (aI @hca @hcb); refine q01 (k:=?_); clear hF)
  refine q00 [_] (he := c2) (k:=?_)
  (have hF := (aI @hca @hcb); refine q01 (k:=?_); clear hF)
  refine q00 [.sl 4 (q0b a.live), q0f a.past, .sl 4 (q0b b.live), q0f b.past] (he := c3) (k:=?_)
  (have hF := (aI @hca @hcb); refine q01 (k:=?_); clear hF)
  refine q00 [.sl 3 (q09 a.defer), .sl 3 (q09 b.defer)] (he := c4) (k:=?_)
  (have hF := (aI @hca @hcb); refine q01 (k:=?_); clear hF)
  refine q00 [.sl 4 (q0b M), .sl 3 (q09 R)] (he := c5) (k:=?_)
  (have hF := (aI @hca @hcb); refine q01 (k:=?_); clear hF)
  refine q00 [.sl 2 (q1k [a.past, b.past])] (he := c6) (k:=?_)
  unfold q0f
  (have hF := (aI @hca @hcb); refine q01 (k:=?_); clear hF)
  refine q00 [.sl 3 (q09 R), q0f q] (he := c7) (k:=?_)
  (have hF := (aI @hca @hcb); refine q01 (k:=?_); clear hF)
  refine q00 [q33 ⟨L, q, W⟩] (he := c8) (k:=?_)
  unfold q33
  (have hF := (aI @hca @hcb); refine q01 (k:=?_); clear hF)
  exact Fin.done ⟨_, Wk.refl _ _, [q33 ⟨L, q, W⟩, .int .i64 0], by with_unfolding_all rfl, by simp [q0k, q2y, AVal.stb], _, q1l _, rfl⟩

def z3g : List SOp := [⟨some 4,.assign (.const (.bool false)),none⟩]
instance : Live z3g := ⟨[0,1]⟩
def z3f : List SOp := [⟨some 6,.move (.tmp 0),none⟩,⟨some 7,.call ⟨.builtin .len,#[.tmp 6],#[22]⟩,none⟩,⟨some 8,.move (.tmp 1),none⟩,⟨some 9,.call ⟨.builtin .len,#[.tmp 8],#[22]⟩,none⟩,⟨some 10,.binOp .neq 3 (.tmp 7) (.tmp 9) 3,none⟩]
instance : Live z3f := ⟨[0,1]⟩
def z3e : List SOp := [⟨some 4,.assign (.const (.bool false)),none⟩]
instance : Live z3e := ⟨[]⟩
def z3d : List SOp := [⟨some 11,.move (.tmp 0),none⟩,⟨some 12,.call ⟨.builtin .len,#[.tmp 11],#[22]⟩,none⟩,⟨some 13,.move (.const (.int .i64 0)),none⟩]
instance : Live z3d := ⟨[0,1]⟩
def z3c : List SOp := [⟨some 14,.binOp .lss 3 (.tmp 13) (.tmp 12) 3,none⟩]
instance : Live z3c := ⟨[0,1,12,13]⟩
def z3b : List SOp := [⟨some 15,.move (.tmp 13),none⟩,⟨some 5,.assign (.tmp 15),none⟩]
instance : Live z3b := ⟨[0,1,12,13]⟩
def z3a : List SOp := [⟨some 16,.move (.tmp 0),none⟩,⟨some 17,.move (.tmp 5),none⟩,⟨some 18,.indexAddr 22 (.tmp 16) (.tmp 17),none⟩,⟨some 19,.load 62 (.tmp 18),none⟩,⟨some 20,.move (.tmp 1),none⟩,⟨some 21,.move (.tmp 5),none⟩,⟨some 22,.indexAddr 22 (.tmp 20) (.tmp 21),none⟩,⟨some 23,.load 62 (.tmp 22),none⟩,⟨some 24,.binOp .neq 62 (.tmp 19) (.tmp 23) 62,none⟩]
instance : Live z3a := ⟨[0,1,5,12,13]⟩
def z38 : List SOp := [⟨some 4,.assign (.const (.bool false)),none⟩]
instance : Live z38 := ⟨[]⟩
def z37 : List SOp := [⟨some 25,.binOp .add 3 (.tmp 13) (.const (.int .i64 1)) 3,none⟩,⟨some 13,.move (.tmp 25),none⟩]
instance : Live z37 := ⟨[0,1,12,13]⟩
def qmi : List SOp := [⟨some 4,.assign (.const (.bool true)),none⟩]
instance : Live qmi := ⟨[]⟩
def qip : SC :=
 (.seq (.ops false z3c) (.seq (.cond (.tmp 14) .skip (.exit 0)) (.seq (.block 1 (.seq (.ops false z3b) (.seq (.ops true z3a) (.cond (.tmp 24) (.seq (.ops false z38) .ret) .skip)))) (.ops false z37))))
def t_k122 : SC :=
 (.seq (.ops false z3g) (.seq (.seq (.ops false z3f) (.cond (.tmp 10) (.seq (.ops false z3e) .ret) .skip)) (.seq (.seq (.ops false z3d) (.block 0 (.loop qip))) (.seq (.ops false qmi) .ret))))
theorem it_k122 : FnIs Tryz.prog 122 26 [.tmp 4] t_k122 := ⟨Tryz.f122, _, Tryz.func122, rfl, rfl, rfl, rfl, by kernel_rfl⟩

def z2x : List SOp := [⟨some 6,.assign (.const (.bool false)),none⟩]
instance : Live z2x := ⟨[0,1,2]⟩
def z2w : List SOp := [⟨some 10,.move (.tmp 0),none⟩,⟨some 11,.call ⟨.builtin .len,#[.tmp 10],#[27]⟩,none⟩,⟨some 12,.move (.tmp 1),none⟩,⟨some 13,.call ⟨.builtin .len,#[.tmp 12],#[27]⟩,none⟩,⟨some 14,.binOp .neq 3 (.tmp 11) (.tmp 13) 3,none⟩]
instance : Live z2w := ⟨[0,1,2]⟩
def z2v : List SOp := [⟨some 6,.assign (.const (.bool false)),none⟩]
instance : Live z2v := ⟨[]⟩
def z2u : List SOp := [⟨some 15,.move (.tmp 0),none⟩,⟨some 16,.call ⟨.builtin .len,#[.tmp 15],#[27]⟩,none⟩,⟨some 17,.move (.const (.int .i64 0)),none⟩]
instance : Live z2u := ⟨[0,1,2]⟩
def z2t : List SOp := [⟨some 18,.binOp .lss 3 (.tmp 17) (.tmp 16) 3,none⟩]
instance : Live z2t := ⟨[1,2,15,16,17]⟩
def z2s : List SOp := [⟨some 19,.move (.tmp 17),none⟩,⟨some 20,.indexAddr 27 (.tmp 15) (.tmp 17),none⟩,⟨some 21,.load 91 (.tmp 20),none⟩,⟨some 8,.alloc 91,none⟩,⟨some 7,.assign (.tmp 19),none⟩,⟨none,.store 91 (.tmp 8) (.tmp 21),none⟩]
instance : Live z2s := ⟨[1,2,15,16,17]⟩
def z2r : List SOp := [⟨some 22,.move (.tmp 1),none⟩,⟨some 23,.move (.tmp 7),none⟩,⟨some 24,.indexAddr 27 (.tmp 22) (.tmp 23),none⟩,⟨some 25,.load 91 (.tmp 24),none⟩,⟨some 9,.alloc 91,none⟩,⟨none,.store 91 (.tmp 9) (.tmp 25),none⟩]
instance : Live z2r := ⟨[1,2,7,8,15,16,17]⟩
def z2q : List SOp := [⟨some 26,.move (.tmp 2),none⟩,⟨some 27,.load 91 (.tmp 8),none⟩,⟨some 28,.load 91 (.tmp 9),none⟩,⟨some 29,.call ⟨.value (.tmp 26),#[.tmp 27,.tmp 28],#[91,91]⟩,none⟩,⟨some 30,.unOp .not 4 (.tmp 29),none⟩]
instance : Live z2q := ⟨[1,2,8,9,15,16,17]⟩
def z2p : List SOp := [⟨some 6,.assign (.const (.bool false)),none⟩]
instance : Live z2p := ⟨[]⟩
def qmc : List SOp := [⟨some 31,.binOp .add 3 (.tmp 17) (.const (.int .i64 1)) 3,none⟩,⟨some 17,.move (.tmp 31),none⟩]
instance : Live qmc := ⟨[1,2,15,16,17]⟩
def qmb : List SOp := [⟨some 6,.assign (.const (.bool true)),none⟩]
instance : Live qmb := ⟨[]⟩
def qin : SC :=
 (.seq (.ops false z2t) (.seq (.cond (.tmp 18) .skip (.exit 0)) (.seq (.block 1 (.seq (.ops false z2s) (.seq (.ops false z2r) (.seq (.ops false z2q) (.cond (.tmp 30) (.seq (.ops false z2p) .ret) .skip))))) (.ops false qmc))))
def t_k124 : SC :=
 (.seq (.ops false z2x) (.seq (.seq (.ops false z2w) (.cond (.tmp 14) (.seq (.ops false z2v) .ret) .skip)) (.seq (.seq (.ops false z2u) (.block 0 (.loop qin))) (.seq (.ops false qmb) .ret))))
theorem it_k124 : FnIs Tryz.prog 124 32 [.tmp 6] t_k124 := ⟨Tryz.f124, _, Tryz.func124, rfl, rfl, rfl, rfl, by kernel_rfl⟩

def zdv : List SOp := [⟨some 2,.box 31 (.tmp 0),none⟩,⟨some 3,.box 31 (.tmp 1),none⟩,⟨some 4,.assign (.const (.bool false)),none⟩]
instance : Live zdv := ⟨[0,1]⟩
def zdu : List SOp := [⟨some 5,.fieldAddr 31 (.tmp 2) 0,none⟩,⟨some 6,.load 22 (.tmp 5),none⟩,⟨some 7,.fieldAddr 31 (.tmp 3) 0,none⟩,⟨some 8,.load 22 (.tmp 7),none⟩,⟨some 9,.call ⟨.value (.func 122),#[.tmp 6,.tmp 8],#[22,22]⟩,none⟩,⟨some 10,.move (.tmp 9),none⟩,⟨some 11,.fieldAddr 31 (.tmp 2) 1,some ((some 10),true)⟩,⟨some 12,.load 26 (.tmp 11),some ((some 10),true)⟩,⟨some 13,.fieldAddr 31 (.tmp 3) 1,some ((some 10),true)⟩,⟨some 14,.load 26 (.tmp 13),some ((some 10),true)⟩,⟨some 15,.call ⟨.value (.func 123),#[.tmp 12,.tmp 14],#[26,26]⟩,some ((some 10),true)⟩,⟨some 16,.binOp .eql 3 (.tmp 15) (.const (.int .i64 0)) 3,some ((some 10),true)⟩,⟨some 17,.pick (.tmp 10) (.tmp 16) (.const (.bool false)),none⟩,⟨some 18,.move (.tmp 17),none⟩,⟨some 19,.fieldAddr 31 (.tmp 2) 2,some ((some 18),true)⟩,⟨some 20,.load 27 (.tmp 19),some ((some 18),true)⟩,⟨some 21,.fieldAddr 31 (.tmp 3) 2,some ((some 18),true)⟩,⟨some 22,.load 27 (.tmp 21),some ((some 18),true)⟩,⟨some 23,.call ⟨.value (.func 124),#[.tmp 20,.tmp 22,.func 125],#[27,27,164]⟩,some ((some 18),true)⟩,⟨some 24,.pick (.tmp 18) (.tmp 23) (.const (.bool false)),none⟩,⟨some 4,.assign (.tmp 24),none⟩]
instance : Live zdu := ⟨[2,3]⟩
def t_k74 : SC :=
 (.seq (.ops false zdv) (.seq (.ops false zdu) .ret))
theorem it_k74 : FnIs Tryz.prog 74 25 [.tmp 4] t_k74 := ⟨Tryz.f74, _, Tryz.func74, rfl, rfl, rfl, rfl, by kernel_rfl⟩

def z2o : List SOp := [⟨some 2,.box 91 (.tmp 0),none⟩,⟨some 3,.box 91 (.tmp 1),none⟩,⟨some 4,.assign (.const (.bool false)),none⟩]
instance : Live z2o := ⟨[0,1]⟩
def z2n : List SOp := [⟨some 5,.load 91 (.tmp 2),none⟩,⟨some 6,.load 91 (.tmp 3),none⟩,⟨some 7,.call ⟨.value (.func 106),#[.tmp 5,.tmp 6],#[91,91]⟩,none⟩,⟨some 8,.binOp .eql 3 (.tmp 7) (.const (.int .i64 0)) 3,none⟩,⟨some 4,.assign (.tmp 8),none⟩]
instance : Live z2n := ⟨[2,3]⟩
def t_k125 : SC :=
 (.seq (.ops false z2o) (.seq (.ops false z2n) .ret))
theorem it_k125 : FnIs Tryz.prog 125 9 [.tmp 4] t_k125 := ⟨Tryz.f125, _, Tryz.func125, rfl, rfl, rfl, rfl, by kernel_rfl⟩

noncomputable def eqC {α : Type} (a b : α) : Bool := @decide (a = b) (Classical.propDecidable _)
theorem q48 {α : Type} {a b : α} (h : a = b) : eqC a b = true := by classical exact decide_eq_true h
theorem q1a {α : Type} {a b : α} (h : ¬ a = b) : eqC a b = false := by classical exact decide_eq_false h
theorem eqC_self {α : Type} (a : α) : eqC a a = true := q48 rfl
theorem qqh {x y : Ent} (h1 : x.rep = y.rep) (h2 : x.num = y.num) (h3 : x.sku = y.sku) (h4 : x.qty = y.qty) : x = y := by
 cases x; cases y
 simp only at h1 h2 h3 h4
 rw [h1, h2, h3, h4]
theorem rec_ext {x y : Rec} (h1 : x.sku = y.sku) (h2 : x.past = y.past) : x = y := by
 cases x; cases y
 simp only at h1 h2
 rw [h1, h2]
theorem qo0 {α : Type} {a b : List α} {i : Nat} {x y : α} (hx : a[i]? = some x) (hy : b[i]? = some y) (h : ¬ x = y) : ¬ a = b := fun e => by
 rw [e, hy] at hx
 exact h (Option.some.inj hx).symm
theorem qaf (a b : List Ent) (ha : a.length ≤ 1000000000) (hb : b.length ≤ 1000000000) : Ev (En Tryz.prog rfl).P 122 [.sl 4 (q0b a), .sl 4 (q0b b)] (.ret (.bool (eqC a b))) := by
 refine Ev.of_body it_k122 (by simp) (Run.start ?_)
 unfold t_k122
 have e1 := q0n a
 have e2 := q0n b
 have hS := q9v
 by_cases hab : a.length = b.length
 case' neg =>
  rw [q1a fun h => hab (by rw [h])]
  (have hF := (aI @e1 @e2); refine q01 (k:=?_); clear hF)
  all_goals first | (exfalso; omega) | exact Fin.tmp' rfl rfl
 (have hF := (aI @e1 (aI @e2 @hab)); refine q01 (k:=?_); clear hF)
 refine Run.while (σ := Nat) (fun i => ⟨tms [(0, .sl 4 (q0b a)), (1, .sl 4 (q0b b)), (12, .int .i64 (b.length : Int)), (13, .int .i64 (i : Int))], mms []⟩) (fun i => i ≤ b.length ∧ ∀ j, j < i → a[j]? = b[j]?) (fun i => b.length - i) 0 (have hW := @q07; q0g) ⟨Nat.zero_le _, fun j hj => absurd hj (Nat.not_lt_zero _)⟩ ?_
 rintro i ⟨hi, hp⟩
 unfold qip
 by_cases hlt : i < b.length
 ·obtain ⟨x, hx⟩ : ∃ x, a[i]? = some x := ⟨a[i]'(by omega), by simp [show i < a.length by omega]⟩
  obtain ⟨y, hy⟩ : ∃ y, b[i]? = some y := ⟨b[i], by simp [hlt]⟩
  have g1 := q0w hx
  have g2 := q0w hy
  by_cases he : x = y
  ·have hs := q63 hp (hx.trans ((congrArg some he).trans hy.symm))
   subst he
   (have hF := (aI (aI @e1 @e2) (aI @hab (aI @g1 @g2))); refine q01 (k:=?_); clear hF)
   (refine Fin.nextW (i + 1) ?_ (have hW := @q07; q0g); (try dsimp only))
   exact ⟨⟨hlt, hs⟩, by omega⟩
  ·rw [q1a (qo0 hx hy he)]
   by_cases r1 : x.rep = y.rep
   ·by_cases r2 : x.num = y.num
    ·by_cases r3 : x.sku = y.sku
     ·have r4 : ¬ x.qty = y.qty := fun h => he (qqh r1 r2 r3 h)
      (have hF := (aI (aI (aI @e1 @e2) (aI @hab @g1)) (aI (aI @g2 @r1) (aI @r2 (aI @r3 @r4)))); refine q01 (k:=?_); clear hF)
      exact Fin.tmp' rfl rfl
     ·(have hF := (aI (aI (aI @e1 @e2) (aI @hab @g1)) (aI (aI @g2 @r1) (aI @r2 @r3))); refine q01 (k:=?_); clear hF)
      exact Fin.tmp' rfl rfl
    ·(have hF := (aI (aI @e1 (aI @e2 @hab)) (aI (aI @g1 @g2) (aI @r1 @r2))); refine q01 (k:=?_); clear hF)
     exact Fin.tmp' rfl rfl
   ·(have hF := (aI (aI @e1 (aI @e2 @hab)) (aI @g1 (aI @g2 @r1))); refine q01 (k:=?_); clear hF)
    exact Fin.tmp' rfl rfl
 ·rw [q48 (q2u (by omega) fun j hj => hp j (by omega))]
  (have hF := (aI @e1 (aI @e2 @hab)); refine q01 (k:=?_); clear hF)
  exact Fin.tmp' rfl rfl
theorem ev_k125 (a b : Rec) (ha : wt a.past ≤ 50000000) (hb : wt b.past ≤ 50000000) : Ev (En Tryz.prog rfl).P 125 [q3p a, q3p b] (.ret (.bool (decide (q31 a b = 0)))) := by
 refine Ev.of_body it_k125 (by simp) (Run.start ?_)
 unfold t_k125 q3p
 have hS := q9v
 have c1 := qh5 a b ha hb
 generalize q31 a b = v at *
 (have hF := True.intro; refine q01 (k:=?_); clear hF)
 refine q00 [q3p a, q3p b] (he := c1) (k:=?_)
 (have hF := True.intro; refine q01 (k:=?_); clear hF)
 exact Fin.tmp' rfl rfl
theorem qae (a b : List Rec) (ha : a.length ≤ 1000000000) (hb : b.length ≤ 1000000000) (hwa : ∀ r ∈ a, wt r.past ≤ 50000000) (hwb : ∀ r ∈ b, wt r.past ≤ 50000000) (hca : ∀ r ∈ a, q72 r) (hcb : ∀ r ∈ b, q72 r) :
 Ev (En Tryz.prog rfl).P 124 [.sl 3 (q09 a), .sl 3 (q09 b), .fn 125 []] (.ret (.bool (eqC a b))) := by
 refine Ev.of_body it_k124 (by simp) (Run.start ?_)
 unfold t_k124
 have e1 := q0h a
 have e2 := q0h b
 have hS := q9v
 by_cases hab : a.length = b.length
 case' neg =>
  rw [q1a fun h => hab (by rw [h])]
  (have hF := (aI @e1 @e2); refine q01 (k:=?_); clear hF)
  all_goals first | (exfalso; omega) | exact Fin.tmp' rfl rfl
 (have hF := (aI @e1 (aI @e2 @hab)); refine q01 (k:=?_); clear hF)
 refine Run.while (σ := Nat) (fun i => ⟨tms [(1, .sl 3 (q09 b)), (2, .fn 125 []), (15, .sl 3 (q09 a)), (16, .int .i64 (b.length : Int)), (17, .int .i64 (i : Int))], mms []⟩) (fun i => i ≤ b.length ∧ ∀ j, j < i → a[j]? = b[j]?) (fun i => b.length - i) 0 (have hW := @q02; q0g) ⟨Nat.zero_le _, fun j hj => absurd hj (Nat.not_lt_zero _)⟩ ?_
 rintro i ⟨hi, hp⟩
 unfold qin
 by_cases hlt : i < b.length
 ·obtain ⟨x, hx⟩ : ∃ x, a[i]? = some x := ⟨a[i]'(by omega), by simp [show i < a.length by omega]⟩
  obtain ⟨y, hy⟩ : ∃ y, b[i]? = some y := ⟨b[i], by simp [hlt]⟩
  have g1 := q0o hx
  have g2 := q0o hy
  have hxm := List.mem_of_getElem? hx
  have hym := List.mem_of_getElem? hy
  have c1 := ev_k125 x y (hwa x hxm) (hwb y hym)
  have hs : q31 x y = 0 → _ := fun h => q63 hp (hx.trans ((congrArg some (qdt (hca x hxm) (hcb y hym) h)).trans hy.symm))
  have hn : ¬ q31 x y = 0 → ¬ a = b := fun h => qo0 hx hy (fun e => h (by rw [e]; exact qds y))
  generalize q31 x y = v at *
  (have hF := (aI (aI @e1 @e2) (aI @hab (aI @g1 @g2))); refine q01 (k:=?_); clear hF)
  refine q00 [q3p x, q3p y] (he := c1) (k:=?_)
  by_cases hv : v = 0
  ·have hs := hs hv
   rw [decide_eq_true hv]
   (have hF := (aI (aI @e1 @e2) (aI @hab (aI @g1 @g2))); refine q01 (k:=?_); clear hF)
   (refine Fin.nextW (i + 1) ?_ (have hW := @q02; q0g); (try dsimp only))
   exact ⟨⟨hlt, hs⟩, by omega⟩
  ·rw [decide_eq_false hv, q1a (hn hv)]
   (have hF := (aI (aI @e1 @e2) (aI @hab (aI @g1 @g2))); refine q01 (k:=?_); clear hF)
   exact Fin.tmp' rfl rfl
 ·rw [q48 (q2u (by omega) fun j hj => hp j (by omega))]
  (have hF := (aI @e1 (aI @e2 @hab)); refine q01 (k:=?_); clear hF)
  exact Fin.tmp' rfl rfl
theorem zlt (a b : Swt) (ha : wtS a ≤ 30000000) (hb : wtS b ≤ 30000000) (pa : CanP a.past) (pb : CanP b.past) (ra : ∀ r ∈ a.defer, q72 r) (rb : ∀ r ∈ b.defer, q72 r) : Ev (En Tryz.prog rfl).P 74 [q33 a, q33 b] (.ret (.bool (eqC a b))) := by
 refine Ev.of_body it_k74 (by simp) (Run.start ?_)
 unfold t_k74 q33
 obtain ⟨u1, u2, u3, u4, u5⟩ := q3q ha
 obtain ⟨w1, w2, w3, w4, w5⟩ := q3q hb
 have hS := q9v
 have hca := q61 a.live a.past.vec a.past.cloud a.defer
 have hcb := q61 b.live b.past.vec b.past.cloud b.defer
 have c1 := qaf a.live b.live (by omega) (by omega)
 have c2 := zm8 a.past b.past (by omega) (by omega)
 have c3 := qae a.defer b.defer (by omega) (by omega) (fun r hr => by have := u5 r hr; omega) (fun r hr => by have := w5 r hr; omega) ra rb
 by_cases h1 : a.live = b.live
 case' neg =>
  rw [q1a h1] at c1
  rw [q1a (fun h => h1 (by rw [h]))]
  (have hF := (aI @hca @hcb); refine q01 (k:=?_); clear hF)
  refine q00 [.sl 4 (q0b a.live), .sl 4 (q0b b.live)] (he := c1) (k:=?_)
  (have hF := (aI @hca @hcb); refine q01 (k:=?_); clear hF)
  exact Fin.tmp' rfl rfl
 rw [q48 h1] at c1
 by_cases h2 : zao a.past b.past = 0
 case' neg =>
  rw [q1a (fun h => h2 (by rw [h]; exact q9n.2 rfl))]
  generalize zao a.past b.past = v at *
  (have hF := (aI @hca @hcb); refine q01 (k:=?_); clear hF)
  refine q00 [.sl 4 (q0b a.live), .sl 4 (q0b b.live)] (he := c1) (k:=?_)
  (have hF := (aI @hca @hcb); refine q01 (k:=?_); clear hF)
  refine q00 [q0f a.past, q0f b.past] (he := c2) (k:=?_)
  (have hF := (aI @hca (aI @hcb @h2)); refine q01 (k:=?_); clear hF)
  exact Fin.tmp' rfl rfl
 rw [h2] at c2
 have hp : a.past = b.past := by
  have h := q9n.1 h2
  have e1 : q16 a.past = a.past := pa
  have e2 : q16 b.past = b.past := pb
  rw [e1, e2] at h
  exact h
 have hf : eqC a b = eqC a.defer b.defer := by
  by_cases h3 : a.defer = b.defer
  ·rw [q48 h3, q48 (qpk h1 hp h3)]
  ·rw [q1a h3, q1a (fun h => h3 (by rw [h]))]
 rw [hf]
 generalize eqC a.defer b.defer = v at *
 (have hF := (aI @hca @hcb); refine q01 (k:=?_); clear hF)
 refine q00 [.sl 4 (q0b a.live), .sl 4 (q0b b.live)] (he := c1) (k:=?_)
 (have hF := (aI @hca @hcb); refine q01 (k:=?_); clear hF)
 refine q00 [q0f a.past, q0f b.past] (he := c2) (k:=?_)
 (have hF := (aI @hca @hcb); refine q01 (k:=?_); clear hF)
 refine q00 [.sl 3 (q09 a.defer), .sl 3 (q09 b.defer), .fn 125 []] (he := c3) (k:=?_)
 (have hF := (aI @hca @hcb); refine q01 (k:=?_); clear hF)
 exact Fin.tmp' rfl rfl
theorem qj2 (p q : Pst) : qpp p q = eqC p q := by
 by_cases h : p = q
 ·rw [q48 h, h]; exact q9z ⟨rfl, rfl⟩
 ·rw [q1a h]
  refine q4w fun ⟨h1, h2⟩ => h ?_
  cases p; cases q
  simp only at h1 h2
  rw [h1, h2]
theorem q47 (a b : Swt) (ha : wtS a ≤ 100000000) (hb : wtS b ≤ 100000000) : Ev (En Tryz.prog rfl).P 15 [q33 a, q33 b] (.ret (.bool (eqC a b))) := by
 refine Ev.of_body it_k15 (by simp) (Run.start ?_)
 unfold t_k15 q33
 obtain ⟨u1, u2, u3, u4, u5⟩ := q3q ha
 obtain ⟨w1, w2, w3, w4, w5⟩ := q3q hb
 have u6 := u2
 unfold wt at u6
 have hS := q9v
 have hca := q61 a.live a.past.vec a.past.cloud a.defer
 have hcb := q61 b.live b.past.vec b.past.cloud b.defer
 have e1 := q0n a.live
 have e2 := q0h a.defer
 have e3 := q0n b.live
 have e4 := q0h b.defer
 have c1 := zly a.past b.past (by omega) (by omega)
 rw [qj2] at c1
 by_cases h1 : a.live.length = b.live.length
 case' neg =>
  rw [q1a fun h => h1 (by rw [h])]
  (have hF := (aI (aI @hca (aI @hcb @e1)) (aI @e2 (aI @e3 @e4))); refine q01 (k:=?_); clear hF)
  all_goals first | (exfalso; omega) | exact Fin.tmp' rfl rfl
 by_cases h2 : a.past = b.past
 case' neg =>
  rw [q1a h2] at c1
  rw [q1a fun h => h2 (by rw [h])]
  (have hF := (aI (aI @hca (aI @hcb @e1)) (aI (aI @e2 @e3) (aI @e4 @h1))); refine q01 (k:=?_); clear hF)
  refine q00 [q0f a.past, q0f b.past] (he := c1) (k:=?_)
  (have hF := (aI (aI @hca (aI @hcb @e1)) (aI (aI @e2 @e3) (aI @e4 @h1))); refine q01 (k:=?_); clear hF)
  exact Fin.tmp' rfl rfl
 rw [q48 h2] at c1
 by_cases h3 : a.defer.length = b.defer.length
 case' neg =>
  rw [q1a fun h => h3 (by rw [h])]
  (have hF := (aI (aI @hca (aI @hcb @e1)) (aI (aI @e2 @e3) (aI @e4 @h1))); refine q01 (k:=?_); clear hF)
  refine q00 [q0f a.past, q0f b.past] (he := c1) (k:=?_)
  (have hF := (aI (aI @hca (aI @hcb @e1)) (aI (aI @e2 @e3) (aI @e4 @h1))); refine q01 (k:=?_); clear hF)
  all_goals first | (exfalso; omega) | exact Fin.tmp' rfl rfl
 (have hF := (aI (aI @hca (aI @hcb @e1)) (aI (aI @e2 @e3) (aI @e4 @h1))); refine q01 (k:=?_); clear hF)
 refine q00 [q0f a.past, q0f b.past] (he := c1) (k:=?_)
 (have hF := (aI (aI (aI @hca @hcb) (aI @e1 @e2)) (aI (aI @e3 @e4) (aI @h1 @h3))); refine q01 (k:=?_); clear hF)
 refine Run.while (σ := Nat) (fun i => ⟨tms [(2, .ptr 2 0), (3, .ptr 3 0), (5, .int .i64 (i : Int))], mms [(2, .cells [.sl 4 (q0b a.live), .sl 1 (q05 a.past.vec), .sl 3 (q0d a.past.cloud), .sl 3 (q09 a.defer)]), (3, .cells [.sl 4 (q0b b.live), .sl 1 (q05 b.past.vec), .sl 3 (q0d b.past.cloud), .sl 3 (q09 b.defer)])]⟩)
  (fun i => i ≤ b.live.length ∧ ∀ j, j < i → a.live[j]? = b.live[j]?) (fun i => b.live.length - i) 0 (have hW := (aI @q02 @q07); q0g) ⟨Nat.zero_le _, fun j hj => absurd hj (Nat.not_lt_zero _)⟩ ?_
 rintro i ⟨hi, hp⟩
 unfold qrv
 by_cases hlt : i < b.live.length
 ·obtain ⟨x, hx⟩ : ∃ x, a.live[i]? = some x := ⟨a.live[i]'(by omega), by simp [show i < a.live.length by omega]⟩
  obtain ⟨y, hy⟩ : ∃ y, b.live[i]? = some y := ⟨b.live[i], by simp [hlt]⟩
  have g1 := q0w hx
  have g2 := q0w hy
  by_cases he : x = y
  ·have hs := q63 hp (hx.trans ((congrArg some he).trans hy.symm))
   subst he
   (have hF := (aI (aI (aI @hca @hcb) (aI @e1 (aI @e2 @e3))) (aI (aI @e4 @h1) (aI @h3 (aI @g1 @g2)))); refine q01 (k:=?_); clear hF)
   (refine Fin.nextW (i + 1) ?_ (have hW := (aI @q02 @q07); q0g); (try dsimp only))
   exact ⟨⟨hlt, hs⟩, by omega⟩
  ·rw [q1a (fun h => qo0 hx hy he (by rw [h]))]
   by_cases r1 : x.rep = y.rep
   ·by_cases r2 : x.num = y.num
    ·by_cases r3 : x.sku = y.sku
     ·have r4 : ¬ x.qty = y.qty := fun h => he (qqh r1 r2 r3 h)
      (have hF := (aI (aI (aI @hca (aI @hcb @e1)) (aI (aI @e2 @e3) (aI @e4 @h1))) (aI (aI @h3 (aI @g1 @g2)) (aI (aI @r1 @r2) (aI @r3 @r4)))); refine q01 (k:=?_); clear hF)
      exact Fin.tmp' rfl rfl
     ·(have hF := (aI (aI (aI @hca (aI @hcb @e1)) (aI @e2 (aI @e3 @e4))) (aI (aI @h1 (aI @h3 @g1)) (aI (aI @g2 @r1) (aI @r2 @r3)))); refine q01 (k:=?_); clear hF)
      exact Fin.tmp' rfl rfl
    ·(have hF := (aI (aI (aI @hca (aI @hcb @e1)) (aI @e2 (aI @e3 @e4))) (aI (aI @h1 (aI @h3 @g1)) (aI @g2 (aI @r1 @r2)))); refine q01 (k:=?_); clear hF)
     exact Fin.tmp' rfl rfl
   ·(have hF := (aI (aI (aI @hca @hcb) (aI @e1 (aI @e2 @e3))) (aI (aI @e4 (aI @h1 @h3)) (aI @g1 (aI @g2 @r1)))); refine q01 (k:=?_); clear hF)
    exact Fin.tmp' rfl rfl
 ·have hle : a.live = b.live := q2u (by omega) fun j hj => hp j (by omega)
  (have hF := (aI (aI @hca (aI @hcb @e1)) (aI (aI @e2 @e3) (aI @e4 @h1))); refine q01 (k:=?_); clear hF)
  clear hi hlt hp
  refine Run.while (σ := Nat) (fun i => ⟨tms [(2, .ptr 2 0), (3, .ptr 3 0), (6, .int .i64 (i : Int))], mms [(2, .cells [.sl 4 (q0b a.live), .sl 1 (q05 a.past.vec), .sl 3 (q0d a.past.cloud), .sl 3 (q09 a.defer)]), (3, .cells [.sl 4 (q0b b.live), .sl 1 (q05 b.past.vec), .sl 3 (q0d b.past.cloud), .sl 3 (q09 b.defer)])]⟩)
   (fun i => i ≤ b.defer.length ∧ ∀ j, j < i → a.defer[j]? = b.defer[j]?) (fun i => b.defer.length - i) 0 (have hW := (aI @q02 @q07); q0g) ⟨Nat.zero_le _, fun j hj => absurd hj (Nat.not_lt_zero _)⟩ ?_
  rintro i ⟨hi, hp⟩
  unfold qru
  by_cases hlt : i < b.defer.length
  ·obtain ⟨x, hx⟩ : ∃ x, a.defer[i]? = some x := ⟨a.defer[i]'(by omega), by simp [show i < a.defer.length by omega]⟩
   obtain ⟨y, hy⟩ : ∃ y, b.defer[i]? = some y := ⟨b.defer[i], by simp [hlt]⟩
   have g1 := q0o hx
   have g2 := q0o hy
   have hwr := u5 x (List.mem_of_getElem? hx)
   unfold wt at hwr
   have c2 := zly x.past y.past (by omega) (by omega)
   rw [qj2] at c2
   by_cases r1 : x.sku = y.sku
   ·by_cases r2 : x.past = y.past
    ·rw [q48 r2] at c2
     have hs := q63 hp (hx.trans ((congrArg some (rec_ext r1 r2)).trans hy.symm))
     (have hF := (aI (aI (aI @hca @hcb) (aI @e1 (aI @e2 @e3))) (aI (aI @e4 (aI @h1 @h3)) (aI @g1 (aI @g2 @r1)))); refine q01 (k:=?_); clear hF)
     refine q00 [q0f x.past, q0f y.past] (he := c2) (k:=?_)
     (have hF := (aI (aI (aI @hca @hcb) (aI @e1 (aI @e2 @e3))) (aI (aI @e4 (aI @h1 @h3)) (aI @g1 (aI @g2 @r1)))); refine q01 (k:=?_); clear hF)
     (refine Fin.nextW (i + 1) ?_ (have hW := (aI @q02 @q07); q0g); (try dsimp only))
     exact ⟨⟨hlt, hs⟩, by omega⟩
    ·rw [q1a r2] at c2
     rw [q1a (fun h => qo0 hx hy (fun h => r2 (by rw [h])) (by rw [h]))]
     (have hF := (aI (aI (aI @hca @hcb) (aI @e1 (aI @e2 @e3))) (aI (aI @e4 (aI @h1 @h3)) (aI @g1 (aI @g2 @r1)))); refine q01 (k:=?_); clear hF)
     refine q00 [q0f x.past, q0f y.past] (he := c2) (k:=?_)
     (have hF := (aI (aI (aI @hca @hcb) (aI @e1 (aI @e2 @e3))) (aI (aI @e4 (aI @h1 @h3)) (aI @g1 (aI @g2 @r1)))); refine q01 (k:=?_); clear hF)
     exact Fin.tmp' rfl rfl
   ·rw [q1a (fun h => qo0 hx hy (fun h => r1 (by rw [h])) (by rw [h]))]
    (have hF := (aI (aI (aI @hca @hcb) (aI @e1 (aI @e2 @e3))) (aI (aI @e4 (aI @h1 @h3)) (aI @g1 (aI @g2 @r1)))); refine q01 (k:=?_); clear hF)
    exact Fin.tmp' rfl rfl
  ·rw [q48 (qpk hle h2 (q2u (by omega) fun j hj => hp j (by omega)))]
   (have hF := (aI (aI (aI @hca @hcb) (aI @e1 @e2)) (aI (aI @e3 @e4) (aI @h1 @h3))); refine q01 (k:=?_); clear hF)
   exact Fin.tmp' rfl rfl

def zdr : List SOp := [⟨some 4,.assign (.const (.slice none 0 0)),none⟩,⟨some 5,.assign (.const (.bool false)),none⟩]
instance : Live zdr := ⟨[0,1]⟩
def zdq : List SOp := [⟨some 6,.assign (.const (.slice none 0 0)),none⟩]
instance : Live zdq := ⟨[0,1]⟩
def zdp : List SOp := [⟨some 7,.assign (.const (.int .i64 0)),none⟩,⟨some 8,.assign (.const (.int .i64 0)),none⟩]
instance : Live zdp := ⟨[0,1,6]⟩
def zdo : List SOp := [⟨some 9,.move (.tmp 7),none⟩,⟨some 10,.move (.tmp 0),none⟩,⟨some 11,.call ⟨.builtin .len,#[.tmp 10],#[22]⟩,none⟩,⟨some 12,.binOp .lss 3 (.tmp 9) (.tmp 11) 3,none⟩,⟨some 13,.move (.tmp 12),none⟩,⟨some 14,.move (.tmp 8),some ((some 13),false)⟩,⟨some 15,.move (.tmp 1),some ((some 13),false)⟩,⟨some 16,.call ⟨.builtin .len,#[.tmp 15],#[22]⟩,some ((some 13),false)⟩,⟨some 17,.binOp .lss 3 (.tmp 14) (.tmp 16) 3,some ((some 13),false)⟩,⟨some 18,.pick (.tmp 13) (.const (.bool true)) (.tmp 17),none⟩]
instance : Live zdo := ⟨[0,1,6,7,8]⟩
def zdn : List SOp := [⟨some 40,.move (.tmp 8),none⟩,⟨some 41,.move (.tmp 1),none⟩,⟨some 42,.call ⟨.builtin .len,#[.tmp 41],#[22]⟩,none⟩,⟨some 43,.binOp .eql 3 (.tmp 40) (.tmp 42) 3,none⟩,⟨some 44,.move (.tmp 43),none⟩,⟨some 45,.move (.tmp 7),some ((some 44),false)⟩,⟨some 46,.move (.tmp 0),some ((some 44),false)⟩,⟨some 47,.call ⟨.builtin .len,#[.tmp 46],#[22]⟩,some ((some 44),false)⟩,⟨some 48,.binOp .lss 3 (.tmp 45) (.tmp 47) 3,some ((some 44),false)⟩,⟨some 49,.move (.tmp 48),some ((some 44),false)⟩,⟨some 50,.move (.tmp 0),some ((some 49),true)⟩,⟨some 51,.move (.tmp 7),some ((some 49),true)⟩,⟨some 52,.indexAddr 22 (.tmp 50) (.tmp 51),some ((some 49),true)⟩,⟨some 53,.fieldAddr 62 (.tmp 52) 0,some ((some 49),true)⟩,⟨some 54,.load 41 (.tmp 53),some ((some 49),true)⟩,⟨some 55,.move (.tmp 1),some ((some 49),true)⟩,⟨some 56,.move (.tmp 8),some ((some 49),true)⟩,⟨some 57,.indexAddr 22 (.tmp 55) (.tmp 56),some ((some 49),true)⟩,⟨some 58,.fieldAddr 62 (.tmp 57) 0,some ((some 49),true)⟩,⟨some 59,.load 41 (.tmp 58),some ((some 49),true)⟩,⟨some 60,.call ⟨.value (.func 116),#[.tmp 54,.tmp 59],#[41,41]⟩,some ((some 49),true)⟩,⟨some 61,.pick (.tmp 49) (.tmp 60) (.const (.bool false)),some ((some 44),false)⟩,⟨some 62,.pick (.tmp 44) (.const (.bool true)) (.tmp 61),none⟩,⟨some 39,.assign (.tmp 62),none⟩]
instance : Live zdn := ⟨[0,1,6,7,8]⟩
def zdm : List SOp := [⟨some 63,.move (.tmp 6),none⟩,⟨some 64,.move (.tmp 0),none⟩,⟨some 65,.move (.tmp 7),none⟩,⟨some 66,.indexAddr 22 (.tmp 64) (.tmp 65),none⟩,⟨some 67,.load 62 (.tmp 66),none⟩,⟨some 68,.buildSlice 22 1 #[(0,.tmp 67)],none⟩,⟨some 69,.call ⟨.builtin .append,#[.tmp 63,.tmp 68],#[22,22]⟩,none⟩,⟨some 6,.assign (.tmp 69),none⟩]
instance : Live zdm := ⟨[0,1,6,7,8]⟩
def zdl : List SOp := [⟨some 70,.move (.tmp 7),none⟩,⟨some 71,.binOp .add 3 (.tmp 70) (.const (.int .i64 1)) 3,none⟩,⟨some 7,.assign (.tmp 71),none⟩]
instance : Live zdl := ⟨[0,1,6,7,8]⟩
def zdk : List SOp := [⟨some 73,.move (.tmp 7),none⟩,⟨some 74,.move (.tmp 0),none⟩,⟨some 75,.call ⟨.builtin .len,#[.tmp 74],#[22]⟩,none⟩,⟨some 76,.binOp .eql 3 (.tmp 73) (.tmp 75) 3,none⟩,⟨some 77,.move (.tmp 76),none⟩,⟨some 78,.move (.tmp 1),some ((some 77),false)⟩,⟨some 79,.move (.tmp 8),some ((some 77),false)⟩,⟨some 80,.indexAddr 22 (.tmp 78) (.tmp 79),some ((some 77),false)⟩,⟨some 81,.fieldAddr 62 (.tmp 80) 0,some ((some 77),false)⟩,⟨some 82,.load 41 (.tmp 81),some ((some 77),false)⟩,⟨some 83,.move (.tmp 0),some ((some 77),false)⟩,⟨some 84,.move (.tmp 7),some ((some 77),false)⟩,⟨some 85,.indexAddr 22 (.tmp 83) (.tmp 84),some ((some 77),false)⟩,⟨some 86,.fieldAddr 62 (.tmp 85) 0,some ((some 77),false)⟩,⟨some 87,.load 41 (.tmp 86),some ((some 77),false)⟩,⟨some 88,.call ⟨.value (.func 116),#[.tmp 82,.tmp 87],#[41,41]⟩,some ((some 77),false)⟩,⟨some 89,.pick (.tmp 77) (.const (.bool true)) (.tmp 88),none⟩,⟨some 72,.assign (.tmp 89),none⟩]
instance : Live zdk := ⟨[0,1,6,7,8]⟩
def zdj : List SOp := [⟨some 90,.move (.tmp 6),none⟩,⟨some 91,.move (.tmp 1),none⟩,⟨some 92,.move (.tmp 8),none⟩,⟨some 93,.indexAddr 22 (.tmp 91) (.tmp 92),none⟩,⟨some 94,.load 62 (.tmp 93),none⟩,⟨some 95,.buildSlice 22 1 #[(0,.tmp 94)],none⟩,⟨some 96,.call ⟨.builtin .append,#[.tmp 90,.tmp 95],#[22,22]⟩,none⟩,⟨some 6,.assign (.tmp 96),none⟩]
instance : Live zdj := ⟨[0,1,6,7,8]⟩
def qt3 : List SOp := [⟨some 97,.move (.tmp 8),none⟩,⟨some 98,.binOp .add 3 (.tmp 97) (.const (.int .i64 1)) 3,none⟩,⟨some 8,.assign (.tmp 98),none⟩]
instance : Live qt3 := ⟨[0,1,6,7,8]⟩
def qt2 : List SOp := [⟨some 19,.move (.tmp 0),none⟩,⟨some 20,.move (.tmp 7),none⟩,⟨some 21,.indexAddr 22 (.tmp 19) (.tmp 20),none⟩,⟨some 22,.load 62 (.tmp 21),none⟩,⟨some 23,.move (.tmp 1),none⟩,⟨some 24,.move (.tmp 8),none⟩,⟨some 25,.indexAddr 22 (.tmp 23) (.tmp 24),none⟩,⟨some 26,.load 62 (.tmp 25),none⟩,⟨some 27,.binOp .neq 62 (.tmp 22) (.tmp 26) 62,none⟩]
instance : Live qt2 := ⟨[0,1,6,7,8]⟩
def qt1 : List SOp := [⟨some 4,.assign (.const (.slice none 0 0)),none⟩,⟨some 5,.assign (.const (.bool false)),none⟩]
instance : Live qt1 := ⟨[]⟩
def qt0 : List SOp := [⟨some 28,.move (.tmp 6),none⟩,⟨some 29,.move (.tmp 0),none⟩,⟨some 30,.move (.tmp 7),none⟩,⟨some 31,.indexAddr 22 (.tmp 29) (.tmp 30),none⟩,⟨some 32,.load 62 (.tmp 31),none⟩,⟨some 33,.buildSlice 22 1 #[(0,.tmp 32)],none⟩,⟨some 34,.call ⟨.builtin .append,#[.tmp 28,.tmp 33],#[22,22]⟩,none⟩,⟨some 6,.assign (.tmp 34),none⟩]
instance : Live qt0 := ⟨[0,1,6,7,8]⟩
def qsz : List SOp := [⟨some 35,.move (.tmp 7),none⟩,⟨some 36,.binOp .add 3 (.tmp 35) (.const (.int .i64 1)) 3,none⟩,⟨some 7,.assign (.tmp 36),none⟩]
instance : Live qsz := ⟨[0,1,6,7,8]⟩
def qsy : List SOp := [⟨some 37,.move (.tmp 8),none⟩,⟨some 38,.binOp .add 3 (.tmp 37) (.const (.int .i64 1)) 3,none⟩,⟨some 8,.assign (.tmp 38),none⟩]
instance : Live qsy := ⟨[0,1,6,7,8]⟩
def qsx : List SOp := [⟨some 99,.move (.tmp 6),none⟩,⟨some 4,.assign (.tmp 99),none⟩,⟨some 5,.assign (.const (.bool true)),none⟩]
instance : Live qsx := ⟨[6]⟩
def qrf : SC :=
 (.seq (.seq (.ops false zdo) (.cond (.tmp 18) .skip (.exit 0))) (.block 1 (.block 2 (.seq (.ops true zdn) (.cond (.tmp 39) (.seq (.ops false zdm) (.ops false zdl)) (.seq (.ops true zdk) (.cond (.tmp 72) (.seq (.ops false zdj) (.ops false qt3)) (.seq (.seq (.ops true qt2) (.cond (.tmp 27) (.seq (.ops false qt1) .ret) .skip)) (.seq (.ops false qt0) (.seq (.ops false qsz) (.ops false qsy)))))))))))
def t_k78 : SC :=
 (.seq (.ops false zdr) (.seq (.ops false zdq) (.seq (.ops false zdp) (.seq (.block 0 (.loop qrf)) (.seq (.ops false qsx) .ret)))))
theorem it_k78 : FnIs Tryz.prog 78 100 [.tmp 4, .tmp 5] t_k78 := ⟨Tryz.f78, _, Tryz.func78, rfl, rfl, rfl, rfl, by kernel_rfl⟩

def zdg : List SOp := [⟨some 4,.assign (.const (.slice none 0 0)),none⟩]
instance : Live zdg := ⟨[0,1]⟩
def zdf : List SOp := [⟨some 5,.assign (.const (.slice none 0 0)),none⟩]
instance : Live zdf := ⟨[0,1]⟩
def zde : List SOp := [⟨some 6,.assign (.const (.int .i64 0)),none⟩,⟨some 7,.assign (.const (.int .i64 0)),none⟩]
instance : Live zde := ⟨[0,1,5]⟩
def zdd : List SOp := [⟨some 9,.move (.tmp 6),none⟩,⟨some 10,.move (.tmp 0),none⟩,⟨some 11,.call ⟨.builtin .len,#[.tmp 10],#[27]⟩,none⟩,⟨some 12,.binOp .lss 3 (.tmp 9) (.tmp 11) 3,none⟩,⟨some 13,.move (.tmp 12),none⟩,⟨some 14,.move (.tmp 7),some ((some 13),false)⟩,⟨some 15,.move (.tmp 1),some ((some 13),false)⟩,⟨some 16,.call ⟨.builtin .len,#[.tmp 15],#[27]⟩,some ((some 13),false)⟩,⟨some 17,.binOp .lss 3 (.tmp 14) (.tmp 16) 3,some ((some 13),false)⟩,⟨some 18,.pick (.tmp 13) (.const (.bool true)) (.tmp 17),none⟩]
instance : Live zdd := ⟨[0,1,5,6,7]⟩
def zdc : List SOp := [⟨some 8,.assign (.const (.int .i64 0)),none⟩]
instance : Live zdc := ⟨[0,1,5,6,7]⟩
def zdb : List SOp := [⟨some 19,.move (.tmp 7),none⟩,⟨some 20,.move (.tmp 1),none⟩,⟨some 21,.call ⟨.builtin .len,#[.tmp 20],#[27]⟩,none⟩,⟨some 22,.binOp .eql 3 (.tmp 19) (.tmp 21) 3,none⟩]
instance : Live zdb := ⟨[0,1,5,6,7]⟩
def zda : List SOp := [⟨some 8,.assign (.const (.int .i64 (-1))),none⟩]
instance : Live zda := ⟨[0,1,5,6,7]⟩
def zd9 : List SOp := [⟨some 23,.move (.tmp 6),none⟩,⟨some 24,.move (.tmp 0),none⟩,⟨some 25,.call ⟨.builtin .len,#[.tmp 24],#[27]⟩,none⟩,⟨some 26,.binOp .eql 3 (.tmp 23) (.tmp 25) 3,none⟩]
instance : Live zd9 := ⟨[0,1,5,6,7]⟩
def zd8 : List SOp := [⟨some 8,.assign (.const (.int .i64 1)),none⟩]
instance : Live zd8 := ⟨[0,1,5,6,7]⟩
def qsw : List SOp := [⟨some 27,.move (.tmp 0),none⟩,⟨some 28,.move (.tmp 6),none⟩,⟨some 29,.indexAddr 27 (.tmp 27) (.tmp 28),none⟩,⟨some 30,.load 91 (.tmp 29),none⟩,⟨some 31,.move (.tmp 1),none⟩,⟨some 32,.move (.tmp 7),none⟩,⟨some 33,.indexAddr 27 (.tmp 31) (.tmp 32),none⟩,⟨some 34,.load 91 (.tmp 33),none⟩,⟨some 35,.call ⟨.value (.func 130),#[.tmp 30,.tmp 34],#[91,91]⟩,none⟩,⟨some 8,.assign (.tmp 35),none⟩]
instance : Live qsw := ⟨[0,1,5,6,7]⟩
def qsv : List SOp := [⟨some 36,.move (.tmp 8),none⟩,⟨some 37,.binOp .leq 3 (.tmp 36) (.const (.int .i64 0)) 3,none⟩]
instance : Live qsv := ⟨[0,1,5,6,7,8]⟩
def qsu : List SOp := [⟨some 38,.move (.tmp 5),none⟩,⟨some 39,.move (.tmp 0),none⟩,⟨some 40,.move (.tmp 6),none⟩,⟨some 41,.indexAddr 27 (.tmp 39) (.tmp 40),none⟩,⟨some 42,.load 91 (.tmp 41),none⟩,⟨some 43,.buildSlice 27 1 #[(0,.tmp 42)],none⟩,⟨some 44,.call ⟨.builtin .append,#[.tmp 38,.tmp 43],#[27,27]⟩,none⟩,⟨some 5,.assign (.tmp 44),none⟩]
instance : Live qsu := ⟨[0,1,5,6,7,8]⟩
def qst : List SOp := [⟨some 45,.move (.tmp 6),none⟩,⟨some 46,.binOp .add 3 (.tmp 45) (.const (.int .i64 1)) 3,none⟩,⟨some 6,.assign (.tmp 46),none⟩]
instance : Live qst := ⟨[0,1,5,6,7,8]⟩
def qss : List SOp := [⟨some 47,.move (.tmp 5),none⟩,⟨some 48,.move (.tmp 1),none⟩,⟨some 49,.move (.tmp 7),none⟩,⟨some 50,.indexAddr 27 (.tmp 48) (.tmp 49),none⟩,⟨some 51,.load 91 (.tmp 50),none⟩,⟨some 52,.buildSlice 27 1 #[(0,.tmp 51)],none⟩,⟨some 53,.call ⟨.builtin .append,#[.tmp 47,.tmp 52],#[27,27]⟩,none⟩,⟨some 5,.assign (.tmp 53),none⟩]
instance : Live qss := ⟨[0,1,5,6,7,8]⟩
def qsr : List SOp := [⟨some 54,.move (.tmp 8),none⟩,⟨some 55,.binOp .geq 3 (.tmp 54) (.const (.int .i64 0)) 3,none⟩]
instance : Live qsr := ⟨[0,1,5,6,7,8]⟩
def qsq : List SOp := [⟨some 56,.move (.tmp 7),none⟩,⟨some 57,.binOp .add 3 (.tmp 56) (.const (.int .i64 1)) 3,none⟩,⟨some 7,.assign (.tmp 57),none⟩]
instance : Live qsq := ⟨[0,1,5,6,7]⟩
def qsp : List SOp := [⟨some 58,.move (.tmp 5),none⟩,⟨some 4,.assign (.tmp 58),none⟩]
instance : Live qsp := ⟨[5]⟩
def qre : SC :=
 (.seq (.seq (.ops false zdd) (.cond (.tmp 18) .skip (.exit 0))) (.block 1 (.seq (.ops false zdc) (.seq (.seq (.ops false zdb) (.cond (.tmp 22) (.ops false zda) (.seq (.ops false zd9) (.cond (.tmp 26) (.ops false zd8) (.ops true qsw))))) (.seq (.seq (.ops false qsv) (.cond (.tmp 37) (.seq (.ops false qsu) (.ops false qst)) (.ops false qss))) (.seq (.ops false qsr) (.cond (.tmp 55) (.ops false qsq) .skip)))))))
def t_k80 : SC :=
 (.seq (.ops false zdg) (.seq (.ops false zdf) (.seq (.ops false zde) (.seq (.block 0 (.loop qre)) (.seq (.ops false qsp) .ret)))))
theorem it_k80 : FnIs Tryz.prog 80 59 [.tmp 4] t_k80 := ⟨Tryz.f80, _, Tryz.func80, rfl, rfl, rfl, rfl, by kernel_rfl⟩

def z1s : List SOp := [⟨some 2,.box 91 (.tmp 0),none⟩,⟨some 3,.box 91 (.tmp 1),none⟩,⟨some 4,.assign (.const (.int .i64 0)),none⟩]
instance : Live z1s := ⟨[0,1]⟩
def z1r : List SOp := [⟨some 5,.fieldAddr 91 (.tmp 2) 0,none⟩,⟨some 6,.load 9 (.tmp 5),none⟩,⟨some 7,.fieldAddr 91 (.tmp 3) 0,none⟩,⟨some 8,.load 9 (.tmp 7),none⟩,⟨some 9,.binOp .lss 9 (.tmp 6) (.tmp 8) 9,none⟩]
instance : Live z1r := ⟨[2,3]⟩
def z1q : List SOp := [⟨some 4,.assign (.const (.int .i64 (-1))),none⟩]
instance : Live z1q := ⟨[]⟩
def z1p : List SOp := [⟨some 10,.fieldAddr 91 (.tmp 2) 0,none⟩,⟨some 11,.load 9 (.tmp 10),none⟩,⟨some 12,.fieldAddr 91 (.tmp 3) 0,none⟩,⟨some 13,.load 9 (.tmp 12),none⟩,⟨some 14,.binOp .gtr 9 (.tmp 11) (.tmp 13) 9,none⟩]
instance : Live z1p := ⟨[2,3]⟩
def z1o : List SOp := [⟨some 4,.assign (.const (.int .i64 1)),none⟩]
instance : Live z1o := ⟨[]⟩
def z1n : List SOp := [⟨some 15,.fieldAddr 91 (.tmp 2) 1,none⟩,⟨some 16,.load 26 (.tmp 15),none⟩,⟨some 17,.fieldAddr 91 (.tmp 3) 1,none⟩,⟨some 18,.load 26 (.tmp 17),none⟩,⟨some 19,.call ⟨.value (.func 119),#[.tmp 16,.tmp 18],#[26,26]⟩,none⟩,⟨some 4,.assign (.tmp 19),none⟩]
instance : Live z1n := ⟨[2,3]⟩
def t_k130 : SC :=
 (.seq (.ops false z1s) (.seq (.seq (.ops false z1r) (.cond (.tmp 9) (.seq (.ops false z1q) .ret) .skip)) (.seq (.seq (.ops false z1p) (.cond (.tmp 14) (.seq (.ops false z1o) .ret) .skip)) (.seq (.ops false z1n) .ret))))
theorem it_k130 : FnIs Tryz.prog 130 20 [.tmp 4] t_k130 := ⟨Tryz.f130, _, Tryz.func130, rfl, rfl, rfl, rfl, by kernel_rfl⟩

theorem ev_k130 (a b : Rec) (ha : wt a.past ≤ 30000000) (hb : wt b.past ≤ 30000000) : Ev (En Tryz.prog rfl).P 130 [q3p a, q3p b] (.ret (.int .i64 (q31 a b))) := by
 refine Ev.of_body it_k130 (by simp) (Run.start ?_)
 unfold t_k130 q3p q31
 have c2 := zma a.past b.past ha hb
 have h1 := qoq a.sku b.sku
 have hr : q7k a.sku b.sku = -1 ∨ q7k a.sku b.sku = 0 ∨ q7k a.sku b.sku = 1 := qa6 _ _
 have h0 : (a.sku = b.sku) = (q7k a.sku b.sku = 0) := propext q4g.symm
 generalize q7k a.sku b.sku = v at *
 rcases hr with rfl | rfl | rfl
 ·rw [if_neg (by decide)]
  rw [show decide ((-1 : Int) < 0) = true by decide] at h1
  (have hF := @h1; refine q01 (k:=?_); clear hF)
  exact Fin.tmp' rfl rfl
 ·rw [if_pos rfl]
  rw [show decide ((0 : Int) < 0) = false by decide] at h1
  rw [show ((0 : Int) = 0) = True by simp] at h0
  (have hF := (aI (aI @h1 (aI @h0 @Bool.not_true)) (aI @Bool.or_true (aI @Bool.false_or @decide_true))); refine q01 (k:=?_); clear hF)
  refine q00 [q0f a.past, q0f b.past] (he := c2) (k:=?_)
  (have hF := True.intro; refine q01 (k:=?_); clear hF)
  exact Fin.tmp' rfl rfl
 ·rw [if_neg (by decide)]
  rw [show decide ((1 : Int) < 0) = false by decide] at h1
  rw [show ((1 : Int) = 0) = False by simp] at h0
  (have hF := (aI (aI @h1 @h0) (aI @Bool.not_false (aI @Bool.or_false @decide_false))); refine q01 (k:=?_); clear hF)
  exact Fin.tmp' rfl rfl
theorem ev_k78 (A B : List Ent) (hA : A.length ≤ 100000000) (hB : B.length ≤ 100000000) :
 Ev (En Tryz.prog rfl).P 78 [.sl 4 (q0b A), .sl 4 (q0b B)] (.ret (.tup [.sl 4 (q0b (qcr (qef A B))), .bool (qef A B).isSome])) := by
 refine Ev.of_body it_k78 (by simp) (Run.start ?_)
 unfold t_k78
 have e1 := q0n A
 have e2 := q0n B
 have hS := q9v
 have hR0 : (q62 (fun _ => true) (fun _ => true) (A.length + B.length) (A.drop 0) (B.drop 0)).map ([] ++ ·) = qef A B := by
  unfold qef
  simp
 generalize qef A B = R at hR0 ⊢
 (have hF := (aI @e1 @e2); refine q01 (k:=?_); clear hF)
 refine Run.wk (Wk.own_nil 6 69 4 rfl rfl) ?_
 refine Run.while (σ := MgS) (fun z => ⟨tms [(0, .sl 4 (q0b A)), (1, .sl 4 (q0b B)), (6, .os 69 z.out.length), (7, .int .i64 (z.i : Int)), (8, .int .i64 (z.j : Int))], mms [(69, .arr z.out.length 4 (q0b z.out))]⟩)
  (fun z => z.i ≤ A.length ∧ z.j ≤ B.length ∧ z.out.length ≤ z.i + z.j ∧ ∃ n, (A.length - z.i) + (B.length - z.j) ≤ n ∧ (q62 (fun _ => true) (fun _ => true) n (A.drop z.i) (B.drop z.j)).map (z.out ++ ·) = R) (fun z => (A.length - z.i) + (B.length - z.j)) ⟨0, 0, []⟩ (have hW := @q07; q0g) ⟨Nat.zero_le _, Nat.zero_le _, Nat.le_refl _, _, Nat.le_refl _, hR0⟩ ?_
 rintro ⟨i, j, out⟩ ⟨hi, hj, ho, n, hn, hf⟩
 dsimp only at *
 unfold qrf
 have e3 := q0n out
 have o1 : ∀ e : Ent, qey true e = [e] := fun e => rfl
 by_cases hia : i < A.length
 ·obtain ⟨a, haa⟩ : ∃ a, A[i]? = some a := ⟨A[i], by simp [hia]⟩
  have g1 := q0w haa
  obtain ⟨n, rfl⟩ : ∃ m, n = m + 1 := ⟨n - 1, by omega⟩
  by_cases hjb : j < B.length
  ·obtain ⟨b, hbb⟩ : ∃ b, B[j]? = some b := ⟨B[j], by simp [hjb]⟩
   have g2 := q0w hbb
   have c5 := qqc a.dot b.dot
   have c6 := qqc b.dot a.dot
   have n1 : ¬ (i : Int) = (A.length : Int) := by omega
   have n2 : ¬ (j : Int) = (B.length : Int) := by omega
   rw [q3b haa, q3b hbb] at hf
   unfold q62 at hf
   rw [← q3b haa, ← q3b hbb] at hf
   (have hF := (aI (aI @e1 (aI @e2 @g1)) (aI @g2 (aI @n1 @n2))); refine q01 (k:=?_); clear hF)
   refine q00 [q3v a.dot, q3v b.dot] (he := c5) (k:=?_)
   cases hc : q34 a.dot b.dot
   ·rw [hc, if_neg (by decide)] at hf
    (have hF := (aI (aI @e1 (aI @e2 @g1)) (aI @g2 (aI @n1 @n2))); refine q01 (k:=?_); clear hF)
    refine q00 [q3v b.dot, q3v a.dot] (he := c6) (k:=?_)
    cases hc2 : q34 b.dot a.dot
    ·rw [hc2, if_neg (by decide)] at hf
     by_cases he : a = b
     ·subst he
      rw [if_pos ((qag a a).2 rfl), z6z] at hf
      (have hF := (aI (aI @e1 @e2) (aI @e3 (aI @g1 @g2))); refine q01 (k:=?_); clear hF)
      (refine Fin.nextW (⟨i + 1, j + 1, out ++ [a]⟩) ?_ (have hW := (aI @q07 @q12); q0g); (try dsimp only))
      exact ⟨⟨hia, hjb, by simp; omega, n, by omega, hf⟩, by omega⟩
     ·have he' : eqE a b = false := by
       cases h : eqE a b with
       | true => exact absurd ((qag a b).1 h) he
       | false => rfl
      rw [if_neg (by rw [he']; decide)] at hf
      have hRn : R = none := hf.symm
      rw [hRn]
      have hdd : a.dot = b.dot := qql _ _ hc hc2
      have r1 : a.rep = b.rep := congrArg Prod.fst hdd
      have r2 : a.num = b.num := congrArg Prod.snd hdd
      by_cases r3 : a.sku = b.sku
      ·have r4 : ¬ a.qty = b.qty := fun h => he (qqh r1 r2 r3 h)
       (have hF := (aI (aI (aI @e1 @e2) (aI @e3 @g1)) (aI (aI @g2 @r1) (aI @r2 (aI @r3 @r4)))); refine q01 (k:=?_); clear hF)
       exact Fin.two (x := .nil) (x' := .bool false) rfl rfl rfl rfl (.inr ⟨rfl, 4, rfl⟩) (.inl rfl)
      ·(have hF := (aI (aI (aI @e1 @e2) (aI @e3 @g1)) (aI (aI @g2 @r1) (aI @r2 @r3))); refine q01 (k:=?_); clear hF)
       exact Fin.two (x := .nil) (x' := .bool false) rfl rfl rfl rfl (.inr ⟨rfl, 4, rfl⟩) (.inl rfl)
    ·rw [hc2, if_pos rfl, q5k, o1] at hf
     (have hF := (aI (aI @e1 @e2) (aI @e3 (aI @g1 @g2))); refine q01 (k:=?_); clear hF)
     (refine Fin.nextW (⟨i, j + 1, out ++ [b]⟩) ?_ (have hW := (aI @q07 @q12); q0g); (try dsimp only))
     exact ⟨⟨hi, hjb, by simp; omega, n, by omega, hf⟩, by omega⟩
   ·rw [hc, if_pos rfl, q5k, o1] at hf
    (have hF := (aI (aI @e1 @e2) (aI @e3 (aI @g1 @g2))); refine q01 (k:=?_); clear hF)
    (refine Fin.nextW (⟨i + 1, j, out ++ [a]⟩) ?_ (have hW := (aI @q07 @q12); q0g); (try dsimp only))
    exact ⟨⟨hia, hj, by simp; omega, n, by omega, hf⟩, by omega⟩
  ·have hj' : j = B.length := by omega
   subst hj'
   rw [q3b haa, List.drop_length] at hf
   unfold q62 at hf
   rw [q5k, o1] at hf
   (have hF := (aI (aI @e1 @e2) (aI @e3 @g1)); refine q01 (k:=?_); clear hF)
   (refine Fin.nextW (⟨i + 1, B.length, out ++ [a]⟩) ?_ (have hW := (aI @q07 @q12); q0g); (try dsimp only))
   exact ⟨⟨hia, Nat.le_refl _, by simp; omega, n, by omega, by rw [List.drop_length]; exact hf⟩, by omega⟩
 ·have hi' : i = A.length := by omega
  subst hi'
  by_cases hjb : j < B.length
  ·obtain ⟨b, hbb⟩ : ∃ b, B[j]? = some b := ⟨B[j], by simp [hjb]⟩
   have g2 := q0w hbb
   have n2 : ¬ (j : Int) = (B.length : Int) := by omega
   obtain ⟨n, rfl⟩ : ∃ m, n = m + 1 := ⟨n - 1, by omega⟩
   rw [q3b hbb, List.drop_length] at hf
   unfold q62 at hf
   rw [q5k, o1] at hf
   (have hF := (aI (aI @e1 @e2) (aI @e3 (aI @g2 @n2))); refine q01 (k:=?_); clear hF)
   (refine Fin.nextW (⟨A.length, j + 1, out ++ [b]⟩) ?_ (have hW := (aI @q07 @q12); q0g); (try dsimp only))
   exact ⟨⟨Nat.le_refl _, hjb, by simp; omega, n, by omega, by rw [List.drop_length]; exact hf⟩, by omega⟩
  ·have hRs : R = some out := by
    rw [List.drop_length, List.drop_eq_nil_of_le (by omega)] at hf
    rw [← hf]
    cases n <;> simp [q62]
   rw [hRs]
   (have hF := (aI @e1 (aI @e2 @e3)); refine q01 (k:=?_); clear hF)
   exact Fin.two (x := .sl 4 (q0b out)) (x' := .bool true) (by simp [fz, fzc, q4i, upd, tms, mms]) (q07 _) rfl rfl (.inl rfl) (.inl rfl)
theorem qon {α : Type} {l : List α} {i : Nat} {a : α} (h : l[i]? = some a) : l.drop i = a :: l.drop (i + 1) := by
 obtain ⟨h1, h2⟩ := List.getElem?_eq_some_iff.1 h
 rw [List.drop_eq_getElem_cons h1, h2]
structure MgR where
 i : Nat
 j : Nat
 out : List Rec
theorem ev_k80 (A B : List Rec) (hA : A.length ≤ 100000000) (hB : B.length ≤ 100000000) (hwa : ∀ r ∈ A, wt r.past ≤ 30000000) (hwb : ∀ r ∈ B, wt r.past ≤ 30000000) :
 Ev (En Tryz.prog rfl).P 80 [.sl 3 (q09 A), .sl 3 (q09 B)] (.ret (.sl 3 (q09 (qa3 A B)))) := by
 refine Ev.of_body it_k80 (by simp) (Run.start ?_)
 unfold t_k80
 have e1 := q0h A
 have e2 := q0h B
 have hS := q9v
 have hR0 : [] ++ qa3 (A.drop 0) (B.drop 0) = qa3 A B := by simp
 generalize qa3 A B = R at hR0 ⊢
 (have hF := (aI @e1 @e2); refine q01 (k:=?_); clear hF)
 refine Run.wk (Wk.own_nil 5 44 3 rfl rfl) ?_
 refine Run.while (σ := MgR) (fun z => ⟨tms [(0, .sl 3 (q09 A)), (1, .sl 3 (q09 B)), (5, .os 44 z.out.length), (6, .int .i64 (z.i : Int)), (7, .int .i64 (z.j : Int))], mms [(44, .arr z.out.length 3 (q09 z.out))]⟩)
  (fun z => z.i ≤ A.length ∧ z.j ≤ B.length ∧ z.out.length ≤ z.i + z.j ∧ z.out ++ qa3 (A.drop z.i) (B.drop z.j) = R) (fun z => (A.length - z.i) + (B.length - z.j)) ⟨0, 0, []⟩ (have hW := @q02; q0g) ⟨Nat.zero_le _, Nat.zero_le _, Nat.le_refl _, hR0⟩ ?_
 rintro ⟨i, j, out⟩ ⟨hi, hj, ho, hf⟩
 dsimp only at *
 unfold qre
 have e3 := q0h out
 by_cases hia : i < A.length
 ·obtain ⟨a, haa⟩ : ∃ a, A[i]? = some a := ⟨A[i], by simp [hia]⟩
  have g1 := q0o haa
  have n1 : ¬ (i : Int) = (A.length : Int) := by omega
  by_cases hjb : j < B.length
  ·obtain ⟨b, hbb⟩ : ∃ b, B[j]? = some b := ⟨B[j], by simp [hjb]⟩
   have g2 := q0o hbb
   have n2 : ¬ (j : Int) = (B.length : Int) := by omega
   have c5 := ev_k130 a b (hwa a (List.mem_of_getElem? haa)) (hwb b (List.mem_of_getElem? hbb))
   rw [zkp haa hbb] at hf
   generalize q31 a b = c at *
   (have hF := (aI (aI @e1 (aI @e2 @g1)) (aI @g2 (aI @n1 @n2))); refine q01 (k:=?_); clear hF)
   refine q00 [q3p a, q3p b] (he := c5) (k:=?_)
   by_cases h1 : c < 0
   ·rw [if_pos h1] at hf
    have h2 : c ≤ 0 := by omega
    have h3 : ¬ 0 ≤ c := by omega
    (have hF := (aI (aI (aI @e1 @e2) (aI @e3 @g1)) (aI (aI @g2 @n1) (aI @n2 (aI @h2 @h3)))); refine q01 (k:=?_); clear hF)
    (refine Fin.nextW (⟨i + 1, j, out ++ [a]⟩) ?_ (have hW := (aI @q02 @q2h); q0g); (try dsimp only))
    exact ⟨⟨hia, hj, by simp; omega, by rw [List.append_assoc]; exact hf⟩, by omega⟩
   ·rw [if_neg h1] at hf
    by_cases h4 : c = 0
    ·rw [if_pos h4] at hf
     have h2 : c ≤ 0 := by omega
     have h3 : 0 ≤ c := by omega
     (have hF := (aI (aI (aI @e1 @e2) (aI @e3 @g1)) (aI (aI @g2 @n1) (aI @n2 (aI @h2 @h3)))); refine q01 (k:=?_); clear hF)
     (refine Fin.nextW (⟨i + 1, j + 1, out ++ [a]⟩) ?_ (have hW := (aI @q02 @q2h); q0g); (try dsimp only))
     exact ⟨⟨hia, hjb, by simp; omega, by rw [List.append_assoc]; exact hf⟩, by omega⟩
    ·rw [if_neg h4] at hf
     have h2 : ¬ c ≤ 0 := by omega
     have h3 : 0 ≤ c := by omega
     (have hF := (aI (aI (aI @e1 @e2) (aI @e3 @g1)) (aI (aI @g2 @n1) (aI @n2 (aI @h2 @h3)))); refine q01 (k:=?_); clear hF)
     (refine Fin.nextW (⟨i, j + 1, out ++ [b]⟩) ?_ (have hW := (aI @q02 @q2h); q0g); (try dsimp only))
     exact ⟨⟨hi, hjb, by simp; omega, by rw [List.append_assoc]; exact hf⟩, by omega⟩
  ·have hj' : j = B.length := by omega
   subst hj'
   rw [qon haa, List.drop_length, q98] at hf
   (have hF := (aI (aI @e1 @e2) (aI @e3 (aI @g1 @n1))); refine q01 (k:=?_); clear hF)
   (refine Fin.nextW (⟨i + 1, B.length, out ++ [a]⟩) ?_ (have hW := (aI @q02 @q2h); q0g); (try dsimp only))
   exact ⟨⟨hia, Nat.le_refl _, by simp; omega, by rw [List.drop_length, q98, List.append_assoc]; exact hf⟩, by omega⟩
 ·have hi' : i = A.length := by omega
  subst hi'
  by_cases hjb : j < B.length
  ·obtain ⟨b, hbb⟩ : ∃ b, B[j]? = some b := ⟨B[j], by simp [hjb]⟩
   have g2 := q0o hbb
   have n2 : ¬ (j : Int) = (B.length : Int) := by omega
   rw [qon hbb, List.drop_length, q99] at hf
   (have hF := (aI (aI @e1 @e2) (aI @e3 (aI @g2 @n2))); refine q01 (k:=?_); clear hF)
   (refine Fin.nextW (⟨A.length, j + 1, out ++ [b]⟩) ?_ (have hW := (aI @q02 @q2h); q0g); (try dsimp only))
   exact ⟨⟨Nat.le_refl _, hjb, by simp; omega, by rw [List.drop_length, q99, List.append_assoc]; exact hf⟩, by omega⟩
  ·have hRs : out = R := by
    rw [List.drop_length, List.drop_eq_nil_of_le (by omega), q99, List.append_nil] at hf
    exact hf
   rw [← hRs]
   (have hF := (aI @e1 (aI @e2 @e3)); refine q01 (k:=?_); clear hF)
   exact Fin.tmp' (by simp [fz, fzc, q4i, upd, tms, mms]) (q02 _)

def zdx : List SOp := [⟨some 1,.box 31 (.tmp 0),none⟩,⟨some 2,.alloc 29,none⟩]
instance : Live zdx := ⟨[0]⟩
def zdw : List SOp := [⟨some 3,.fieldAddr 31 (.tmp 1) 0,none⟩,⟨some 4,.load 22 (.tmp 3),none⟩,⟨some 5,.fieldAddr 31 (.tmp 1) 1,none⟩,⟨some 6,.load 26 (.tmp 5),none⟩,⟨some 7,.fieldAddr 31 (.tmp 1) 0,none⟩,⟨some 8,.load 22 (.tmp 7),none⟩,⟨some 9,.call ⟨.value (.func 71),#[.tmp 8,.const (.string ⟨#[]⟩),.const (.int .i64 (-1))],#[22,9,3]⟩,none⟩,⟨some 10,.call ⟨.value (.func 120),#[.tmp 6,.tmp 9],#[26,26]⟩,none⟩,⟨some 11,.fieldAddr 31 (.tmp 1) 2,none⟩,⟨some 12,.load 27 (.tmp 11),none⟩,⟨some 13,.build 29 #[(0,.tmp 4),(1,.tmp 10),(2,.tmp 12)],none⟩,⟨none,.store 29 (.tmp 2) (.tmp 13),none⟩]
instance : Live zdw := ⟨[1,2]⟩
def t_k73 : SC :=
 (.seq (.ops false zdx) (.seq (.ops true zdw) .ret))
theorem it_k73 : FnIs Tryz.prog 73 14 [.cell 2 29] t_k73 := ⟨Tryz.f73, _, Tryz.func73, rfl, rfl, rfl, rfl, by kernel_rfl⟩

def zhy : List SOp := [⟨some 2,.box 29 (.tmp 0),none⟩,⟨some 3,.box 29 (.tmp 1),none⟩,⟨some 4,.alloc 29,none⟩,⟨some 5,.assign (.const (.bool false)),none⟩]
instance : Live zhy := ⟨[0,1]⟩
def zhx : List SOp := [⟨some 9,.fieldAddr 29 (.tmp 2) 0,none⟩,⟨some 10,.load 22 (.tmp 9),none⟩,⟨some 11,.fieldAddr 29 (.tmp 3) 0,none⟩,⟨some 12,.load 22 (.tmp 11),none⟩,⟨some 13,.call ⟨.value (.func 78),#[.tmp 10,.tmp 12],#[22,22]⟩,none⟩,⟨some 8,.move (.tmp 13),none⟩,⟨some 14,.extract (.tmp 8) 0,none⟩,⟨some 15,.extract (.tmp 8) 1,none⟩,⟨some 6,.assign (.tmp 14),none⟩,⟨some 7,.assign (.tmp 15),none⟩]
instance : Live zhx := ⟨[2,3,4]⟩
def zhw : List SOp := [⟨some 16,.move (.tmp 7),none⟩,⟨some 17,.unOp .not 4 (.tmp 16),none⟩]
instance : Live zhw := ⟨[2,3,4,6,7]⟩
def zhv : List SOp := [⟨some 18,.build 29 #[],none⟩,⟨none,.store 29 (.tmp 4) (.tmp 18),none⟩,⟨some 5,.assign (.const (.bool false)),none⟩]
instance : Live zhv := ⟨[4]⟩
def zhu : List SOp := [⟨some 19,.move (.tmp 6),none⟩,⟨some 20,.fieldAddr 29 (.tmp 2) 1,none⟩,⟨some 21,.load 26 (.tmp 20),none⟩,⟨some 22,.fieldAddr 29 (.tmp 3) 1,none⟩,⟨some 23,.load 26 (.tmp 22),none⟩,⟨some 24,.buildSlice 116 2 #[(0,.tmp 21),(1,.tmp 23)],none⟩,⟨some 25,.call ⟨.value (.func 79),#[.tmp 24],#[116]⟩,none⟩,⟨some 26,.fieldAddr 29 (.tmp 2) 2,none⟩,⟨some 27,.load 27 (.tmp 26),none⟩,⟨some 28,.fieldAddr 29 (.tmp 3) 2,none⟩,⟨some 29,.load 27 (.tmp 28),none⟩,⟨some 30,.call ⟨.value (.func 80),#[.tmp 27,.tmp 29],#[27,27]⟩,none⟩,⟨some 31,.build 29 #[(0,.tmp 19),(1,.tmp 25),(2,.tmp 30)],none⟩,⟨none,.store 29 (.tmp 4) (.tmp 31),none⟩,⟨some 5,.assign (.const (.bool true)),none⟩]
instance : Live zhu := ⟨[2,3,4,6]⟩
def t_k36 : SC :=
 (.seq (.ops false zhy) (.seq (.ops false zhx) (.seq (.seq (.ops false zhw) (.cond (.tmp 17) (.seq (.ops false zhv) .ret) .skip)) (.seq (.ops true zhu) .ret))))
theorem it_k36 : FnIs Tryz.prog 36 32 [.cell 4 29, .tmp 5] t_k36 := ⟨Tryz.f36, _, Tryz.func36, rfl, rfl, rfl, rfl, by kernel_rfl⟩

def zix : List SOp := [⟨some 2,.box 31 (.tmp 0),none⟩,⟨some 3,.box 31 (.tmp 1),none⟩,⟨some 4,.alloc 31,none⟩,⟨some 5,.assign (.const (.int .i64 0)),none⟩]
instance : Live zix := ⟨[0,1]⟩
def ziw : List SOp := [⟨some 8,.load 31 (.tmp 2),none⟩,⟨some 9,.call ⟨.value (.func 26),#[.tmp 8],#[31]⟩,none⟩,⟨some 10,.unOp .not 4 (.tmp 9),none⟩,⟨some 11,.move (.tmp 10),none⟩,⟨some 12,.load 31 (.tmp 3),some ((some 11),false)⟩,⟨some 13,.call ⟨.value (.func 26),#[.tmp 12],#[31]⟩,some ((some 11),false)⟩,⟨some 14,.unOp .not 4 (.tmp 13),some ((some 11),false)⟩,⟨some 15,.pick (.tmp 11) (.const (.bool true)) (.tmp 14),none⟩]
instance : Live ziw := ⟨[2,3,4]⟩
def ziv : List SOp := [⟨some 16,.build 31 #[],none⟩,⟨none,.store 31 (.tmp 4) (.tmp 16),none⟩,⟨some 5,.assign (.const (.int .i64 1)),none⟩]
instance : Live ziv := ⟨[4]⟩
def ziu : List SOp := [⟨some 18,.load 31 (.tmp 2),none⟩,⟨some 19,.call ⟨.value (.func 73),#[.tmp 18],#[31]⟩,none⟩,⟨some 20,.load 31 (.tmp 3),none⟩,⟨some 21,.call ⟨.value (.func 73),#[.tmp 20],#[31]⟩,none⟩,⟨some 22,.call ⟨.value (.func 36),#[.tmp 19,.tmp 21],#[29,29]⟩,none⟩,⟨some 17,.move (.tmp 22),none⟩,⟨some 23,.extract (.tmp 17) 0,none⟩,⟨some 24,.extract (.tmp 17) 1,none⟩,⟨some 6,.alloc 29,none⟩,⟨none,.store 29 (.tmp 6) (.tmp 23),none⟩,⟨some 7,.assign (.tmp 24),none⟩]
instance : Live ziu := ⟨[2,3,4]⟩
def zit : List SOp := [⟨some 25,.move (.tmp 7),none⟩,⟨some 26,.unOp .not 4 (.tmp 25),none⟩]
instance : Live zit := ⟨[4,6,7]⟩
def zis : List SOp := [⟨some 27,.build 31 #[],none⟩,⟨none,.store 31 (.tmp 4) (.tmp 27),none⟩,⟨some 5,.assign (.const (.int .i64 10)),none⟩]
instance : Live zis := ⟨[4]⟩
def zir : List SOp := [⟨some 28,.load 29 (.tmp 6),none⟩,⟨some 29,.call ⟨.value (.func 37),#[.tmp 28],#[29]⟩,none⟩,⟨none,.store 31 (.tmp 4) (.tmp 29),none⟩,⟨some 5,.assign (.const (.int .i64 0)),none⟩]
instance : Live zir := ⟨[4,6]⟩
def t_k29 : SC :=
 (.seq (.ops false zix) (.seq (.seq (.ops false ziw) (.cond (.tmp 15) (.seq (.ops false ziv) .ret) .skip)) (.seq (.ops true ziu) (.seq (.seq (.ops false zit) (.cond (.tmp 26) (.seq (.ops false zis) .ret) .skip)) (.seq (.ops false zir) .ret)))))
theorem it_k29 : FnIs Tryz.prog 29 30 [.cell 4 31, .tmp 5] t_k29 := ⟨Tryz.f29, _, Tryz.func29, rfl, rfl, rfl, rfl, by kernel_rfl⟩

theorem ev_k73 (s : Swt) (hw : wtS s ≤ 3000000) : Ev (En Tryz.prog rfl).P 73 [q33 s] (.ret (qeg (q7t s))) := by
 refine Ev.of_body it_k73 (by simp) (Run.start ?_)
 unfold t_k73 q33 q7t qdb
 obtain ⟨w1, w2, w3, w4, w5⟩ := q3q hw
 have hS := q9v
 have hcs := q61 s.live s.past.vec s.past.cloud s.defer
 have c1 := zlu s.live (by omega)
 have hdw := q7w s.live
 have c2 := zm9 s.past (q3w s.live) (by omega) (by omega)
 generalize q30 s.past (q3w s.live) = q at *
 generalize q3w s.live = d at *
 (have hF := @hcs; refine q01 (k:=?_); clear hF)
 refine q00 [.sl 4 (q0b s.live), .str ⟨#[]⟩, .int .i64 (-1)] (he := c1) (k:=?_)
 (have hF := @hcs; refine q01 (k:=?_); clear hF)
 refine q00 [q0f s.past, q0f d] (he := c2) (k:=?_)
 unfold q0f
 (have hF := @hcs; refine q01 (k:=?_); clear hF)
 exact Fin.all (xs := [qeg ⟨s.live, q, s.defer⟩]) (by with_unfolding_all rfl) (by simp [q0k, qbg]) rfl
def noF : Fct := ⟨[], ⟨[], []⟩, []⟩
def z8h (f g : Fct) : Fct := match qef f.adds g.adds with | none => noF | some L => ⟨L, q1s [f.gone, g.gone], qa3 f.recs g.recs⟩
theorem ev_k36 (f g : Fct) (hf : wtF f ≤ 15000000) (hg : wtF g ≤ 15000000) : Ev (En Tryz.prog rfl).P 36 [qeg f, qeg g] (.ret (.tup [qeg (z8h f g), .bool (qef f.adds g.adds).isSome])) := by
 refine Ev.of_body it_k36 (by simp) (AW.wkEnd (Run.start ?_))
 unfold t_k36 qeg z8h
 obtain ⟨u1, u2, u3, u4, u5⟩ := q74 hf
 obtain ⟨w1, w2, w3, w4, w5⟩ := q74 hg
 have hS := q9v
 have hcf := q61 f.adds f.gone.vec f.gone.cloud f.recs
 have hcg := q61 g.adds g.gone.vec g.gone.cloud g.recs
 have c1 := ev_k78 f.adds g.adds (by omega) (by omega)
 have c2 := ev_k79 [f.gone, g.gone] (show 2 ≤ 1000000000 by omega) (by simp only [List.map_cons, List.map_nil, List.sum_cons, List.sum_nil]; omega)
 have c3 := ev_k80 f.recs g.recs (by omega) (by omega) (fun r hr => by have := u5 r hr; omega) (fun r hr => by have := w5 r hr; omega)
 generalize q1s [f.gone, g.gone] = q at *
 generalize qa3 f.recs g.recs = R at *
 cases hE : qef f.adds g.adds with
 | none =>
  rw [hE] at c1
  change Ev _ _ _ (.ret (.tup [.sl 4 (q0b []), .bool false])) at c1
  (have hF := (aI @hcf @hcg); refine q01 (k:=?_); clear hF)
  refine q00 [.sl 4 (q0b f.adds), .sl 4 (q0b g.adds)] (he := c1) (k:=?_)
  (have hF := (aI @hcf @hcg); refine q01 (k:=?_); clear hF)
  exact Fin.done ⟨_, Wk.cells_nil (k := 4) rfl sub4, [qeg noF, .bool false], by with_unfolding_all rfl, by simp [q0k, qbg, AVal.stb], _, q1l _, rfl⟩
 | some L =>
  rw [hE] at c1
  change Ev _ _ _ (.ret (.tup [.sl 4 (q0b L), .bool true])) at c1
  (have hF := (aI @hcf @hcg); refine q01 (k:=?_); clear hF)
  refine q00 [.sl 4 (q0b f.adds), .sl 4 (q0b g.adds)] (he := c1) (k:=?_)
  (have hF := (aI @hcf @hcg); refine q01 (k:=?_); clear hF)
  refine q00 [.sl 2 (q1k [f.gone, g.gone])] (he := c2) (k:=?_)
  unfold q0f
  (have hF := (aI @hcf @hcg); refine q01 (k:=?_); clear hF)
  refine q00 [.sl 3 (q09 f.recs), .sl 3 (q09 g.recs)] (he := c3) (k:=?_)
  (have hF := (aI @hcf @hcg); refine q01 (k:=?_); clear hF)
  exact Fin.done ⟨_, Wk.refl _ _, [qeg ⟨L, q, R⟩, .bool true], by with_unfolding_all rfl, by simp [q0k, qbg, AVal.stb], _, q1l _, rfl⟩
theorem q9g {a b : Swt} (h : ¬ q6u a b = 0) : q37 a b = noS := if_neg h
theorem entR_len {A B : List Ent} {L : List Ent} (h : qef A B = some L) : L.length ≤ A.length + B.length := by
 have := qgl (fun _ => true) (fun _ => true) (A := A) (B := B) (A.length + B.length)
 change (qcr (qef A B)).length ≤ _ at this
 rw [h] at this
 exact this
theorem zlp (s : Swt) : wtF (q7t s) ≤ 2 * wtS s + 48 := by
 unfold wtF q7t wtS qdb
 have h1 := q9a s.past (q3w s.live)
 have h2 := q7w s.live
 simp only
 omega
theorem uniF_wt {f g : Fct} (hf : q3g f.recs) (hg : q3g g.recs) : wtF (z8h f g) ≤ wtF f + wtF g + 16 := by
 unfold z8h
 cases h : qef f.adds g.adds with
 | none => exact Nat.zero_le _
 | some L =>
  have h1 := entR_len h
  have h2 := q6o [f.gone, g.gone]
  simp only [List.map_cons, List.map_nil, List.sum_cons, List.sum_nil] at h2
  have h3 : q5d (qa3 f.recs g.recs) ≤ q5d f.recs + q5d g.recs := by
   rw [qnu hf hg, ← qfr]
   exact qb6 _
  unfold wtF
  simp only
  omega
theorem zm0 (a b : Swt) (hw : wtS a + wtS b ≤ 1900000) : Ev (En Tryz.prog rfl).P 29 [q33 a, q33 b] (.ret (.tup [q33 (q37 a b), .int .i64 (q6u a b)])) := by
 refine Ev.of_body it_k29 (by simp) (AW.wkEnd (Run.start ?_))
 unfold t_k29
 have hS := q9v
 have hca := q61 a.live a.past.vec a.past.cloud a.defer
 have hcb := q61 b.live b.past.vec b.past.cloud b.defer
 have c1 := ev_k26 a (by omega)
 have c2 := ev_k26 b (by omega)
 have c3 := ev_k73 a (by omega)
 have c4 := ev_k73 b (by omega)
 have wa := zlp a
 have wb := zlp b
 have c5 := ev_k36 (q7t a) (q7t b) (by omega) (by omega)
 unfold q33 at c1 c2 c3 c4 ⊢
 by_cases h1 : FormS a
 case' neg =>
  rw [qdc h1] at c1
  have he : q6u a b = 1 := if_neg (fun h => h1 h.1)
  rw [q9g (by rw [he]; decide), he]
  (have hF := (aI @hca @hcb); refine q01 (k:=?_); clear hF)
  refine q00 [_] (he := c1) (k:=?_)
  (have hF := (aI @hca @hcb); refine q01 (k:=?_); clear hF)
  exact Fin.done ⟨_, Wk.cells_nil (k := 4) rfl sub4, [q33 noS, .int .i64 1], by with_unfolding_all rfl, by simp [q0k, q2y, AVal.stb], _, q1l _, rfl⟩
 rw [qa9 h1] at c1
 by_cases h2 : FormS b
 case' neg =>
  rw [qdc h2] at c2
  have he : q6u a b = 1 := if_neg (fun h => h2 h.2)
  rw [q9g (by rw [he]; decide), he]
  (have hF := (aI @hca @hcb); refine q01 (k:=?_); clear hF)
  refine q00 [_] (he := c1) (k:=?_)
  (have hF := (aI @hca @hcb); refine q01 (k:=?_); clear hF)
  refine q00 [_] (he := c2) (k:=?_)
  (have hF := (aI @hca @hcb); refine q01 (k:=?_); clear hF)
  exact Fin.done ⟨_, Wk.cells_nil (k := 4) rfl sub4, [q33 noS, .int .i64 1], by with_unfolding_all rfl, by simp [q0k, q2y, AVal.stb], _, q1l _, rfl⟩
 rw [qa9 h2] at c2
 have hej := q7g h1 h2
 have hcn := q80 h1 h2
 change Ev _ _ _ (.ret (.tup [qeg (z8h (q7t a) (q7t b)), .bool (qef a.live b.live).isSome])) at c5
 cases hE : qef a.live b.live with
 | none =>
  have hM : q2l a b = none := hcn.1.2 (hcn.2.1 hE)
  rw [hM] at hej
  change q6u a b = 10 at hej
  rw [hE, show z8h (q7t a) (q7t b) = noF by unfold z8h; rw [show qef (q7t a).adds (q7t b).adds = none from hE]] at c5
  change Ev _ _ _ (.ret (.tup [qeg noF, .bool false])) at c5
  rw [q9g (by rw [hej]; decide), hej]
  generalize q7t a = f at *
  generalize q7t b = g at *
  unfold qeg at c3 c4 c5
  have hcf := q61 f.adds f.gone.vec f.gone.cloud f.recs
  have hcg := q61 g.adds g.gone.vec g.gone.cloud g.recs
  (have hF := (aI @hca @hcb); refine q01 (k:=?_); clear hF)
  refine q00 [_] (he := c1) (k:=?_)
  (have hF := (aI @hca @hcb); refine q01 (k:=?_); clear hF)
  refine q00 [_] (he := c2) (k:=?_)
  (have hF := (aI @hca @hcb); refine q01 (k:=?_); clear hF)
  refine q00 [_] (he := c3) (k:=?_)
  (have hF := (aI @hca @hcb); refine q01 (k:=?_); clear hF)
  refine q00 [_] (he := c4) (k:=?_)
  (have hF := (aI (aI @hca @hcb) (aI @hcf @hcg)); refine q01 (k:=?_); clear hF)
  refine q00 [_, _] (he := c5) (k:=?_)
  (have hF := (aI (aI @hca @hcb) (aI @hcf @hcg)); refine q01 (k:=?_); clear hF)
  exact Fin.done ⟨_, Wk.cells_nil (k := 4) rfl sub4, [q33 noS, .int .i64 10], by with_unfolding_all rfl, by simp [q0k, q2y, AVal.stb], _, q1l _, rfl⟩
 | some L =>
  obtain ⟨M, hM⟩ : ∃ M, q2l a b = some M := by
   cases hm : q2l a b with
   | none => rw [hcn.2.2 (hcn.1.1 hm)] at hE; cases hE
   | some M => exact ⟨M, rfl⟩
  rw [hM] at hej
  change q6u a b = 0 at hej
  have hu : z8h (q7t a) (q7t b) = unionF (q7t a) (q7t b) L := by
   unfold z8h
   rw [show qef (q7t a).adds (q7t b).adds = some L from hE]
   show Fct.mk L _ (qa3 a.defer b.defer) = Fct.mk L _ (q8b (a.defer ++ b.defer))
   rw [qnu h1.defer h2.defer]
  have hst := z8p h1 h2 hE hM
  have huw := uniF_wt (f := q7t a) (g := q7t b) h1.defer h2.defer
  have c6 := ev_k37 (z8h (q7t a) (q7t b)) (by omega)
  rw [show stF (z8h (q7t a) (q7t b)) = q37 a b by rw [hu, hst, q4n hej]] at c6
  rw [hE] at c5
  change Ev _ _ _ (.ret (.tup [qeg (z8h (q7t a) (q7t b)), .bool true])) at c5
  rw [hej]
  generalize z8h (q7t a) (q7t b) = u at *
  generalize q37 a b = s at *
  generalize q7t a = f at *
  generalize q7t b = g at *
  unfold qeg at c3 c4 c5 c6
  have hcf := q61 f.adds f.gone.vec f.gone.cloud f.recs
  have hcg := q61 g.adds g.gone.vec g.gone.cloud g.recs
  have hcu := q61 u.adds u.gone.vec u.gone.cloud u.recs
  have hc6 := q61 s.live s.past.vec s.past.cloud s.defer
  (have hF := (aI @hca @hcb); refine q01 (k:=?_); clear hF)
  refine q00 [_] (he := c1) (k:=?_)
  (have hF := (aI @hca @hcb); refine q01 (k:=?_); clear hF)
  refine q00 [_] (he := c2) (k:=?_)
  (have hF := (aI @hca @hcb); refine q01 (k:=?_); clear hF)
  refine q00 [_] (he := c3) (k:=?_)
  (have hF := (aI @hca @hcb); refine q01 (k:=?_); clear hF)
  refine q00 [_] (he := c4) (k:=?_)
  (have hF := (aI (aI @hca @hcb) (aI @hcf @hcg)); refine q01 (k:=?_); clear hF)
  refine q00 [_, _] (he := c5) (k:=?_)
  (have hF := (aI (aI @hca @hcb) (aI @hcf (aI @hcg @hcu))); refine q01 (k:=?_); clear hF)
  refine q00 [_] (he := c6) (k:=?_)
  unfold q33
  (have hF := (aI (aI @hca @hcb) (aI @hcu @hc6)); refine q01 (k:=?_); clear hF)
  exact Fin.done ⟨_, Wk.refl _ _, [q33 s, .int .i64 0], by with_unfolding_all rfl, by simp [q0k, q2y, AVal.stb], _, q1l _, rfl⟩

def zk3 : List SOp := [⟨some 0,.alloc 31,none⟩]
instance : Live zk3 := ⟨[]⟩
def zk2 : List SOp := [⟨some 1,.build 41 #[(0,.const (.int .i64 0)),(1,.const (.int .i64 1))],none⟩,⟨some 2,.build 62 #[(0,.tmp 1),(1,.const (.string ⟨#[65]⟩)),(2,.const (.int .i64 5))],none⟩,⟨some 3,.buildSlice 22 1 #[(0,.tmp 2)],none⟩,⟨some 4,.buildSlice 23 1 #[(0,.const (.int .i64 1))],none⟩,⟨some 5,.build 26 #[(0,.tmp 4)],none⟩,⟨some 6,.build 31 #[(0,.tmp 3),(1,.tmp 5)],none⟩,⟨none,.store 31 (.tmp 0) (.tmp 6),none⟩]
instance : Live zk2 := ⟨[0]⟩
def t_k14 : SC :=
 (.seq (.ops false zk3) (.seq (.ops false zk2) .ret))
theorem it_k14 : FnIs Tryz.prog 14 7 [.cell 0 31] t_k14 := ⟨Tryz.f14, _, Tryz.func14, rfl, rfl, rfl, rfl, by kernel_rfl⟩


def a1E : Ent := ⟨0, 1, sA, 5⟩
def a1P : Pst := ⟨[1], []⟩
def a1S : Swt := ⟨[a1E], a1P, []⟩
theorem a1rows : (ofT [(0, 1)]).map q0y = [[(1, 1)], [], [], [], [], [], [], [], [], [], [], [], [], [], [], []] := by
 have h : ofT [(0, 1)] = [[(1, 1)], [], [], [], [], [], [], [], [], [], [], [], [], [], [], []] := by decide
 rw [h]
 have n0 : q0y [] = [] := q4e Can.nil
 have n1 : q0y [(1, 1)] = [(1, 1)] := (qat (c := [(1, 1)]) (by decide) (by simp)).trans (by decide)
 simp only [List.map_cons, List.map_nil, n0, n1]
theorem a1rows2 : (q0l [a1P, ⟨[], []⟩]).map q0y = [[(1, 1)], [], [], [], [], [], [], [], [], [], [], [], [], [], [], []] := by
 have h : q0l [a1P, ⟨[], []⟩] = [[(1, 1)], [], [], [], [], [], [], [], [], [], [], [], [], [], [], []] := by decide
 rw [h]
 have n0 : q0y [] = [] := q4e Can.nil
 have n1 : q0y [(1, 1)] = [(1, 1)] := (qat (c := [(1, 1)]) (by decide) (by simp)).trans (by decide)
 simp only [List.map_cons, List.map_nil, n0, n1]
theorem a1dots : q3w [a1E] = a1P := by
 show ofP [(0, 1)] = a1P
 unfold ofP
 rw [qcq, a1rows]
 rfl
theorem a1join : q1s [a1P, ⟨[], []⟩] = a1P := by
 unfold q1s
 rw [qcq, a1rows2]
 rfl
theorem canP_nil : CanP ⟨[], []⟩ := by
 unfold CanP q16
 rw [qcq, rows0]
 rfl
theorem a1ent : q21 a1E = 0 := by unfold q21; simp [a1E, good_A]
theorem a1form : q71 [a1E] := ⟨fun i e h => by
 match i with
 | 0 => simp at h; subst h; exact a1ent
 | i + 1 => simp at h, fun i a b h h' => by simp at h'⟩
theorem qde : q3g [] := ⟨fun i r h => by simp at h, fun i a b h => by simp at h⟩
theorem a1sub : qrx [.sl 4 (q0b [a1E]), .sl 1 (q05 [1]), .nil, .nil] [.sl 4 (q0b [a1E]), .sl 1 (q05 [1]), .sl 3 [], .sl 3 []] := ⟨.inl rfl, .inl rfl, .inr ⟨rfl, 3, rfl⟩, .inr ⟨rfl, 3, rfl⟩, trivial⟩
theorem ev_k14 : Ev (En Tryz.prog rfl).P 14 [] (.ret (q33 a1S)) := by
 refine Ev.of_body it_k14 (by simp) (AW.wkEnd (Run.start ?_))
 unfold t_k14
 (have hF := True.intro; refine q01 (k:=?_); clear hF)
 exact Fin.done ⟨_, Wk.cells_nil (k := 0) rfl a1sub, [q33 a1S], by with_unfolding_all rfl, by simp [q0k, q2y], _, q1l _, rfl⟩

def zil : List SOp := [⟨some 2,.box 31 (.tmp 0),none⟩,⟨some 3,.box 31 (.tmp 1),none⟩,⟨some 4,.assign (.const (.bool false)),none⟩,⟨some 5,.assign (.const (.int .i64 0)),none⟩]
instance : Live zil := ⟨[0,1]⟩
def zik : List SOp := [⟨some 9,.load 31 (.tmp 2),none⟩,⟨some 10,.load 31 (.tmp 3),none⟩,⟨some 11,.call ⟨.value (.func 25),#[.tmp 9,.tmp 10],#[31,31]⟩,none⟩,⟨some 8,.move (.tmp 11),none⟩,⟨some 12,.extract (.tmp 8) 0,none⟩,⟨some 13,.extract (.tmp 8) 1,none⟩,⟨some 6,.alloc 31,none⟩,⟨none,.store 31 (.tmp 6) (.tmp 12),none⟩,⟨some 7,.assign (.tmp 13),none⟩]
instance : Live zik := ⟨[2,3]⟩
def zij : List SOp := [⟨some 14,.move (.tmp 7),none⟩,⟨some 15,.binOp .eql 32 (.tmp 14) (.const (.int .i64 0)) 32,none⟩,⟨some 16,.move (.tmp 15),none⟩,⟨some 17,.load 31 (.tmp 6),some ((some 16),true)⟩,⟨some 18,.load 31 (.tmp 3),some ((some 16),true)⟩,⟨some 19,.call ⟨.value (.func 74),#[.tmp 17,.tmp 18],#[31,31]⟩,some ((some 16),true)⟩,⟨some 20,.pick (.tmp 16) (.tmp 19) (.const (.bool false)),none⟩,⟨some 21,.move (.tmp 7),none⟩,⟨some 4,.assign (.tmp 20),none⟩,⟨some 5,.assign (.tmp 21),none⟩]
instance : Live zij := ⟨[3,6,7]⟩
def t_k31 : SC :=
 (.seq (.ops false zil) (.seq (.ops false zik) (.seq (.ops false zij) .ret)))
theorem it_k31 : FnIs Tryz.prog 31 22 [.tmp 4, .tmp 5] t_k31 := ⟨Tryz.f31, _, Tryz.func31, rfl, rfl, rfl, rfl, by kernel_rfl⟩

def zi9 : List SOp := [⟨some 2,.box 31 (.tmp 0),none⟩,⟨some 3,.box 31 (.tmp 1),none⟩,⟨some 4,.assign (.const (.int .i64 0)),none⟩,⟨some 5,.assign (.const (.int .i64 0)),none⟩]
instance : Live zi9 := ⟨[0,1]⟩
def zi8 : List SOp := [⟨some 11,.load 31 (.tmp 2),none⟩,⟨some 12,.load 31 (.tmp 3),none⟩,⟨some 13,.call ⟨.value (.func 25),#[.tmp 11,.tmp 12],#[31,31]⟩,none⟩,⟨some 10,.move (.tmp 13),none⟩,⟨some 14,.extract (.tmp 10) 0,none⟩,⟨some 15,.extract (.tmp 10) 1,none⟩,⟨some 6,.alloc 31,none⟩,⟨none,.store 31 (.tmp 6) (.tmp 14),none⟩,⟨some 7,.assign (.tmp 15),none⟩]
instance : Live zi8 := ⟨[2,3]⟩
def zi7 : List SOp := [⟨some 16,.move (.tmp 7),none⟩,⟨some 17,.binOp .neq 32 (.tmp 16) (.const (.int .i64 0)) 32,none⟩]
instance : Live zi7 := ⟨[2,3,6,7]⟩
def zi6 : List SOp := [⟨some 18,.move (.tmp 7),none⟩,⟨some 4,.assign (.const (.int .i64 0)),none⟩,⟨some 5,.assign (.tmp 18),none⟩]
instance : Live zi6 := ⟨[7]⟩
def zi5 : List SOp := [⟨some 19,.load 31 (.tmp 6),none⟩,⟨some 20,.load 31 (.tmp 3),none⟩,⟨some 21,.call ⟨.value (.func 74),#[.tmp 19,.tmp 20],#[31,31]⟩,none⟩,⟨some 22,.load 31 (.tmp 6),none⟩,⟨some 23,.load 31 (.tmp 2),none⟩,⟨some 24,.call ⟨.value (.func 74),#[.tmp 22,.tmp 23],#[31,31]⟩,none⟩,⟨some 8,.assign (.tmp 21),none⟩,⟨some 9,.assign (.tmp 24),none⟩]
instance : Live zi5 := ⟨[2,3,6]⟩
def zi4 : List SOp := [⟨some 26,.move (.tmp 8),none⟩,⟨some 27,.move (.tmp 26),none⟩,⟨some 28,.move (.tmp 9),some ((some 27),true)⟩,⟨some 29,.pick (.tmp 27) (.tmp 28) (.const (.bool false)),none⟩,⟨some 25,.assign (.tmp 29),none⟩]
instance : Live zi4 := ⟨[8,9]⟩
def zi3 : List SOp := [⟨some 4,.assign (.const (.int .i64 0)),none⟩,⟨some 5,.assign (.const (.int .i64 0)),none⟩]
instance : Live zi3 := ⟨[]⟩
def zi2 : List SOp := [⟨some 31,.move (.tmp 8),none⟩,⟨some 30,.assign (.tmp 31),none⟩]
instance : Live zi2 := ⟨[8,9]⟩
def zi1 : List SOp := [⟨some 4,.assign (.const (.int .i64 1)),none⟩,⟨some 5,.assign (.const (.int .i64 0)),none⟩]
instance : Live zi1 := ⟨[]⟩
def qtx : List SOp := [⟨some 33,.move (.tmp 9),none⟩,⟨some 32,.assign (.tmp 33),none⟩]
instance : Live qtx := ⟨[9]⟩
def qtw : List SOp := [⟨some 4,.assign (.const (.int .i64 2)),none⟩,⟨some 5,.assign (.const (.int .i64 0)),none⟩]
instance : Live qtw := ⟨[]⟩
def qtv : List SOp := [⟨some 4,.assign (.const (.int .i64 3)),none⟩,⟨some 5,.assign (.const (.int .i64 0)),none⟩]
instance : Live qtv := ⟨[]⟩
def t_k33 : SC :=
 (.seq (.ops false zi9) (.seq (.ops false zi8) (.seq (.seq (.ops false zi7) (.cond (.tmp 17) (.seq (.ops false zi6) .ret) .skip)) (.seq (.seq (.ops true zi5) (.block 0 (.seq (.ops false zi4) (.cond (.tmp 25) (.seq (.ops false zi3) .ret) (.seq (.ops false zi2) (.cond (.tmp 30) (.seq (.ops false zi1) .ret) (.seq (.ops false qtx) (.cond (.tmp 32) (.seq (.ops false qtw) .ret) .skip)))))))) (.seq (.ops false qtv) .ret)))))
theorem it_k33 : FnIs Tryz.prog 33 34 [.tmp 4, .tmp 5] t_k33 := ⟨Tryz.f33, _, Tryz.func33, rfl, rfl, rfl, rfl, by kernel_rfl⟩

def ziq : List SOp := [⟨some 2,.box 31 (.tmp 0),none⟩,⟨some 3,.box 31 (.tmp 1),none⟩,⟨some 4,.assign (.const (.bool false)),none⟩,⟨some 5,.assign (.const (.int .i64 0)),none⟩]
instance : Live ziq := ⟨[0,1]⟩
def zip : List SOp := [⟨some 9,.load 31 (.tmp 2),none⟩,⟨some 10,.load 31 (.tmp 3),none⟩,⟨some 11,.call ⟨.value (.func 29),#[.tmp 9,.tmp 10],#[31,31]⟩,none⟩,⟨some 8,.move (.tmp 11),none⟩,⟨some 12,.extract (.tmp 8) 0,none⟩,⟨some 13,.extract (.tmp 8) 1,none⟩,⟨some 6,.alloc 31,none⟩,⟨none,.store 31 (.tmp 6) (.tmp 12),none⟩,⟨some 7,.assign (.tmp 13),none⟩]
instance : Live zip := ⟨[2,3]⟩
def zio : List SOp := [⟨some 14,.move (.tmp 7),none⟩,⟨some 15,.binOp .neq 32 (.tmp 14) (.const (.int .i64 0)) 32,none⟩]
instance : Live zio := ⟨[3,6,7]⟩
def zin : List SOp := [⟨some 16,.move (.tmp 7),none⟩,⟨some 4,.assign (.const (.bool false)),none⟩,⟨some 5,.assign (.tmp 16),none⟩]
instance : Live zin := ⟨[7]⟩
def zim : List SOp := [⟨some 17,.load 31 (.tmp 6),none⟩,⟨some 18,.load 31 (.tmp 3),none⟩,⟨some 19,.call ⟨.value (.func 15),#[.tmp 17,.tmp 18],#[31,31]⟩,none⟩,⟨some 4,.assign (.tmp 19),none⟩,⟨some 5,.assign (.const (.int .i64 0)),none⟩]
instance : Live zim := ⟨[3,6]⟩
def t_k30 : SC :=
 (.seq (.ops false ziq) (.seq (.ops false zip) (.seq (.seq (.ops false zio) (.cond (.tmp 15) (.seq (.ops false zin) .ret) .skip)) (.seq (.ops false zim) .ret))))
theorem it_k30 : FnIs Tryz.prog 30 20 [.tmp 4, .tmp 5] t_k30 := ⟨Tryz.f30, _, Tryz.func30, rfl, rfl, rfl, rfl, by kernel_rfl⟩

def zii : List SOp := [⟨some 2,.box 31 (.tmp 0),none⟩,⟨some 3,.box 31 (.tmp 1),none⟩,⟨some 4,.assign (.const (.int .i64 0)),none⟩,⟨some 5,.assign (.const (.int .i64 0)),none⟩]
instance : Live zii := ⟨[0,1]⟩
def zih : List SOp := [⟨some 11,.load 31 (.tmp 2),none⟩,⟨some 12,.load 31 (.tmp 3),none⟩,⟨some 13,.call ⟨.value (.func 29),#[.tmp 11,.tmp 12],#[31,31]⟩,none⟩,⟨some 10,.move (.tmp 13),none⟩,⟨some 14,.extract (.tmp 10) 0,none⟩,⟨some 15,.extract (.tmp 10) 1,none⟩,⟨some 6,.alloc 31,none⟩,⟨none,.store 31 (.tmp 6) (.tmp 14),none⟩,⟨some 7,.assign (.tmp 15),none⟩]
instance : Live zih := ⟨[2,3]⟩
def zig : List SOp := [⟨some 16,.move (.tmp 7),none⟩,⟨some 17,.binOp .neq 32 (.tmp 16) (.const (.int .i64 0)) 32,none⟩]
instance : Live zig := ⟨[2,3,6,7]⟩
def zif : List SOp := [⟨some 18,.move (.tmp 7),none⟩,⟨some 4,.assign (.const (.int .i64 0)),none⟩,⟨some 5,.assign (.tmp 18),none⟩]
instance : Live zif := ⟨[7]⟩
def zie : List SOp := [⟨some 19,.load 31 (.tmp 6),none⟩,⟨some 20,.load 31 (.tmp 3),none⟩,⟨some 21,.call ⟨.value (.func 15),#[.tmp 19,.tmp 20],#[31,31]⟩,none⟩,⟨some 22,.load 31 (.tmp 6),none⟩,⟨some 23,.load 31 (.tmp 2),none⟩,⟨some 24,.call ⟨.value (.func 15),#[.tmp 22,.tmp 23],#[31,31]⟩,none⟩,⟨some 8,.assign (.tmp 21),none⟩,⟨some 9,.assign (.tmp 24),none⟩]
instance : Live zie := ⟨[2,3,6]⟩
def zid : List SOp := [⟨some 26,.move (.tmp 8),none⟩,⟨some 27,.move (.tmp 26),none⟩,⟨some 28,.move (.tmp 9),some ((some 27),true)⟩,⟨some 29,.pick (.tmp 27) (.tmp 28) (.const (.bool false)),none⟩,⟨some 25,.assign (.tmp 29),none⟩]
instance : Live zid := ⟨[8,9]⟩
def zic : List SOp := [⟨some 4,.assign (.const (.int .i64 0)),none⟩,⟨some 5,.assign (.const (.int .i64 0)),none⟩]
instance : Live zic := ⟨[]⟩
def zib : List SOp := [⟨some 31,.move (.tmp 8),none⟩,⟨some 30,.assign (.tmp 31),none⟩]
instance : Live zib := ⟨[8,9]⟩
def zia : List SOp := [⟨some 4,.assign (.const (.int .i64 1)),none⟩,⟨some 5,.assign (.const (.int .i64 0)),none⟩]
instance : Live zia := ⟨[]⟩
def qu1 : List SOp := [⟨some 33,.move (.tmp 9),none⟩,⟨some 32,.assign (.tmp 33),none⟩]
instance : Live qu1 := ⟨[9]⟩
def qu0 : List SOp := [⟨some 4,.assign (.const (.int .i64 2)),none⟩,⟨some 5,.assign (.const (.int .i64 0)),none⟩]
instance : Live qu0 := ⟨[]⟩
def qtz : List SOp := [⟨some 4,.assign (.const (.int .i64 3)),none⟩,⟨some 5,.assign (.const (.int .i64 0)),none⟩]
instance : Live qtz := ⟨[]⟩
def t_k32 : SC :=
 (.seq (.ops false zii) (.seq (.ops false zih) (.seq (.seq (.ops false zig) (.cond (.tmp 17) (.seq (.ops false zif) .ret) .skip)) (.seq (.ops true zie) (.seq (.block 0 (.seq (.ops false zid) (.cond (.tmp 25) (.seq (.ops false zic) .ret) (.seq (.ops false zib) (.cond (.tmp 30) (.seq (.ops false zia) .ret) (.seq (.ops false qu1) (.cond (.tmp 32) (.seq (.ops false qu0) .ret) .skip))))))) (.seq (.ops false qtz) .ret))))))
theorem it_k32 : FnIs Tryz.prog 32 34 [.tmp 4, .tmp 5] t_k32 := ⟨Tryz.f32, _, Tryz.func32, rfl, rfl, rfl, rfl, by kernel_rfl⟩

def zi0 : List SOp := [⟨some 0,.alloc 31,none⟩]
instance : Live zi0 := ⟨[]⟩
def zhz : List SOp := [⟨some 1,.buildSlice 23 1 #[(0,.const (.int .i64 1))],none⟩,⟨some 2,.build 26 #[(0,.tmp 1)],none⟩,⟨some 3,.build 31 #[(1,.tmp 2)],none⟩,⟨none,.store 31 (.tmp 0) (.tmp 3),none⟩]
instance : Live zhz := ⟨[0]⟩
def t_k34 : SC :=
 (.seq (.ops false zi0) (.seq (.ops false zhz) .ret))
theorem it_k34 : FnIs Tryz.prog 34 4 [.cell 0 31] t_k34 := ⟨Tryz.f34, _, Tryz.func34, rfl, rfl, rfl, rfl, by kernel_rfl⟩

def zjj : List SOp := [⟨some 0,.assign (.const (.bool false)),none⟩]
instance : Live zjj := ⟨[]⟩
def zji : List SOp := [⟨some 6,.call ⟨.value (.func 14),#[],#[]⟩,none⟩,⟨some 7,.call ⟨.value (.func 34),#[],#[]⟩,none⟩,⟨some 8,.call ⟨.value (.func 25),#[.tmp 6,.tmp 7],#[31,31]⟩,none⟩,⟨some 5,.move (.tmp 8),none⟩,⟨some 9,.extract (.tmp 5) 0,none⟩,⟨some 10,.extract (.tmp 5) 1,none⟩,⟨some 1,.alloc 31,none⟩,⟨none,.store 31 (.tmp 1) (.tmp 9),none⟩,⟨some 2,.assign (.tmp 10),none⟩]
instance : Live zji := ⟨[]⟩
def zjh : List SOp := [⟨some 12,.call ⟨.value (.func 14),#[],#[]⟩,none⟩,⟨some 13,.build 31 #[],none⟩,⟨some 14,.call ⟨.value (.func 25),#[.tmp 12,.tmp 13],#[31,31]⟩,none⟩,⟨some 11,.move (.tmp 14),none⟩,⟨some 15,.extract (.tmp 11) 0,none⟩,⟨some 16,.extract (.tmp 11) 1,none⟩,⟨some 3,.alloc 31,none⟩,⟨none,.store 31 (.tmp 3) (.tmp 15),none⟩,⟨some 4,.assign (.tmp 16),none⟩]
instance : Live zjh := ⟨[1,2]⟩
def zjg : List SOp := [⟨some 17,.move (.tmp 2),none⟩,⟨some 18,.binOp .eql 32 (.tmp 17) (.const (.int .i64 0)) 32,none⟩,⟨some 19,.move (.tmp 18),none⟩,⟨some 20,.move (.tmp 4),some ((some 19),true)⟩,⟨some 21,.binOp .eql 32 (.tmp 20) (.const (.int .i64 0)) 32,some ((some 19),true)⟩,⟨some 22,.pick (.tmp 19) (.tmp 21) (.const (.bool false)),none⟩,⟨some 23,.move (.tmp 22),none⟩,⟨some 24,.fieldAddr 31 (.tmp 1) 0,some ((some 23),true)⟩,⟨some 25,.load 22 (.tmp 24),some ((some 23),true)⟩,⟨some 26,.call ⟨.builtin .len,#[.tmp 25],#[22]⟩,some ((some 23),true)⟩,⟨some 27,.binOp .eql 3 (.tmp 26) (.const (.int .i64 0)) 3,some ((some 23),true)⟩,⟨some 28,.pick (.tmp 23) (.tmp 27) (.const (.bool false)),none⟩,⟨some 29,.move (.tmp 28),none⟩,⟨some 30,.fieldAddr 31 (.tmp 1) 1,some ((some 29),true)⟩,⟨some 31,.fieldAddr 26 (.tmp 30) 0,some ((some 29),true)⟩,⟨some 32,.load 23 (.tmp 31),some ((some 29),true)⟩,⟨some 33,.call ⟨.builtin .len,#[.tmp 32],#[23]⟩,some ((some 29),true)⟩,⟨some 34,.binOp .eql 3 (.tmp 33) (.const (.int .i64 1)) 3,some ((some 29),true)⟩,⟨some 35,.pick (.tmp 29) (.tmp 34) (.const (.bool false)),none⟩,⟨some 36,.move (.tmp 35),none⟩,⟨some 37,.fieldAddr 31 (.tmp 3) 0,some ((some 36),true)⟩,⟨some 38,.load 22 (.tmp 37),some ((some 36),true)⟩,⟨some 39,.call ⟨.builtin .len,#[.tmp 38],#[22]⟩,some ((some 36),true)⟩,⟨some 40,.binOp .eql 3 (.tmp 39) (.const (.int .i64 1)) 3,some ((some 36),true)⟩,⟨some 41,.pick (.tmp 36) (.tmp 40) (.const (.bool false)),none⟩,⟨some 42,.move (.tmp 41),none⟩,⟨some 43,.fieldAddr 31 (.tmp 3) 0,some ((some 42),true)⟩,⟨some 44,.load 22 (.tmp 43),some ((some 42),true)⟩,⟨some 45,.indexAddr 22 (.tmp 44) (.const (.int .i64 0)),some ((some 42),true)⟩,⟨some 46,.fieldAddr 62 (.tmp 45) 2,some ((some 42),true)⟩,⟨some 47,.load 3 (.tmp 46),some ((some 42),true)⟩,⟨some 48,.binOp .eql 3 (.tmp 47) (.const (.int .i64 5)) 3,some ((some 42),true)⟩,⟨some 49,.pick (.tmp 42) (.tmp 48) (.const (.bool false)),none⟩,⟨some 0,.assign (.tmp 49),none⟩]
instance : Live zjg := ⟨[1,2,3,4]⟩
def t_k24 : SC :=
 (.seq (.ops false zjj) (.seq (.ops false zji) (.seq (.ops false zjh) (.seq (.ops false zjg) .ret))))
theorem it_k24 : FnIs Tryz.prog 24 50 [.tmp 0] t_k24 := ⟨Tryz.f24, _, Tryz.func24, rfl, rfl, rfl, rfl, by kernel_rfl⟩

end Go.Proofs.YthejoeiecenjkaaGreat.Avm
