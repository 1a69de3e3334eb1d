/- Part 4 of the proof: lemmas. -/
import Derived.Test.YthejoeiecenjkaaGreatM3
import Derived.Test.YthejoeiecenjkaaGreatProg
import Derived.KernelRfl
import Derived.Lib.Bytealg
import Derived.Sort.Walk0
import Derived.Shelf.SlSortCmp.Insertion
import Derived.Test.YthejoeiecenjkaaGreatRows
import Derived.WalkKit
import Derived.ProofKit
import Derived.OpenShut
import Derived.JoinedCond
import Derived.Carry
set_option maxRecDepth 100000
set_option maxHeartbeats 4000000
set_option linter.unusedVariables false
set_option linter.unusedSimpArgs false
set_option linter.unusedSectionVars false
set_option linter.defProp false
namespace Go.Proofs.YthejoeiecenjkaaGreat.Avm
open Go.Proofs
def qx8 : List SOp := [⟨some 2,.assign (.const (.int .i64 0)),none⟩,⟨some 3,.assign (.const (.int .i64 0)),none⟩]
instance : Live qx8 := ⟨[0]⟩
def qx7 : List SOp := [⟨some 5,.move (.tmp 0),none⟩,⟨some 6,.call ⟨.builtin .len,#[.tmp 5],#[9]⟩,none⟩,⟨some 7,.binOp .eql 3 (.tmp 6) (.const (.int .i64 0)) 3,none⟩]
instance : Live qx7 := ⟨[0]⟩
def qx6 : List SOp := [⟨some 2,.assign (.const (.int .i64 0)),none⟩,⟨some 3,.assign (.const (.int .i64 20)),none⟩]
instance : Live qx6 := ⟨[]⟩
def qx5 : List SOp := [⟨some 8,.move (.tmp 0),none⟩,⟨some 9,.call ⟨.builtin .len,#[.tmp 8],#[9]⟩,none⟩,⟨some 10,.binOp .gtr 3 (.tmp 9) (.const (.int .i64 24)) 3,none⟩]
instance : Live qx5 := ⟨[0]⟩
def qx4 : List SOp := [⟨some 2,.assign (.const (.int .i64 0)),none⟩,⟨some 3,.assign (.const (.int .i64 21)),none⟩]
instance : Live qx4 := ⟨[]⟩
def qx3 : List SOp := [⟨some 4,.assign (.const (.int .i64 0)),none⟩]
instance : Live qx3 := ⟨[0]⟩
def qx2 : List SOp := [⟨some 11,.move (.tmp 4),none⟩,⟨some 12,.move (.tmp 0),none⟩,⟨some 13,.call ⟨.builtin .len,#[.tmp 12],#[9]⟩,none⟩,⟨some 14,.binOp .lss 3 (.tmp 11) (.tmp 13) 3,none⟩]
instance : Live qx2 := ⟨[0,4]⟩
def qx1 : List SOp := [⟨some 17,.move (.tmp 0),none⟩,⟨some 18,.move (.tmp 4),none⟩,⟨some 19,.call ⟨.value (.func 184),#[.tmp 17,.tmp 18],#[9,3]⟩,none⟩,⟨some 20,.unOp .not 4 (.tmp 19),none⟩]
instance : Live qx1 := ⟨[0,4]⟩
def qx0 : List SOp := [⟨some 21,.move (.tmp 4),none⟩,⟨some 2,.assign (.tmp 21),none⟩,⟨some 3,.assign (.const (.int .i64 22)),none⟩]
instance : Live qx0 := ⟨[4]⟩
def qkw : List SOp := [⟨some 15,.move (.tmp 4),none⟩,⟨some 16,.binOp .add 3 (.tmp 15) (.const (.int .i64 1)) 3,none⟩,⟨some 4,.assign (.tmp 16),none⟩]
instance : Live qkw := ⟨[0,4]⟩
def qkv : List SOp := [⟨some 2,.assign (.const (.int .i64 0)),none⟩,⟨some 3,.assign (.const (.int .i64 0)),none⟩]
instance : Live qkv := ⟨[]⟩
def qj4 : SC :=
 (.seq (.seq (.ops false qx2) (.cond (.tmp 14) .skip (.exit 0))) (.seq (.block 1 (.seq (.ops false qx1) (.cond (.tmp 20) (.seq (.ops false qx0) .ret) .skip))) (.ops false qkw)))
def t_k165 : SC :=
 (.seq (.ops false qx8) (.seq (.seq (.ops false qx7) (.cond (.tmp 7) (.seq (.ops false qx6) .ret) .skip)) (.seq (.seq (.ops false qx5) (.cond (.tmp 10) (.seq (.ops false qx4) .ret) .skip)) (.seq (.seq (.ops false qx3) (.block 0 (.loop qj4))) (.seq (.ops false qkv) .ret)))))
theorem it_k165 : FnIs Tryz.prog 165 22 [.tmp 2, .tmp 3] t_k165 := ⟨Tryz.f165, _, Tryz.func165, rfl, rfl, rfl, rfl, by kernel_rfl⟩

def z0o : List SOp := [⟨some 2,.assign (.const (.bool false)),none⟩]
instance : Live z0o := ⟨[0]⟩
def z0n : List SOp := [⟨some 6,.move (.tmp 0),none⟩,⟨some 7,.call ⟨.value (.func 165),#[.tmp 6],#[9]⟩,none⟩,⟨some 5,.move (.tmp 7),none⟩,⟨some 8,.extract (.tmp 5) 0,none⟩,⟨some 9,.extract (.tmp 5) 1,none⟩,⟨some 3,.assign (.tmp 8),none⟩,⟨some 4,.assign (.tmp 9),none⟩]
instance : Live z0n := ⟨[0]⟩
def z0m : List SOp := [⟨some 10,.move (.tmp 4),none⟩,⟨some 11,.binOp .eql 3 (.tmp 10) (.const (.int .i64 0)) 3,none⟩,⟨some 2,.assign (.tmp 11),none⟩]
instance : Live z0m := ⟨[4]⟩
def t_k146 : SC :=
 (.seq (.ops false z0o) (.seq (.ops false z0n) (.seq (.ops false z0m) .ret)))
theorem it_k146 : FnIs Tryz.prog 146 12 [.tmp 2] t_k146 := ⟨Tryz.f146, _, Tryz.func146, rfl, rfl, rfl, rfl, by kernel_rfl⟩

def qr8 (c : Int) : Bool := decide (65 ≤ c) && decide (c ≤ 90)
def qr9 (c : Int) : Bool := decide (48 ≤ c) && decide (c ≤ 57)
def zki (c : Int) : Bool := decide (c = 45) || decide (c = 46)
def qew (s : ByteArray) (i : Nat) : Int := match s[i]? with | some b => (b.toNat : Int) | none => 0
theorem q8r {s : ByteArray} {i : Nat} (h : i < s.size) : ∃ b : UInt8, s[i]? = some b ∧ qew s i = (b.toNat : Int) := by
 have e : s[i]? = some s[i] := by
  rw [getElem?_pos s i h]
 exact ⟨s[i], e, by unfold qew; rw [e]⟩
def q5y (s : ByteArray) (i : Nat) : Bool := (qr8 (qew s i) || qr9 (qew s i)) || (zki (qew s i) && (!decide (i = 0) && (!decide (i = s.size - 1) && !zki (qew s (i - 1)))))
def badS (s : ByteArray) : Option Nat := (List.range s.size).find? fun i => !q5y s i
def qpr (s : ByteArray) : Int × Int := if s.size = 0 then (0, 20) else if 24 < s.size then (0, 21) else match badS s with | some i => (i, 22) | none => (0, 0)
def q7j (s : ByteArray) : Bool := decide ((qpr s).2 = 0)
theorem ev_k170 (c : Int) : Ev (En Tryz.prog rfl).P 170 [.int .u8 c] (.ret (.bool (qr8 c))) := by
 refine Ev.of_body it_k170 (by simp) (Run.start ?_)
 unfold t_k170 qr8
 by_cases h1 : 65 ≤ c <;> by_cases h2 : c ≤ 90
 all_goals
  simp only [h1, h2, decide_true, decide_false, Bool.and_true, Bool.and_false, Bool.true_and, Bool.false_and]
  (have hF := True.intro; refine q01 (k:=?_); clear hF)
  all_goals first | exact Fin.tmp' rfl rfl | (exfalso; omega)
theorem ev_k171 (c : Int) : Ev (En Tryz.prog rfl).P 171 [.int .u8 c] (.ret (.bool (qr9 c))) := by
 refine Ev.of_body it_k171 (by simp) (Run.start ?_)
 unfold t_k171 qr9
 by_cases h1 : 48 ≤ c <;> by_cases h2 : c ≤ 57
 all_goals
  simp only [h1, h2, decide_true, decide_false, Bool.and_true, Bool.and_false, Bool.true_and, Bool.false_and]
  (have hF := True.intro; refine q01 (k:=?_); clear hF)
  all_goals first | exact Fin.tmp' rfl rfl | (exfalso; omega)
theorem zle (c : Int) : Ev (En Tryz.prog rfl).P 172 [.int .u8 c] (.ret (.bool (zki c))) := by
 refine Ev.of_body it_k172 (by simp) (Run.start ?_)
 unfold t_k172 zki
 by_cases h1 : c = 45 <;> by_cases h2 : c = 46
 all_goals
  simp only [h1, h2, decide_true, decide_false, Bool.or_true, Bool.or_false, Bool.true_or, Bool.false_or]
  (have hF := True.intro; refine q01 (k:=?_); clear hF)
  all_goals first | exact Fin.tmp' rfl rfl | (exfalso; omega)
theorem ev_k193 (c : Int) : Ev (En Tryz.prog rfl).P 193 [.int .u8 c] (.ret (.bool (qr8 c))) := by
 refine Ev.of_body it_k193 (by simp) (Run.start ?_)
 unfold t_k193 qr8
 by_cases h1 : 65 ≤ c <;> by_cases h2 : c ≤ 90
 all_goals
  simp only [h1, h2, decide_true, decide_false, Bool.and_true, Bool.and_false, Bool.true_and, Bool.false_and]
  (have hF := True.intro; refine q01 (k:=?_); clear hF)
  all_goals first | exact Fin.tmp' rfl rfl | (exfalso; omega)
theorem ev_k194 (c : Int) : Ev (En Tryz.prog rfl).P 194 [.int .u8 c] (.ret (.bool (qr9 c))) := by
 refine Ev.of_body it_k194 (by simp) (Run.start ?_)
 unfold t_k194 qr9
 by_cases h1 : 48 ≤ c <;> by_cases h2 : c ≤ 57
 all_goals
  simp only [h1, h2, decide_true, decide_false, Bool.and_true, Bool.and_false, Bool.true_and, Bool.false_and]
  (have hF := True.intro; refine q01 (k:=?_); clear hF)
  all_goals first | exact Fin.tmp' rfl rfl | (exfalso; omega)
theorem zlc (c : Int) : Ev (En Tryz.prog rfl).P 195 [.int .u8 c] (.ret (.bool (zki c))) := by
 refine Ev.of_body it_k195 (by simp) (Run.start ?_)
 unfold t_k195 zki
 by_cases h1 : c = 45 <;> by_cases h2 : c = 46
 all_goals
  simp only [h1, h2, decide_true, decide_false, Bool.or_true, Bool.or_false, Bool.true_or, Bool.false_or]
  (have hF := True.intro; refine q01 (k:=?_); clear hF)
  all_goals first | exact Fin.tmp' rfl rfl | (exfalso; omega)
theorem zkw {q : Nat → Bool} {n i : Nat} (hi : i < n) (h0 : ∀ j, j < i → q j = false) (h : q i = true) : (List.range n).find? q = some i := by
 rw [List.find?_eq_some_iff_getElem]
 refine ⟨h, i, by simpa using hi, by simp, fun j hj => by simp [h0 j hj]⟩
theorem zky {q : Nat → Bool} {n : Nat} (h0 : ∀ j, j < n → q j = false) : (List.range n).find? q = none := by
 rw [List.find?_eq_none]
 intro j hj
 simp [h0 j (by simpa using hj)]
theorem z7t {s : ByteArray} (h1 : ¬ s.size = 0) (h2 : ¬ 24 < s.size) {i : Nat} (hi : i < s.size) (h0 : ∀ j, j < i → q5y s j = true) (h : q5y s i = false) : qpr s = ((i : Int), 22) := by
 unfold qpr badS
 rw [if_neg h1, if_neg h2, zkw hi (fun j hj => by simp [h0 j hj]) (by simp [h])]
theorem zmc {s : ByteArray} (h1 : ¬ s.size = 0) (h2 : ¬ 24 < s.size) (h0 : ∀ j, j < s.size → q5y s j = true) : qpr s = (0, 0) := by
 unfold qpr badS
 rw [if_neg h1, if_neg h2, zky (fun j hj => by simp [h0 j hj])]
theorem q58 {s : ByteArray} : s = ByteArray.empty ↔ s.size = 0 := by
 constructor
 ·intro h; rw [h]; rfl
 ·intro h
  cases s with
  | mk d =>
   have : d = #[] := Array.eq_empty_of_size_eq_zero h
   rw [this]; rfl
theorem ev_k158 (s : ByteArray) : Ev (En Tryz.prog rfl).P 158 [.str s] (.ret (.tup [.int .i64 (qpr s).1, .int .i64 (qpr s).2])) := by
 refine Ev.of_body it_k158 (by simp) (Run.start ?_)
 unfold t_k158
 by_cases h1 : s.size = 0
 ·have h1' : (s = (⟨#[]⟩ : ByteArray)) = True := eq_true (q58.2 h1)
  have : qpr s = (0, 20) := by unfold qpr; rw [if_pos h1]
  rw [this]
  (have hF := @h1'; refine q01 (k:=?_); clear hF)
  exact Fin.all rfl rfl rfl
 ·have h1' : (s = (⟨#[]⟩ : ByteArray)) = False := eq_false fun h => h1 (q58.1 h)
  by_cases h2 : 24 < s.size
  ·have : qpr s = (0, 21) := by unfold qpr; rw [if_neg h1, if_pos h2]
   rw [this]
   (have hF := @h1'; refine q01 (k:=?_); clear hF)
   exact Fin.all rfl rfl rfl
  ·(have hF := @h1'; refine q01 (k:=?_); clear hF)
   refine Run.while (σ := Nat) (fun i => ⟨tms [(0, .str s), (12, .int .i64 (s.size : Int)), (13, .int .i64 (i : Int))], mms []⟩) (fun i => i ≤ s.size ∧ ∀ j, j < i → q5y s j = true) (fun i => s.size - i) 0 (have hW := True.intro; q0f) ⟨Nat.zero_le _, fun j hj => absurd hj (Nat.not_lt_zero _)⟩ ?_
   rintro i ⟨hi, hp⟩
   unfold qj9
   by_cases hlt : i < s.size
   ·obtain ⟨b, hb, hbe⟩ := q8r hlt
    have hok : q5y s i = true → ∀ j, j < i + 1 → q5y s j = true := fun h j hj => by
     by_cases e : j = i
     ·rw [e]; exact h
     ·exact hp j (by omega)
    have hbad := z7t h1 h2 hlt hp
    have c1 := ev_k170 (b.toNat : Int)
    have c2 := ev_k171 (b.toNat : Int)
    have c3 := zle (b.toNat : Int)
    unfold q5y at hok hbad
    rw [hbe] at hok hbad
    generalize qr8 (b.toNat : Int) = v1 at c1 hok hbad
    generalize qr9 (b.toNat : Int) = v2 at c2 hok hbad
    generalize zki (b.toNat : Int) = v3 at c3 hok hbad
    (have hF := @hb; refine q01 (k:=?_); clear hF)
    refine q00 [.int .u8 (b.toNat : Int)] (he := c1) (k:=?_)
    cases v1
    case' true =>
     have hn := hok (by simp)
     (have hF := @hb; refine q01 (k:=?_); clear hF)
     (refine Fin.nextW (i + 1) ?_ (have hW := True.intro; q0f); (try dsimp only))
     exact ⟨⟨hlt, hn⟩, by omega⟩
    case' false =>
     (have hF := @hb; refine q01 (k:=?_); clear hF)
     refine q00 [.int .u8 (b.toNat : Int)] (he := c2) (k:=?_)
     cases v2
     case' true =>
      have hn := hok (by simp)
      (have hF := @hb; refine q01 (k:=?_); clear hF)
      (refine Fin.nextW (i + 1) ?_ (have hW := True.intro; q0f); (try dsimp only))
      exact ⟨⟨hlt, hn⟩, by omega⟩
     case' false =>
      (have hF := @hb; refine q01 (k:=?_); clear hF)
      refine q00 [.int .u8 (b.toNat : Int)] (he := c3) (k:=?_)
      cases v3
      case' false =>
       rw [hbad (by simp)]
       (have hF := @hb; refine q01 (k:=?_); clear hF)
       exact Fin.all rfl rfl rfl
      case' true =>
       by_cases i0 : i = 0
       ·rw [hbad (by simp [i0])]
        subst i0
        (have hF := @hb; refine q01 (k:=?_); clear hF)
        exact Fin.all rfl rfl rfl
       ·by_cases i1 : i = s.size - 1
        ·rw [hbad (by simp [i1])]
         have i1' : (i : Int) = (s.size : Int) - 1 := by omega
         have i0' : ¬ (i : Int) = 0 := by omega
         have i2' : IntKind.i64.wrap ((s.size : Int) - 1) = (i : Int) := by rw [q2o (by omega)]; omega
         (have hF := (aI @hb (aI @i0' @i2')); refine q01 (k:=?_); clear hF)
         exact Fin.all rfl rfl rfl
        ·have i0' : ¬ (i : Int) = 0 := by omega
         have i1' : ¬ (i : Int) = (s.size : Int) - 1 := by omega
         obtain ⟨c, hc, hce⟩ := q8r (s := s) (i := i - 1) (by omega)
         have c4 := zle (c.toNat : Int)
         have hpw : IntKind.i64.wrap ((i : Int) - 1) = ((i - 1 : Nat) : Int) := by rw [q2o (by omega)]; omega
         rw [hce] at hok hbad
         generalize zki (c.toNat : Int) = v4 at c4 hok hbad
         (have hF := (aI (aI @hb @i0') (aI @i1' (aI @hpw @hc))); refine q01 (k:=?_); clear hF)
         refine q00 [.int .u8 (c.toNat : Int)] (he := c4) (k:=?_)
         cases v4
         ·have hn := hok (by simp [i0, i1])
          (have hF := @hb; refine q01 (k:=?_); clear hF)
          (refine Fin.nextW (i + 1) ?_ (have hW := True.intro; q0f); (try dsimp only))
          exact ⟨⟨hlt, hn⟩, by omega⟩
         ·rw [hbad (by simp)]
          (have hF := @hb; refine q01 (k:=?_); clear hF)
          exact Fin.all rfl rfl rfl
   ·rw [zmc h1 h2 fun j hj => hp j (by omega)]
    (have hF := True.intro; refine q01 (k:=?_); clear hF)
    exact Fin.all rfl rfl rfl
theorem qrf (s : ByteArray) : Ev (En Tryz.prog rfl).P 137 [.str s] (.ret (.bool (q7j s))) := by
 refine Ev.of_body it_k137 (by simp) (Run.start ?_)
 unfold t_k137 q7j
 (have hF := True.intro; refine q01 (k:=?_); clear hF)
 refine q00 [.str s] (he := ev_k158 s) (k:=?_)
 (have hF := True.intro; refine q01 (k:=?_); clear hF)
 exact Fin.tmp' rfl rfl
theorem ev_k184 (s : ByteArray) (i : Nat) (hi : i < s.size) (hs : s.size ≤ 1000000) : Ev (En Tryz.prog rfl).P 184 [.str s, .int .i64 (i : Int)] (.ret (.bool (q5y s i))) := by
 refine Ev.of_body it_k184 (by simp) (Run.start ?_)
 unfold t_k184 q5y
 obtain ⟨b, hb, hbe⟩ := q8r hi
 rw [hbe]
 have c1 := ev_k193 (b.toNat : Int)
 have c2 := ev_k194 (b.toNat : Int)
 have c3 := zlc (b.toNat : Int)
 generalize qr8 (b.toNat : Int) = v1 at c1 ⊢
 generalize qr9 (b.toNat : Int) = v2 at c2 ⊢
 generalize zki (b.toNat : Int) = v3 at c3 ⊢
 (have hF := @hb; refine q01 (k:=?_); clear hF)
 refine q00 [.int .u8 (b.toNat : Int)] (he := c1) (k:=?_)
 cases v1
 case' true =>
  (have hF := @hb; refine q01 (k:=?_); clear hF)
  exact Fin.tmp' rfl rfl
 case' false =>
  (have hF := @hb; refine q01 (k:=?_); clear hF)
  refine q00 [.int .u8 (b.toNat : Int)] (he := c2) (k:=?_)
  cases v2
  case' true =>
   (have hF := @hb; refine q01 (k:=?_); clear hF)
   exact Fin.tmp' rfl rfl
  case' false =>
   (have hF := @hb; refine q01 (k:=?_); clear hF)
   refine q00 [.int .u8 (b.toNat : Int)] (he := c3) (k:=?_)
   cases v3
   case' false =>
    (have hF := @hb; refine q01 (k:=?_); clear hF)
    exact Fin.tmp' rfl rfl
   case' true =>
    by_cases i0 : i = 0
    ·subst i0
     (have hF := @hb; refine q01 (k:=?_); clear hF)
     exact Fin.tmp' rfl rfl
    ·by_cases i1 : i = s.size - 1
     ·have e : (false || false || (true && (!decide (i = 0) && (!decide (i = s.size - 1) && !zki (qew s (i - 1)))))) = false := by simp [i1]
      rw [e]
      (have hF := @hb; refine q01 (k:=?_); clear hF)
      all_goals first | exact Fin.tmp' rfl rfl | (exfalso; omega)
     ·obtain ⟨c, hc, hce⟩ := q8r (s := s) (i := i - 1) (by omega)
      have c4 := zlc (c.toNat : Int)
      have hpw : IntKind.i64.wrap ((i : Int) - 1) = ((i - 1 : Nat) : Int) := by rw [q2o (by omega)]; omega
      rw [hce]
      generalize zki (c.toNat : Int) = v4 at c4 ⊢
      have e : (false || false || (true && (!decide (i = 0) && (!decide (i = s.size - 1) && !v4)))) = !v4 := by simp [i0, i1]
      rw [e]
      have i1' : ¬ (i : Int) = (s.size : Int) - 1 := by omega
      (have hF := (aI (aI @hb @i1') (aI @hpw @hc)); refine q01 (k:=?_); clear hF)
      refine q00 [.int .u8 (c.toNat : Int)] (he := c4) (k:=?_)
      (have hF := @hb; refine q01 (k:=?_); clear hF)
      exact Fin.tmp' rfl rfl
theorem ev_k165 (s : ByteArray) : Ev (En Tryz.prog rfl).P 165 [.str s] (.ret (.tup [.int .i64 (qpr s).1, .int .i64 (qpr s).2])) := by
 refine Ev.of_body it_k165 (by simp) (Run.start ?_)
 unfold t_k165
 by_cases h1 : s.size = 0
 ·have : qpr s = (0, 20) := by unfold qpr; rw [if_pos h1]
  rw [this]
  have h1' : ((s.size : Int) = 0) = True := eq_true (by omega)
  (have hF := @h1'; refine q01 (k:=?_); clear hF)
  exact Fin.all rfl rfl rfl
 ·by_cases h2 : 24 < s.size
  ·have : qpr s = (0, 21) := by unfold qpr; rw [if_neg h1, if_pos h2]
   rw [this]
   (have hF := True.intro; refine q01 (k:=?_); clear hF)
   exact Fin.all rfl rfl rfl
  ·(have hF := True.intro; refine q01 (k:=?_); clear hF)
   refine Run.while (σ := Nat) (fun i => ⟨tms [(0, .str s), (4, .int .i64 (i : Int))], mms []⟩) (fun i => i ≤ s.size ∧ ∀ j, j < i → q5y s j = true) (fun i => s.size - i) 0 (have hW := True.intro; q0f) ⟨Nat.zero_le _, fun j hj => absurd hj (Nat.not_lt_zero _)⟩ ?_
   rintro i ⟨hi, hp⟩
   unfold qj4
   by_cases hlt : i < s.size
   ·have hok : q5y s i = true → ∀ j, j < i + 1 → q5y s j = true := fun h j hj => by
     by_cases e : j = i
     ·rw [e]; exact h
     ·exact hp j (by omega)
    have hbad := z7t h1 h2 hlt hp
    have c1 := ev_k184 s i hlt (by omega)
    generalize q5y s i = v at c1 hok hbad
    (have hF := True.intro; refine q01 (k:=?_); clear hF)
    refine q00 [.str s, .int .i64 (i : Int)] (he := c1) (k:=?_)
    cases v
    ·rw [hbad rfl]
     (have hF := True.intro; refine q01 (k:=?_); clear hF)
     exact Fin.all rfl rfl rfl
    ·have hn := hok rfl
     (have hF := True.intro; refine q01 (k:=?_); clear hF)
     (refine Fin.nextW (i + 1) ?_ (have hW := True.intro; q0f); (try dsimp only))
     exact ⟨⟨hlt, hn⟩, by omega⟩
   ·rw [zmc h1 h2 fun j hj => hp j (by omega)]
    (have hF := True.intro; refine q01 (k:=?_); clear hF)
    exact Fin.all rfl rfl rfl
theorem zlh (s : ByteArray) : Ev (En Tryz.prog rfl).P 146 [.str s] (.ret (.bool (q7j s))) := by
 refine Ev.of_body it_k146 (by simp) (Run.start ?_)
 unfold t_k146 q7j
 (have hF := True.intro; refine q01 (k:=?_); clear hF)
 refine q00 [.str s] (he := ev_k165 s) (k:=?_)
 (have hF := True.intro; refine q01 (k:=?_); clear hF)
 exact Fin.tmp' rfl rfl

def bs (s : ByteArray) : List Int := s.data.toList.map fun b => (b.toNat : Int)
def q9j (a b : ByteArray) : Int := q5u (bs a) (bs b)
theorem qbp : ∀ a b : List UInt8, Go.Lib.compareBytes a b = q5u (a.map fun b => (b.toNat : Int)) (b.map fun b => (b.toNat : Int))
 | [], [] => rfl
 | [], _ :: _ => rfl
 | _ :: _, [] => rfl
 | x :: a, y :: b => by
  have ih := qbp a b
  unfold Go.Lib.compareBytes
  simp only [List.map_cons]
  unfold q5u
  rw [ih]
  by_cases h1 : x < y
  ·have h2 : ((x.toNat : Int) < (y.toNat : Int)) := by have := UInt8.lt_iff_toNat_lt.1 h1; omega
   rw [if_pos h1, if_pos h2]
  ·have h2 : ¬ ((x.toNat : Int) < (y.toNat : Int)) := fun h => h1 (UInt8.lt_iff_toNat_lt.2 (by omega))
   rw [if_neg h1, if_neg h2]
   by_cases h3 : y < x
   ·have h4 : ((y.toNat : Int) < (x.toNat : Int)) := by have := UInt8.lt_iff_toNat_lt.1 h3; omega
    rw [if_pos h3, if_pos h4]
   ·have h4 : ¬ ((y.toNat : Int) < (x.toNat : Int)) := fun h => h3 (UInt8.lt_iff_toNat_lt.2 (by omega))
    rw [if_neg h3, if_neg h4]
theorem z75 : ∀ a b : List UInt8, Op.bytesLess a b = decide (q5u (a.map fun b => (b.toNat : Int)) (b.map fun b => (b.toNat : Int)) < 0)
 | [], [] => rfl
 | [], _ :: _ => rfl
 | _ :: _, [] => rfl
 | x :: a, y :: b => by
  have ih := z75 a b
  unfold Op.bytesLess
  simp only [List.map_cons]
  unfold q5u
  rw [ih]
  by_cases h1 : x < y
  ·have h2 : ((x.toNat : Int) < (y.toNat : Int)) := by have := UInt8.lt_iff_toNat_lt.1 h1; omega
   rw [if_pos h2]
   simp [h1]
  ·have h2 : ¬ ((x.toNat : Int) < (y.toNat : Int)) := fun h => h1 (UInt8.lt_iff_toNat_lt.2 (by omega))
   rw [if_neg h2]
   by_cases h3 : y < x
   ·have h4 : ((y.toNat : Int) < (x.toNat : Int)) := by have := UInt8.lt_iff_toNat_lt.1 h3; omega
    have h5 : ¬ x = y := fun e => by rw [e] at h4; omega
    rw [if_pos h4]
    simp [h1, h5]
   ·have h4 : ¬ ((y.toNat : Int) < (x.toNat : Int)) := fun h => h3 (UInt8.lt_iff_toNat_lt.2 (by omega))
    have h5 : x = y := UInt8.toNat_inj.1 (by omega)
    rw [if_neg h4]
    subst h5
    simp [h1]
theorem qcp (s : ByteArray) : s.toList = s.data.toList := by
 have := ByteArray.toList_eq (bs := s)
 exact this
theorem zm6 (a b : ByteArray) : Op.bytesLess a.toList b.toList = decide (q9j a b < 0) := by
 rw [qcp, qcp, z75]
 rfl
theorem bs_inj {a b : ByteArray} (h : bs a = bs b) : a = b := by
 have : ∀ l m : List UInt8, l.map (fun b => (b.toNat : Int)) = m.map (fun b => (b.toNat : Int)) → l = m := by
  intro l
  induction l with
  | nil => intro m h; cases m with | nil => rfl | cons y m => simp at h
  | cons x l ih =>
   intro m h
   cases m with
   | nil => simp at h
   | cons y m =>
    simp only [List.map_cons, List.cons.injEq] at h
    rw [ih m h.2, show x = y from UInt8.toNat_inj.1 (by omega)]
 cases a with
 | mk da => cases b with
  | mk db =>
   have := this _ _ h
   congr 1
   exact Array.toList_inj.1 this
theorem q5o {a b : ByteArray} : q9j a b = 0 ↔ a = b := ⟨fun h => bs_inj (qr3 h), fun h => by rw [h]; exact qdw _⟩
structure Ent where
 rep : Int
 num : Int
 sku : ByteArray
 qty : Int
structure Rec where
 sku : ByteArray
 past : Pst
def q93 (e : Ent) : AVal := .agg [.int .i64 e.rep, .int .i64 e.num, .str e.sku, .int .i64 e.qty]
def q5n (r : Rec) : AVal := .agg [.str r.sku, .sl 1 (q05 r.past.vec), .sl 3 (q0c r.past.cloud)]
def q0e (l : List Ent) : List AVal := l.map q93
def q09 (l : List Rec) : List AVal := l.map q5n
theorem qah (e : Ent) : (q93 e).stb = true := rfl
theorem qi7 (r : Rec) : (q5n r).stb = true := by simp [q5n, AVal.stb, q0j, q03, q04]
theorem q06 (l : List Ent) : q0j (q0e l) = true := q4j qah
theorem q02 (l : List Rec) : q0j (q09 l) = true := q4j qi7
theorem qq9 : (∀ e, (q93 e).stb = true) ∧ (∀ r, (q5n r).stb = true) ∧ (∀ l, q0j (q0e l) = true) ∧ (∀ l, q0j (q09 l) = true) := ⟨qah, qi7, q06, q02⟩
theorem q0m (l : List Ent) : (q0e l).length = l.length := by simp [q0e]
theorem q0p (l : List Rec) : (q09 l).length = l.length := by simp [q09]
theorem q0u {l : List Ent} {i : Nat} {e : Ent} (h : l[i]? = some e) : (q0e l)[i]? = some (.agg [.int .i64 e.rep, .int .i64 e.num, .str e.sku, .int .i64 e.qty]) := by simp [q0e, h, q93]
theorem q15 {l : List Rec} {i : Nat} {r : Rec} (h : l[i]? = some r) : (q09 l)[i]? = some (.agg [.str r.sku, .sl 1 (q05 r.past.vec), .sl 3 (q0c r.past.cloud)]) := by simp [q09, h, q5n]
theorem q2b (l : List Ent) (a b : Int) (s : ByteArray) (q : Int) : q0e l ++ [.agg [.int .i64 a, .int .i64 b, .str s, .int .i64 q]] = q0e (l ++ [⟨a, b, s, q⟩]) := by simp [q0e, q93]
theorem q8k (l : List Rec) (s : ByteArray) (v : List Int) (c : List Sn) : q09 l ++ [.agg [.str s, .sl 1 (q05 v), .sl 3 (q0c c)]] = q09 (l ++ [⟨s, ⟨v, c⟩⟩]) := by simp [q09, q5n]
def q2y (a b : Rn) : Bool := decide (a.1 < b.1) || (decide (a.1 = b.1) && decide (a.2 < b.2))
def Ent.dot (e : Ent) : Rn := (e.rep, e.num)
def q25 (e : Ent) : Int := if e.rep < 0 ∨ 16 ≤ e.rep then 3 else if e.num < 1 ∨ 1000000000 < e.num then 2 else if q7j e.sku = false then 5 else if e.qty < 1 ∨ 1000000 < e.qty then 6 else 0
def q6z (l : List Ent) : Prop := (∀ (i : Nat) e, l[i]? = some e → q25 e = 0) ∧ ∀ (i : Nat) a b, l[i]? = some a → l[i + 1]? = some b → q2y a.dot b.dot = true
open Classical in
noncomputable def q7k (l : List Ent) : Bool := decide (q6z l)
theorem q50 {l : List Ent} (h : q6z l) : q7k l = true := by classical exact decide_eq_true h
theorem q7a {l : List Ent} (h : ¬ q6z l) : q7k l = false := by classical exact decide_eq_false h
theorem qe9 {l : List Ent} : q7k l = true ↔ q6z l := by classical exact decide_eq_true_iff
def q4b (a b : Rec) : Int := if q9j a.sku b.sku = 0 then cmpP a.past b.past else q9j a.sku b.sku
def q2r (r : Rec) : Int := if ¬ r.sku.size = 0 ∧ q7j r.sku = false then 5 else if q1g r.past = false ∨ q3i r.past = 0 then 1 else 0
def q3y (l : List Rec) : Prop := (∀ (i : Nat) r, l[i]? = some r → q2r r = 0) ∧ ∀ (i : Nat) a b, l[i]? = some a → l[i + 1]? = some b → q4b a b < 0
open Classical in
noncomputable def q3m (l : List Rec) : Bool := decide (q3y l)
theorem q2m {l : List Rec} (h : q3y l) : q3m l = true := by classical exact decide_eq_true h
theorem q5i {l : List Rec} (h : ¬ q3y l) : q3m l = false := by classical exact decide_eq_false h
theorem q7w {l : List Rec} : q3m l = true ↔ q3y l := by classical exact decide_eq_true_iff
def wtK (r : Rec) : Nat := wt r.past + 1
def q6m (l : List Rec) : Nat := (l.map wtK).sum
theorem qin {l : List Rec} {r : Rec} (h : r ∈ l) : wtK r ≤ q6m l := by
 unfold q6m
 obtain ⟨i, hi, rfl⟩ := List.getElem_of_mem h
 have := zaz (l.map wtK) i
 simpa [List.getD_eq_getElem?_getD, hi] using this
theorem q8b (l : List Rec) : l.length ≤ q6m l := by
 induction l with
 | nil => exact Nat.zero_le _
 | cons r l ih =>
  unfold q6m at *
  simp only [List.map_cons, List.sum_cons, List.length_cons, wtK]
  omega

section
open Go.Proofs Go.Shelf Go.RowKit Go.Lib Go.Sort
theorem zm5 (a b : ByteArray) : q9j b a = - q9j a b := qhj _ _
theorem cmpP_neg (p q : Pst) : cmpP q p = - cmpP p q := qhj _ _
theorem q67 (a b : Rec) : q4b b a = - q4b a b := by
 unfold q4b
 rw [zm5 a.sku b.sku, cmpP_neg a.past b.past]
 by_cases h : q9j a.sku b.sku = 0
 ·rw [if_pos (by omega), if_pos h]
 ·rw [if_neg (by omega), if_neg h]
theorem qpo (a : Rec) : q4b a a = 0 := by
 unfold q4b
 rw [if_pos (q5o.2 rfl)]
 exact qpp.2 rfl
theorem qrr {a b c : Rec} (h1 : q4b a b ≤ 0) (h2 : q4b b c ≤ 0) : q4b a c ≤ 0 := by
 have s1 : q9j a.sku b.sku ≤ 0 := by
  unfold q4b at h1
  split at h1
  ·omega
  ·exact h1
 have s2 : q9j b.sku c.sku ≤ 0 := by
  unfold q4b at h2
  split at h2
  ·omega
  ·exact h2
 have s3 : q9j a.sku c.sku ≤ 0 := qaz s1 s2
 by_cases h : q9j a.sku c.sku = 0
 ·have e := q5o.1 h
  have s4 : q9j a.sku b.sku = 0 := by
   have := zm5 b.sku c.sku
   rw [← e] at this s2
   omega
  have s5 : q9j b.sku c.sku = 0 := by rw [← q5o.1 s4]; exact h
  unfold q4b at h1 h2 ⊢
  rw [if_pos s4] at h1
  rw [if_pos s5] at h2
  rw [if_pos h]
  exact qaz h1 h2
 ·unfold q4b
  rw [if_neg h]
  exact s3
theorem qem {a b c : Rec} (h1 : q4b a b < 0) (h2 : q4b b c < 0) : q4b a c < 0 := by
 have h3 := qrr (a := a) (b := b) (c := c) (by omega) (by omega)
 rcases Int.lt_or_eq_of_le h3 with h | h
 ·exact h
 ·have h4 := qrr (a := b) (b := c) (c := a) (by omega) (by have := q67 a c; omega)
  have := q67 a b
  omega
theorem cmpR_SWO : SWO (ltOf q4b) := by
 refine ⟨fun x => ?_, fun x y z h1 h2 => ?_, fun x y z h1 h2 => ?_⟩
 ·unfold ltOf
  rw [qpo]
  rfl
 ·unfold ltOf at *
  simp only [decide_eq_true_eq] at *
  exact qem h1 h2
 ·unfold ltOf at *
  simp only [decide_eq_false_iff_not] at *
  have := qrr (a := z) (b := y) (c := x) (by have := q67 y z; omega) (by have := q67 x y; omega)
  have := q67 x z
  omega
def qgi (r : Rec) : Prop := q1a r.past = r.past
theorem zm4 {a b : Rec} (ha : qgi a) (hb : qgi b) (h : q4b a b = 0) : a = b := by
 unfold q4b at h
 split at h
 ·rename_i hs
  have e1 := q5o.1 hs
  have e2 := qpp.1 h
  unfold qgi at ha hb
  rw [ha, hb] at e2
  cases a; cases b
  simp only at e1 e2
  rw [e1, e2]
 ·rename_i hs
  exact absurd h hs
def SrtR (l : List Rec) : Prop := l.Pairwise fun a b => q4b a b < 0
theorem SrtR.ext : ∀ {l m : List Rec}, SrtR l → SrtR m → (∀ x, x ∈ l ↔ x ∈ m) → l = m
 | [], [], _, _, _ => rfl
 | [], y :: m, _, _, h => absurd ((h y).2 (by simp)) (by simp)
 | x :: l, [], _, _, h => absurd ((h x).1 (by simp)) (by simp)
 | x :: l, y :: m, hl, hm, h => by
  unfold SrtR at hl hm
  rw [List.pairwise_cons] at hl hm
  have irr : ∀ a : Rec, ¬ q4b a a < 0 := fun a => by rw [qpo]; omega
  have e : x = y := by
   rcases List.mem_cons.1 ((h x).1 (by simp)) with e | e
   ·exact e
   ·rcases List.mem_cons.1 ((h y).2 (by simp)) with e' | e'
    ·exact e'.symm
    ·have h1 := hm.1 x e
     have h2 := hl.1 y e'
     exact absurd (qem h1 h2) (irr _)
  subst e
  have : l = m := by
   refine SrtR.ext hl.2 hm.2 fun z => ⟨fun hz => ?_, fun hz => ?_⟩
   ·rcases List.mem_cons.1 ((h z).1 (by simp [hz])) with e | e
    ·subst e; exact absurd (hl.1 z hz) (irr z)
    ·exact e
   ·rcases List.mem_cons.1 ((h z).2 (by simp [hz])) with e | e
    ·subst e; exact absurd (hm.1 z hz) (irr z)
    ·exact e
  rw [this]
def z7b (x : Rec) : List Rec → List Rec
 | [] => [x]
 | y :: l => if q4b x y < 0 then x :: y :: l else if q4b x y = 0 then y :: l else y :: z7b x l
def q9i : List Rec → List Rec
 | [] => []
 | x :: l => z7b x (q9i l)
theorem qhl {x : Rec} : ∀ {l : List Rec} {z : Rec}, z ∈ z7b x l → z = x ∨ z ∈ l
 | [], z, h => by simp only [z7b, List.mem_singleton] at h; exact .inl h
 | y :: l, z, h => by
  unfold z7b at h
  split at h
  ·simpa using h
  ·split at h
   ·exact .inr h
   ·rcases List.mem_cons.1 h with h | h
    ·exact .inr (by simp [h])
    ·rcases qhl h with h | h
     ·exact .inl h
     ·exact .inr (by simp [h])
theorem qra {x : Rec} (hx : qgi x) : ∀ {l : List Rec}, (∀ y ∈ l, qgi y) → ∀ z, (z = x ∨ z ∈ l) → z ∈ z7b x l
 | [], _, z, h => by
  rcases h with h | h
  ·simp [z7b, h]
  ·cases h
 | y :: l, hl, z, h => by
  unfold z7b
  split
  ·rcases h with h | h
   ·simp [h]
   ·exact List.mem_cons_of_mem _ h
  ·split
   ·rename_i h0
    rcases h with h | h
    ·rw [h, zm4 hx (hl y (by simp)) h0]; simp
    ·exact h
   ·rcases h with h | h
    ·exact List.mem_cons_of_mem _ (qra hx (fun y hy => hl y (by simp [hy])) z (.inl h))
    ·rcases List.mem_cons.1 h with h | h
     ·simp [h]
     ·exact List.mem_cons_of_mem _ (qra hx (fun y hy => hl y (by simp [hy])) z (.inr h))
theorem z7a {x : Rec} : ∀ {l : List Rec}, SrtR l → SrtR (z7b x l)
 | [], _ => by simp [z7b, SrtR]
 | y :: l, h => by
  unfold SrtR at h
  rw [List.pairwise_cons] at h
  unfold z7b
  split
  ·rename_i hxy
   unfold SrtR
   rw [List.pairwise_cons, List.pairwise_cons]
   refine ⟨fun z hz => ?_, h⟩
   rcases List.mem_cons.1 hz with e | e
   ·rw [e]; exact hxy
   ·exact qem hxy (h.1 z e)
  ·split
   ·unfold SrtR
    rw [List.pairwise_cons]
    exact h
   ·rename_i h1 h2
    unfold SrtR
    rw [List.pairwise_cons]
    refine ⟨fun z hz => ?_, z7a h.2⟩
    rcases qhl hz with e | e
    ·rw [e]; have := q67 x y; omega
    ·exact h.1 z e
theorem qc6 : ∀ l : List Rec, SrtR (q9i l)
 | [] => List.Pairwise.nil
 | x :: l => z7a (qc6 l)
theorem qc5 : ∀ {l : List Rec} {z : Rec}, z ∈ q9i l → z ∈ l
 | [], z, h => by cases h
 | x :: l, z, h => by
  rcases qhl h with h | h
  ·simp [h]
  ·exact List.mem_cons_of_mem _ (qc5 h)
theorem zjo : ∀ {l : List Rec}, (∀ y ∈ l, qgi y) → ∀ z, z ∈ l → z ∈ q9i l
 | [], _, z, h => by cases h
 | x :: l, hl, z, h => by
  refine qra (hl x (by simp)) (fun y hy => hl y (List.mem_cons_of_mem _ (qc5 hy))) z ?_
  rcases List.mem_cons.1 h with h | h
  ·exact .inl h
  ·exact .inr (zjo (fun y hy => hl y (by simp [hy])) z h)
theorem q4k {l : List Rec} (hl : ∀ y ∈ l, qgi y) (z : Rec) : z ∈ q9i l ↔ z ∈ l := ⟨qc5, zjo hl z⟩
theorem qdk {l m : List Rec} (hl : ∀ y ∈ l, qgi y) (hm : SrtR m) (h : ∀ x, x ∈ m ↔ x ∈ l) : m = q9i l :=
 hm.ext (qc6 l) fun x => by rw [h x, q4k hl]
def cpt (l : List Rec) : Nat → List Rec
 | 0 => []
 | n + 1 => cpt l n ++ match l[n]? with
  | none => []
  | some x => if n = 0 then [x] else match l[n - 1]? with
   | none => []
   | some y => if q4b x y = 0 then [] else [x]
theorem qcd {l : List Rec} {n : Nat} {x y : Rec} (hn : 0 < n) (hx : l[n]? = some x) (hy : l[n - 1]? = some y) : cpt l (n + 1) = cpt l n ++ if q4b x y = 0 then [] else [x] := by
 conv => lhs; unfold cpt
 rw [hx]
 simp only
 rw [if_neg (by omega), hy]
theorem zm1 {l : List Rec} {x : Rec} (hx : l[0]? = some x) : cpt l 1 = [x] := by
 simp [cpt, hx]
theorem qce {l : List Rec} : ∀ {n : Nat}, n ≤ l.length → (∀ (j : Nat) x y, j + 1 < n → l[j]? = some y → l[j + 1]? = some x → q4b x y ≠ 0) → cpt l n = l.take n
 | 0, _, _ => by simp [cpt]
 | n + 1, hn, h => by
  have ih := qce (l := l) (n := n) (by omega) fun j x y hj => h j x y (by omega)
  obtain ⟨x, hx⟩ : ∃ x, l[n]? = some x := ⟨l[n], by simp [show n < l.length by omega]⟩
  rcases Nat.eq_zero_or_pos n with h0 | h0
  ·subst h0
   rw [zm1 hx, List.take_add_one, hx]
   simp
  ·obtain ⟨y, hy⟩ : ∃ y, l[n - 1]? = some y := ⟨l[n - 1], by simp [show n - 1 < l.length by omega]⟩
   rw [qcd h0 hx hy, ih, if_neg (h (n - 1) x y (by omega) hy (by rw [show n - 1 + 1 = n by omega]; exact hx)), List.take_add_one, hx]
   rfl
theorem z7q {l : List Rec} (hs : l.Pairwise fun a b => q4b a b ≤ 0) (hc : ∀ y ∈ l, qgi y) : ∀ {n : Nat}, n ≤ l.length → SrtR (cpt l n) ∧ (∀ x, x ∈ cpt l n ↔ x ∈ l.take n) ∧ (∀ x, l[n - 1]? = some x → 0 < n → ∀ z ∈ cpt l n, z = x ∨ q4b z x < 0)
 | 0, _ => ⟨List.Pairwise.nil, fun x => by simp [cpt], fun x _ h => by omega⟩
 | n + 1, hn => by
  obtain ⟨i1, i2, i3⟩ := z7q hs hc (n := n) (by omega)
  obtain ⟨x, hx⟩ : ∃ x, l[n]? = some x := ⟨l[n], by simp [show n < l.length by omega]⟩
  have hxl := List.mem_of_getElem? hx
  rcases Nat.eq_zero_or_pos n with h0 | h0
  ·subst h0
   rw [zm1 hx]
   refine ⟨by simp [SrtR], fun z => by rw [List.take_add_one, hx]; simp, fun z hz _ w hw => ?_⟩
   simp only [Nat.add_sub_cancel] at hz
   rw [hx] at hz
   cases hz
   exact .inl (by simpa using hw)
  ·obtain ⟨y, hy⟩ : ∃ y, l[n - 1]? = some y := ⟨l[n - 1], by simp [show n - 1 < l.length by omega]⟩
   have hyl := List.mem_of_getElem? hy
   have hle : q4b y x ≤ 0 := by
    rw [List.pairwise_iff_getElem] at hs
    have := hs (n - 1) n (by omega) (by omega) (by omega)
    have e1 : l[n - 1] = y := by rw [List.getElem?_eq_getElem (by omega)] at hy; exact Option.some.inj hy
    have e2 : l[n] = x := by rw [List.getElem?_eq_getElem (by omega)] at hx; exact Option.some.inj hx
    rw [e1, e2] at this
    exact this
   rw [qcd h0 hx hy]
   have hn := q67 x y
   have i3' := i3 y hy h0
   by_cases hz : q4b x y = 0
   ·rw [if_pos hz, List.append_nil]
    have e := zm4 (hc x hxl) (hc y hyl) hz
    subst e
    refine ⟨i1, fun z => ?_, fun z hz' _ w hw => ?_⟩
    ·rw [i2 z, List.take_add_one, hx]
     simp only [Option.toList_some, List.mem_append, List.mem_singleton]
     refine ⟨fun h => .inl h, fun h => h.elim id fun e => ?_⟩
     subst e
     exact List.mem_of_getElem? (i := n - 1) (by rw [List.getElem?_take, if_pos (by omega)]; exact hy)
    ·simp only [Nat.add_sub_cancel] at hz'
     rw [hx] at hz'
     cases hz'
     exact i3' w hw
   ·rw [if_neg hz]
    have hlt : q4b y x < 0 := by omega
    have hall : ∀ w ∈ cpt l n, q4b w x < 0 := fun w hw => by
     rcases i3' w hw with e | e
     ·rw [e]; exact hlt
     ·exact qem e hlt
    refine ⟨?_, fun z => ?_, fun z hz' _ w hw => ?_⟩
    ·unfold SrtR
     rw [List.pairwise_append]
     exact ⟨i1, by simp, fun a ha b hb => by rw [List.mem_singleton.1 hb]; exact hall a ha⟩
    ·rw [List.take_add_one, hx]
     simp only [Option.toList_some, List.mem_append, List.mem_singleton, i2 z]
    ·simp only [Nat.add_sub_cancel] at hz'
     rw [hx] at hz'
     cases hz'
     rcases List.mem_append.1 hw with h | h
     ·exact .inr (hall w h)
     ·exact .inl (List.mem_singleton.1 h)
theorem cpt_ord {l s : List Rec} (hp : s.Perm l) (hs : s.Pairwise fun a b => q4b a b ≤ 0) (hc : ∀ y ∈ l, qgi y) : cpt s s.length = q9i l := by
 have hc' : ∀ y ∈ s, qgi y := fun y hy => hc y (hp.mem_iff.1 hy)
 obtain ⟨h1, h2, _⟩ := z7q hs hc' (Nat.le_refl s.length)
 refine qdk hc h1 fun x => ?_
 rw [h2 x, List.take_length]
 exact hp.mem_iff
end

def NewQ (t : Tmp) (cs : List AVal) : Ex → AS → Prop
 | .ret, s => ∃ k, s.T t = .ptr k 0 ∧ s.M k = some (.cells cs) ∧ q0j cs = true
 | _, _ => False
theorem qd2 {P : Program} {fn : Func} {t : Tmp} (hrs : fn.results.toList = [.tmp t]) (tm : Array Value) (w : World) : (results fn tm).run P w = .ok (tm.getD t undef) w := by
 have hm : (fn.results.mapM (fun r => match r with | .tmp t => pure (tm.getD t undef) | .cell c t => do loadVar t (← asAddr (tm.getD c undef)) : ResultVar → Sem Value)).run P w = .ok #[tm.getD t undef] w := by
  rw [Array.mapM_eq_mapM_toList, hrs]
  simp only [Sem.run_map, List.mapM_cons, List.mapM_nil, Sem.run_bind, Sem.run_pure, Result.andThen]
 unfold results
 simp only [Sem.run_bind]
 refine Eq.trans (congrArg (fun r => Result.andThen r _) hm) ?_
 simp [Result.andThen]
theorem EvNew.of_body {E : Env} {f : FuncId} {n : Nat} {t : Tmp} {sc : SC} (hf : FnIs E.P f n [.tmp t] sc) {args cs : List AVal} (hl : args.length ≤ n)
 (h : AW E n sc (NewQ t cs) ⟨q8t args, NoM⟩) : EvNew E.P f args cs := by
 obtain ⟨fn, c, h1, h2, h3, rfl, hrs, h6⟩ := hf
 refine ⟨⟨fn, h1, h2, by simp [h3]⟩, fun B w vs G hG hsz hv hB => ?_⟩
 refine calls_of_wp h1 h3 ?_
 have hR : Rel fn.ntmps B G ⟨q8t args, NoM⟩ { tmps := vs ++ Array.replicate (fn.ntmps - vs.size) undef, defers := [] } w := by
  refine ⟨by simp; omega, rfl, fun t => ?_, fun k blk hk => by simp [NoM] at hk, fun b hb => ⟨hB b hb, hG b⟩, fun b hb => absurd (hG b) hb⟩
  simp only [q8t]
  cases ht : args[t]? with
  | none => exact .undef _
  | some x =>
   have hlt : t < vs.size := by
    rw [hsz]
    rcases Nat.lt_or_ge t args.length with h' | h'
    ·exact h'
    ·rw [List.getElem?_eq_none h'] at ht; cases ht
   have : (vs ++ Array.replicate (fn.ntmps - vs.size) undef).getD t undef = vs[t] := by
    rw [Array.getD_eq_getD_getElem?, Array.getElem?_append_left hlt]
    simp [hlt]
   simp only [Option.getD_some, this]
   exact hv t x _ ht (by simp [hlt])
 refine h c h6 B G _ w hR _ fun e s a' w' G' hA hR' hq => ?_
 cases e with
 | normal => exact hq.elim
 | exit id => exact hq.elim
 | pan x => exact hq.elim
 | ret =>
  obtain ⟨k, q1, q2, q3⟩ := hq
  have hx := hR'.temps t
  rw [q1] at hx
  have e1 : a'.tmps.getD t undef = .pointer (some ⟨G'.β k, 0, none⟩) := by
   generalize a'.tmps.getD t undef = tv at hx
   cases hx
   rfl
  obtain ⟨cc, el, b1, b2, b3, b4, b5⟩ := hR'.mem k _ q2
  let G2 : Gh := { G' with ow := fun b => if b = G'.β k then G'.ow b else none }
  have g2 : ∀ b, G'.ow b = none → G2.ow b = none := fun b hb => by simp only [G2]; split <;> first | exact hb | rfl
  have hge : w.heap.size ≤ G'.β k := by
   rcases Nat.lt_or_ge (G'.β k) w.heap.size with h' | h'
   ·have := (hA.keep _ h' (hG _)).2
    rw [b1] at this
    cases this
   ·exact h'
  refine ⟨hR'.defers, _, qd2 hrs a'.tmps w', G2, G'.β k, cc, el, hge, hR'.ol _ (by rw [b1]; simp), by simp only [G2, if_true]; rw [b1]; simp,
   ⟨hA.os, hA.tape, hA.output, hA.size, fun b hb ho => ⟨(hA.keep b hb ho).1, g2 b (hA.keep b hb ho).2⟩⟩, by rw [e1], b3, b4, fun i x hx => ?_⟩
  obtain ⟨u, hu, hcr⟩ := b5 i x hx
  have hst : x.stb = true := q41 q3 hx
  refine ⟨u, hu, ?_⟩
  have hvr : VR (Dm s.M) G' B w' x u := by
   cases x <;> first | exact hcr | (simp [AVal.stb] at hst; done)
  exact hvr.stable (fun b _ hn ho => ⟨rfl, hn, g2 b ho⟩) hst

def FrQ (t : Tmp) (sz : Nat) (xs : List AVal) : Ex → AS → Prop
 | .ret, s => ∃ k e, s.T t = .os k e ∧ s.M k = some (.arr e sz xs) ∧ q0j xs = true
 | _, _ => False
theorem EvFresh.of_body {E : Env} {f : FuncId} {n : Nat} {t : Tmp} {sc : SC} (hf : FnIs E.P f n [.tmp t] sc) {args xs : List AVal} {sz : Nat} (hl : args.length ≤ n)
 (h : AW E n sc (FrQ t sz xs) ⟨q8t args, NoM⟩) : EvFresh E.P f args sz xs := by
 obtain ⟨fn, c, h1, h2, h3, rfl, hrs, h6⟩ := hf
 refine ⟨⟨fn, h1, h2, by simp [h3]⟩, fun B w vs G hG hsz hv hB => ?_⟩
 refine calls_of_wp h1 h3 ?_
 have hR : Rel fn.ntmps B G ⟨q8t args, NoM⟩ { tmps := vs ++ Array.replicate (fn.ntmps - vs.size) undef, defers := [] } w := by
  refine ⟨by simp; omega, rfl, fun t => ?_, fun k blk hk => by simp [NoM] at hk, fun b hb => ⟨hB b hb, hG b⟩, fun b hb => absurd (hG b) hb⟩
  simp only [q8t]
  cases ht : args[t]? with
  | none => exact .undef _
  | some x =>
   have hlt : t < vs.size := by
    rw [hsz]
    rcases Nat.lt_or_ge t args.length with h' | h'
    ·exact h'
    ·rw [List.getElem?_eq_none h'] at ht; cases ht
   have : (vs ++ Array.replicate (fn.ntmps - vs.size) undef).getD t undef = vs[t] := by
    rw [Array.getD_eq_getD_getElem?, Array.getElem?_append_left hlt]
    simp [hlt]
   simp only [Option.getD_some, this]
   exact hv t x _ ht (by simp [hlt])
 refine h c h6 B G _ w hR _ fun e s a' w' G' hA hR' hq => ?_
 cases e with
 | normal => exact hq.elim
 | exit id => exact hq.elim
 | pan x => exact hq.elim
 | ret =>
  obtain ⟨k, e, q1, q2, q3⟩ := hq
  have hx := hR'.temps t
  rw [q1] at hx
  have e1 : a'.tmps.getD t undef = G'.hd k e := by generalize a'.tmps.getD t undef = q at hx; cases hx with | os _ _ _ v hv => exact hv
  have hb : OwnAt (Dm s.M) G' B w' (.arr k) sz xs (G'.hd k e) := hR'.mem k _ q2
  let G2 : Gh := { G' with ow := fun b => if G'.ow b = some (.arr k) then some (.arr k) else none }
  have g2 : ∀ b, G'.ow b = none → G2.ow b = none := fun b hb => by simp [G2, hb]
  refine ⟨hR'.defers, _, qd2 hrs a'.tmps w', G2, G'.hd k e, .arr k, by rw [e1], ⟨hA.os, hA.tape, hA.output, hA.size, fun b hb ho => ⟨(hA.keep b hb ho).1, g2 b (hA.keep b hb ho).2⟩⟩, fun b hb' => hR'.ol b fun hn => hb' (g2 b hn), ?_⟩
  exact hb.trade (fun b hb ho => ⟨hb, by simp [G2, ho]⟩) fun x hx u hr => hr.stable (fun b _ hn ho => ⟨rfl, hn, g2 b ho⟩) (q4p q3 x hx)
theorem z98 {P : Program} {s : AS} {x : Operand} {args : Array Operand} {ts : Array TypeId} {f : FuncId} {caps l xs : List AVal} {sz : Nat} (k : Nat) (hf : ev s.T x = .fn f caps)
 (hl : (evs s.T args.toList ++ caps).map (fz (fun _ => false) s.M) = l) (hst : q0j l = true) (he : EvFresh P f l sz xs) (hk : s.M k = none) :
 Hook P s (.call ⟨.value x, args, ts⟩) (fun v M' => v = .os k 0 ∧ M' = upd s.M k (some (.arr 0 sz xs))) := by
 intro n B G a w h o ho K Q hK
 subst hl
 obtain ⟨fn, hfn, hnm, hbd⟩ := he.1.ok
 have hx := h.ev x
 rw [hf] at hx
 generalize hxv : a.eval x = xv at hx
 cases hx with
 | fn _ _ vs hl hh =>
  have hrun : (execOp a.eval o).run P w = .ok (.enter f (args.map a.eval ++ vs)) w := by
   unfold execOp
   rw [ho]
   have h1 : (fn.name = "runtime.NumGoroutine") = False := by simpa using hnm
   have h2 : (fn.body = none) = False := by simp only [eq_iff_iff, iff_false]; intro hn; rw [hn] at hbd; simp at hbd
   simp [resolve, hxv, Deferred.ofValue, invoke, callFunc, hfn, h1, h2]
  unfold Oper.wp
  rw [hrun]
  simp only [Oper.upon]
  obtain ⟨q1, q2⟩ := qbd h args
  refine qbr h (args := evs s.T args.toList ++ caps) (by simp [q1, hl]) (fun i y u hy hu => ?_) hst he hk (fun v' w' G' hA hR hV => hK _ v' _ w' G' ⟨rfl, rfl⟩ hA hR hV)
  rcases Nat.lt_or_ge i (evs s.T args.toList).length with hlt | hge
  ·rw [List.getElem?_append_left hlt] at hy
   rw [Array.getElem?_append_left (by rw [q1]; exact hlt)] at hu
   obtain ⟨u', hu', hr'⟩ := q2 i y hy
   rw [hu] at hu'
   exact (Option.some.inj hu') ▸ hr'
  ·rw [List.getElem?_append_right hge] at hy
   rw [Array.getElem?_append_right (by rw [q1]; exact hge), q1] at hu
   exact hh _ y u hy hu
theorem zkm {P : Program} {TE : TyE} (hT : q4c P TE) {s : AS} {t el : TypeId} {i ei : TyI} {x y : Operand} {k e sz : Nat} {xs : List AVal} {kk : IntKind} {m : Nat} (hx : ev s.T x = .os k e) (hk : s.M k = some (.arr e sz xs)) (hy : ev s.T y = .int kk (m : Int))
 (hm : m ≤ xs.length) (ht : TE t = some i) (htd : i.td = .slice el) (he : TE el = some ei) (hei : ei.size = sz) :
 Hook P s (.slice t x none (some y) none) (fun v M' => v = .os k (e + 1) ∧ M' = upd s.M k (some (.arr (e + 1) sz (xs.take m)))) := by
 intro n B G a w h o ho K Q hK
 have qx := h.ev x
 have qy := h.ev y
 rw [hx] at qx
 rw [hy] at qy
 generalize hxv : a.eval x = xv at qx
 generalize hyv : a.eval y = yv at qy
 have hO : OVR (Dm s.M) G B w (some (.int kk (m : Int))) (some yv) := qy
 have hO0 : OVR (Dm s.M) G B w none none := trivial
 have hb1 : q2c none 0 = some 0 := rfl
 have hb2 : ∀ d, q2c (some (.int kk (m : Int))) d = some m := fun d => by simp [q2c]
 have fin : ∀ (v' : Value) (G' : Gh), (Instr.sliceAt t xv none (some yv) none).run P w = .ok v' w → Adv G w G' w → Rel n B G' ⟨s.T, upd s.M k (some (.arr (e + 1) sz (xs.take m)))⟩ a w → v' = G'.hd k (e + 1) → o.wp P a w K Q := by
  intro v' G' hrun hA hR hv
  have : (execOp a.eval o).run P w = .ok (.value v') w := by
   unfold execOp
   rw [ho]
   simp [hxv, hyv, hrun]
  unfold Oper.wp
  rw [this]
  exact hK (.os k (e + 1)) v' _ w G' ⟨rfl, rfl⟩ hA hR (.os k (e + 1) (by simp [Dm, q0a]) v' hv)
 cases qx with
 | os _ _ hD _ hvv =>
  have hown := h.mem k _ hk
  simp only [BlkRel] at hown
  rcases hown with ⟨hn, rfl⟩ | ⟨b, o', cap, c, el', q1, q2, q3, q4, q5, q6, q7, q7', q8⟩
  ·obtain rfl : m = 0 := by simpa using hm
   have := q2j (P := P) hO0 hO (isS := true) (len := 0) (cap := 0) hb1 (hb2 0) (Nat.le_refl _) (Nat.le_refl _)
   obtain ⟨G', hA, hR, hh⟩ := h.nil_arr (k := k) (e := e + 1) (.inr ⟨e, sz, _, hk, rfl⟩) sz
   refine fin (.slice none 0 0) G' ?_ hA (by simpa using hR) hh.symm
   rw [hvv, hn, q0z hT ht htd he this]
   simp
  ·have := q2j (P := P) hO0 hO (isS := true) (len := xs.length) (cap := cap) hb1 (hb2 _) (Nat.zero_le _) (by omega)
   have hself : w.setRow b c = w := setRow_self w b c el' (0, 0) q5
   obtain ⟨G', hA, hR, hh⟩ := h.set_arr hk q1 (e + 1) o' (.inl rfl) (xs.take m) (fun h => by omega) cap (by simp; omega) (fun h => by omega) q5 q3 c q6
    (fun z hz => q7 z (List.mem_of_mem_take hz)) (fun z hz => by rw [q6q q7] at hz; exact q7' z (List.mem_of_mem_take hz)) (fun i x hx => by
     rw [q6q q7, List.getElem?_take] at hx
     split at hx
     ·exact q8 i x hx
     ·cases hx)
   rw [hself] at hA hR
   refine fin _ G' ?_ hA hR hh.symm
   rw [hvv, q1, q0z hT ht htd he this, List.length_take, Nat.min_eq_left hm]
   by_cases hc : cap = 0
   ·simp [hc]
   ·rw [if_neg hc]
    simp [q3g]
theorem qgw {P : Program} {t1 t2 e ty : TypeId} {ik : IntKind} {nm : Bool} (hu : P.underlying t1 = some (.slice e)) (hu2 : P.underlying t2 = some (.int ik)) {inf : TypeInfo} (hi : P.info? e = some inf) {z : Value} (hz : inf.zero = some z) {w : World} {m : Nat} (h0 : 0 < m) (hsz : 0 < inf.size)
 (hm : m ≤ 1000000000) (hfit : m * inf.bytes ≤ 281474976710656) :
 (Builtin.append_ #[t1, t2] ty #[.slice none 0 0, .int .i64 (m : Int)]).run P w =
  .ok (.slice (some ⟨w.heap.size, 0, none⟩) m (grownCap w m 0 e)) (w.drew.alloc (.cells (Builtin.zeroCells z.cells m ++ Builtin.zeroCells z.cells (grownCap w m 0 e - m)) e)) := by
 have hw : IntKind.i64.wrap (m : Int) = (m : Int) := q94 (by omega) (by omega)
 have hne : ¬ (m * inf.size = 0) := by
  intro h
  rcases Nat.mul_eq_zero.1 h with h | h <;> omega
 have hnx : Builtin.nextslicecap m 0 = m := by
  unfold Builtin.nextslicecap
  rw [if_pos (by omega)]
 have h48b : ¬ ((m : Int) * (inf.bytes : Int) > 281474976710656) := by
  have h1 : (m : Int) * (inf.bytes : Int) = ((m * inf.bytes : Nat) : Int) := (Int.natCast_mul m inf.bytes).symm
  rw [h1]
  omega
 have h48 : ¬ ((m : Int) * (inf.bytes : Int) > 2 ^ 48) := by
  rw [show (2 : Int) ^ 48 = 281474976710656 by decide]
  exact h48b
 have hmax : IntKind.i64.max = 9223372036854775807 := by decide
 have h63 : ¬ ((m : Int) > IntKind.i64.max) := by rw [hmax]; omega
 have h49 : ¬ (281474976710656 < m * inf.bytes) := by omega
 simp [Builtin.append_, run_underlying hu, run_underlying hu2, sizeOf, typeInfo, zeroValue, hi, hz, asInt, asIntOf, hw, hne, hnx, h48, h48b, h63, h49, Question.forced, Builtin.firstCells, newRow, grownCap]
 rw [if_neg (by omega), if_neg (by omega), if_neg (by omega)]
theorem z97 {P : Program} {TE : TyE} (hT : q4c P TE) {s : AS} {t1 t2 el : TypeId} {i1 i2 ei : TyI} {ik : IntKind} {x y : Operand} {m : Nat} (d : Nat) (hx : ev s.T x = .nil) (hy : ev s.T y = .int .i64 (m : Int)) (h0 : 0 < m) (hm : m ≤ 1000000000)
 (ht1 : TE t1 = some i1) (hd1 : i1.td = .slice el) (ht2 : TE t2 = some i2) (hd2 : i2.td = .int ik) (he : TE el = some ei) (hok : ei.okElem = true) (hb : m * ei.bytes ≤ 281474976710656) (hd : s.M d = none) :
 Hook P s (.call ⟨.builtin .append, #[x, y], #[t1, t2]⟩) (fun v M' => v = .os d 0 ∧ M' = upd s.M d (some (.arr 0 ei.size (List.replicate m ei.zeroElem)))) := by
 intro n B G a w h o ho K Q hK
 have qx := h.ev x
 have qy := h.ev y
 rw [hx] at qx
 rw [hy] at qy
 generalize hxv : a.eval x = xv at qx
 generalize hyv : a.eval y = yv at qy
 cases qx
 cases qy
 obtain ⟨o1, o2, o3, o4⟩ := q75 hT he hok
 obtain ⟨dd, inf, q1, q2, q3, q4, q5, q6, q7⟩ := hT el ei he
 have hu := q23 hT ht1 hd1
 have hu2 : P.underlying t2 = some (.int ik) := by
  obtain ⟨d2, inf2, r1, r2, _⟩ := hT t2 i2 ht2
  rw [hd2] at r2
  cases d2 <;> simp [TD.of] at r2
  subst r2
  exact r1
 have hrun := qgw (P := P) (ty := o.type) (nm := true) hu hu2 q3 q6 (w := w) h0 (by rw [q4]; exact o1) hm (by rw [q5]; exact hb)
 have hzl : ei.zeroElem.cells.length = ei.size := by rw [o2, o3]
 have hzs : ∀ x ∈ List.replicate m ei.zeroElem, x.cells.length = ei.size := fun x hx => by rw [List.eq_of_mem_replicate hx]; exact hzl
 have hcap : m ≤ grownCap w m 0 el := grownCap_ge _ _ _ _
 have hz1 : (Builtin.zeroCells ei.zero.cells m).size = m * ei.size := by rw [size_zeroCells, q7]
 have hz2 : (Builtin.zeroCells ei.zero.cells (grownCap w m 0 el - m)).size = (grownCap w m 0 el - m) * ei.size := by rw [size_zeroCells, q7]
 have hfz : (flat (List.replicate m ei.zeroElem)).length = m * ei.size := by rw [q0r hzs]; simp
 have hzr : ∀ (j : Nat) (x : AVal), (flat (List.replicate m ei.zeroElem))[j]? = some x → ∃ u, (Builtin.zeroCells ei.zero.cells m)[j]? = some u ∧ VR (Dm s.M) G B (w.drew) x u := by
  have := qbz hT he (D := Dm s.M) (G := G) (B := B) (w := w.drew) o2 o1 m m (Nat.le_refl _)
  unfold Builtin.zeroCells
  rw [show m * ei.zero.cells.size = m * ei.size by rw [q7]]
  exact this
 obtain ⟨G', hA, hR, hh⟩ := (h.drawn (w.drawn + 1)).new_arr (k := d) (e := 0) (.inl hd) ei.size (grownCap w m 0 el) (List.replicate m ei.zeroElem) (Builtin.zeroCells ei.zero.cells m ++ Builtin.zeroCells ei.zero.cells (grownCap w m 0 el - m)) el
  (by simpa using hcap) (by rw [Array.size_append, hz1, hz2, ← Nat.add_mul]; exact Nat.mul_le_mul_right _ (by omega)) hzs
  (fun x hx => by
   obtain ⟨y, hy, hx⟩ := List.mem_flatMap.1 hx
   rw [List.eq_of_mem_replicate hy, o2] at hx
   exact o4 x hx)
  (fun i x hx => by
   obtain ⟨u, hu, hr⟩ := hzr i x hx
   have hlt : i < (Builtin.zeroCells ei.zero.cells m).size := by
    rcases Nat.lt_or_ge i (Builtin.zeroCells ei.zero.cells m).size with h' | h'
    ·exact h'
    ·rw [Array.getElem?_eq_none h'] at hu; cases hu
   exact ⟨u, by rw [Array.getElem?_append_left hlt]; exact hu, hr⟩)
 have hex : (execOp a.eval o).run P w = .ok (.value (.slice (some ⟨w.heap.size, 0, none⟩) m (grownCap w m 0 el))) (w.drew.alloc (.cells (Builtin.zeroCells ei.zero.cells m ++ Builtin.zeroCells ei.zero.cells (grownCap w m 0 el - m)) el)) := by
  have he : execOp a.eval o = builtin .append #[t1, t2] o.type (#[x, y].map fun | .const _ => true | _ => false) (#[x, y].map a.eval) := by
   unfold execOp
   rw [ho]
   rfl
  have hq : #[x, y].map a.eval = #[.slice none 0 0, .int .i64 (m : Int)] := by simp [hxv, hyv]
  have hb2 : builtin .append #[t1, t2] o.type (#[x, y].map fun | .const _ => true | _ => false) #[.slice none 0 0, .int .i64 (m : Int)] = (do pure (.value (← Builtin.append_ #[t1, t2] o.type #[.slice none 0 0, .int .i64 (m : Int)]))) := rfl
  rw [he, hq, hb2]
  simp [hrun]
 unfold Oper.wp
 rw [hex]
 refine hK (.os d 0) _ _ _ G' ⟨rfl, rfl⟩ ((Adv.drawn G w _).trans hA) hR (.os d 0 (by simp [Dm, q0a]) _ ?_)
 rw [hh, List.length_replicate]
theorem qe3 {P : Program} {TE : TyE} (hT : q4c P TE) {s : AS} {t el : TypeId} {i : TyI} {x : Operand} (hx : ev s.T x = .nil) (ht : TE t = some i) (hd : i.td = .slice el) :
 Hook P s (.call ⟨.builtin .cap, #[x], #[t]⟩) (fun v M' => v = .int .i64 0 ∧ M' = s.M) := by
 intro n B G a w h o ho K Q hK
 have qx := h.ev x
 rw [hx] at qx
 generalize hxv : a.eval x = xv at qx
 cases qx
 have hu := q23 hT ht hd
 have hex : (execOp a.eval o).run P w = .ok (.value (.int .i64 0)) w := by
  have he : execOp a.eval o = builtin .cap #[t] o.type (#[x].map fun | .const _ => true | _ => false) (#[x].map a.eval) := by
   unfold execOp
   rw [ho]
   rfl
  have hq : #[x].map a.eval = #[.slice none 0 0] := by simp [hxv]
  have hb2 : builtin .cap #[t] o.type (#[x].map fun | .const _ => true | _ => false) #[.slice none 0 0] = (do pure (.value (← Builtin.cap_ #[t] o.type #[.slice none 0 0]))) := rfl
  rw [he, hq, hb2]
  simp [Builtin.cap_, run_underlying hu, goInt]
 unfold Oper.wp
 rw [hex]
 exact hK (.int .i64 0) _ s.M w G ⟨rfl, rfl⟩ (.refl G w) h (.int _ _)

def odd (n : Nat) : Bool := decide (n % 2 = 1)
theorem zjy (n : Nat) : odd n = true ↔ n % 2 = 1 := by simp [odd]
theorem odd_succ (n : Nat) : odd (n + 1) = !odd n := by
 unfold odd
 rcases Nat.mod_two_eq_zero_or_one n with h | h
 ·have : (n + 1) % 2 = 1 := by omega
  simp [h, this]
 ·have : (n + 1) % 2 = 0 := by omega
  simp [h, this]
structure CbI (a b : List Int) (f : Bool → Bool → Bool) (i j : Nat) (v : Bool) (t : List Int) : Prop where
 hi : i ≤ a.length
 hj : j ≤ b.length
 sa : ∀ x ∈ t, ∀ y ∈ a.drop i, x < y
 sb : ∀ x ∈ t, ∀ y ∈ b.drop j, x < y
 ab : ∀ x ∈ a.take i, ∀ y ∈ b.drop j, x < y
 ba : ∀ x ∈ b.take j, ∀ y ∈ a.drop i, x < y
 rise : t.Pairwise (fun x y => x < y)
 val : v = f (odd i) (odd j)
 len : odd t.length = v
 le : t.length ≤ i + j
 mem : ∀ m, odd (cnt t m) = f (odd (cnt (a.take i) m)) (odd (cnt (b.take j) m))
theorem CbI.start {a b : List Int} {f : Bool → Bool → Bool} (hf : f false false = false) : CbI a b f 0 0 false [] := by
 refine ⟨Nat.zero_le _, Nat.zero_le _, by simp, by simp, by simp, by simp, .nil, by simp [odd, hf], rfl, Nat.le_refl _, fun m => ?_⟩
 simp [q7d, odd, hf]
theorem CbI.step {a b : List Int} {f : Bool → Bool → Bool} (hra : a.Pairwise (fun x y => x < y)) (hrb : b.Pairwise (fun x y => x < y)) {i j : Nat} {v : Bool} {t : List Int} (h : CbI a b f i j v t) {x : Int} {i' j' : Nat}
 (ha : (i' = i + 1 ∧ a[i]? = some x) ∨ (i' = i ∧ ∀ y ∈ a.drop i, x < y)) (hb : (j' = j + 1 ∧ b[j]? = some x) ∨ (j' = j ∧ ∀ y ∈ b.drop j, x < y)) (hx : i' = i + 1 ∨ j' = j + 1) :
 CbI a b f i' j' (f (odd i') (odd j')) (if f (odd i') (odd j') = v then t else t ++ [x]) := by
 have key : ∀ (l : List Int) (k k' : Nat), l.Pairwise (fun x y => x < y) → k ≤ l.length → ((k' = k + 1 ∧ l[k]? = some x) ∨ (k' = k ∧ ∀ y ∈ l.drop k, x < y)) →
  k' ≤ l.length ∧ (∀ y ∈ l.drop k', x < y) ∧ (∀ y ∈ l.take k', y ∈ l.take k ∨ y = x) ∧ (∀ y ∈ l.drop k', y ∈ l.drop k) ∧ (∀ m, m < x → cnt (l.take k') m = cnt (l.take k) m) ∧ (l.take k').length = k' := by
  intro l k k' hr hk hc
  rcases hc with ⟨rfl, hg⟩ | ⟨rfl, hg⟩
  ·obtain ⟨hlt, he⟩ := List.getElem?_eq_some_iff.1 hg
   have hd : l.drop k = x :: l.drop (k + 1) := by rw [List.drop_eq_getElem_cons hlt, he]
   have ht : l.take (k + 1) = l.take k ++ [x] := by rw [List.take_add_one, hg]; rfl
   have hp : (x :: l.drop (k + 1)).Pairwise (fun x y => x < y) := by rw [← hd]; exact hr.drop
   refine ⟨hlt, fun y hy => (List.pairwise_cons.1 hp).1 y hy, fun y hy => ?_, fun y hy => by rw [hd]; exact List.mem_cons_of_mem _ hy, fun m hm => ?_, by rw [List.length_take]; omega⟩
   ·rw [ht] at hy
    simpa using hy
   ·rw [ht, q8m, q22, if_neg (by omega), q7d]; rfl
  ·exact ⟨hk, hg, fun y hy => .inl hy, fun y hy => hy, fun _ _ => rfl, by rw [List.length_take]; omega⟩
 obtain ⟨a1, a2, a3, a4, a5, a6⟩ := key a i i' hra h.hi ha
 obtain ⟨b1, b2, b3, b4, b5, b6⟩ := key b j j' hrb h.hj hb
 have hxin : (x ∈ a.drop i) ∨ (x ∈ b.drop j) := by
  rcases hx with e | e
  ·rcases ha with ⟨_, hg⟩ | ⟨e2, _⟩
   ·obtain ⟨hlt, he⟩ := List.getElem?_eq_some_iff.1 hg
    exact .inl (by rw [List.drop_eq_getElem_cons hlt, he]; exact List.mem_cons_self)
   ·omega
  ·rcases hb with ⟨_, hg⟩ | ⟨e2, _⟩
   ·obtain ⟨hlt, he⟩ := List.getElem?_eq_some_iff.1 hg
    exact .inr (by rw [List.drop_eq_getElem_cons hlt, he]; exact List.mem_cons_self)
   ·omega
 have tx : ∀ y ∈ t, y < x := fun y hy => by
  rcases hxin with e | e
  ·exact h.sa y hy x e
  ·exact h.sb y hy x e
 have ax : ∀ y ∈ a.take i, y < x := fun y hy => by
  rcases hxin with e | e
  ·have h1 := hra
   rw [← List.take_append_drop i a, List.pairwise_append] at h1
   exact h1.2.2 y hy x e
  ·exact h.ab y hy x e
 have bx : ∀ y ∈ b.take j, y < x := fun y hy => by
  rcases hxin with e | e
  ·exact h.ba y hy x e
  ·have h1 := hrb
   rw [← List.take_append_drop j b, List.pairwise_append] at h1
   exact h1.2.2 y hy x e
 have ax' : ∀ y ∈ a.take i', y ≤ x := fun y hy => by
  rcases a3 y hy with e | e
  ·have := ax y e; omega
  ·omega
 have bx' : ∀ y ∈ b.take j', y ≤ x := fun y hy => by
  rcases b3 y hy with e | e
  ·have := bx y e; omega
  ·omega
 have tx' : ∀ y ∈ (if f (odd i') (odd j') = v then t else t ++ [x]), y ≤ x := fun y hy => by
  split at hy
  ·have := tx y hy; omega
  ·rcases List.mem_append.1 hy with e | e
   ·have := tx y e; omega
   ·simp at e; omega
 have hlen : odd (if f (odd i') (odd j') = v then t else t ++ [x]).length = f (odd i') (odd j') := by
  by_cases e : f (odd i') (odd j') = v
  ·rw [if_pos e, h.len, e]
  ·rw [if_neg e, List.length_append]
   show odd (t.length + 1) = _
   rw [odd_succ, h.len]
   revert e
   cases v <;> cases f (odd i') (odd j') <;> simp
 refine ⟨a1, b1, fun y hy z hz => ?_, fun y hy z hz => ?_, fun y hy z hz => ?_, fun y hy z hz => ?_, ?_, rfl, hlen, ?_, fun m => ?_⟩
 ·have := tx' y hy; have := a2 z hz; omega
 ·have := tx' y hy; have := b2 z hz; omega
 ·have := ax' y hy; have := b2 z hz; omega
 ·have := bx' y hy; have := a2 z hz; omega
 ·split
  ·exact h.rise
  ·exact qdh h.rise tx
 ·have h1 := h.le
  have h2 : i + j + 1 ≤ i' + j' := by omega
  split
  ·omega
  ·simp only [List.length_append, List.length_cons, List.length_nil]; omega
 ·rcases Int.lt_or_le m x with hm | hm
  ·rw [a5 m hm, b5 m hm, ← h.mem m]
   congr 1
   split
   ·rfl
   ·rw [q8m, q22, if_neg (by omega), q7d]; rfl
  ·rw [qel (fun y hy => Int.le_trans (ax' y hy) hm), qel (fun y hy => Int.le_trans (bx' y hy) hm), qel (fun y hy => Int.le_trans (tx' y hy) hm), a6, b6, hlen]
theorem CbI.done {a b : List Int} {f : Bool → Bool → Bool} {v : Bool} {t : List Int} (h : CbI a b f a.length b.length v t) (hf : f false false = false) {p q : Int → Prop} (ha : Turns p a) (hb : Turns q b) (r : Int → Prop)
 (hr : ∀ m, r m ↔ f (odd (cnt a m)) (odd (cnt b m)) = true) : Turns r t := by
 refine ⟨h.rise, ?_, fun m => ?_⟩
 ·have h1 := h.val
  have e1 : odd a.length = false := by have := ha.even; simp [odd]; omega
  have e2 : odd b.length = false := by have := hb.even; simp [odd]; omega
  rw [e1, e2, hf] at h1
  have := h.len
  rw [h1] at this
  simp [odd] at this
  omega
 ·rw [hr, ← zjy, h.mem m, List.take_length, List.take_length]

def qwz : List SOp := [⟨some 6,.assign (.const (.slice none 0 0)),none⟩]
instance : Live qwz := ⟨[0,1,2]⟩
def qwy : List SOp := [⟨some 7,.assign (.const (.slice none 0 0)),none⟩]
instance : Live qwy := ⟨[0,1,2]⟩
def qwx : List SOp := [⟨some 8,.assign (.const (.int .i64 0)),none⟩,⟨some 9,.assign (.const (.int .i64 0)),none⟩]
instance : Live qwx := ⟨[0,1,2,7]⟩
def qww : List SOp := [⟨some 10,.assign (.const (.bool false)),none⟩]
instance : Live qww := ⟨[0,1,2,7,8,9]⟩
def qh4 : List SOp := [⟨some 15,.move (.tmp 8),none⟩,⟨some 16,.move (.tmp 0),none⟩,⟨some 17,.call ⟨.builtin .len,#[.tmp 16],#[23]⟩,none⟩,⟨some 18,.binOp .lss 3 (.tmp 15) (.tmp 17) 3,none⟩,⟨some 19,.move (.tmp 18),none⟩,⟨some 20,.move (.tmp 9),some ((some 19),false)⟩,⟨some 21,.move (.tmp 1),some ((some 19),false)⟩,⟨some 22,.call ⟨.builtin .len,#[.tmp 21],#[23]⟩,some ((some 19),false)⟩,⟨some 23,.binOp .lss 3 (.tmp 20) (.tmp 22) 3,some ((some 19),false)⟩,⟨some 24,.pick (.tmp 19) (.const (.bool true)) (.tmp 23),none⟩]
instance : Live qh4 := ⟨[0,1,2,7,8,9,10]⟩
def qh3 : List SOp := [⟨some 11,.assign (.const (.int .i64 0)),none⟩]
instance : Live qh3 := ⟨[0,1,2,7,8,9,10]⟩
def qh2 : List SOp := [⟨some 25,.move (.tmp 9),none⟩,⟨some 26,.move (.tmp 1),none⟩,⟨some 27,.call ⟨.builtin .len,#[.tmp 26],#[23]⟩,none⟩,⟨some 28,.binOp .eql 3 (.tmp 25) (.tmp 27) 3,none⟩,⟨some 29,.move (.tmp 28),none⟩,⟨some 30,.move (.tmp 8),some ((some 29),false)⟩,⟨some 31,.move (.tmp 0),some ((some 29),false)⟩,⟨some 32,.call ⟨.builtin .len,#[.tmp 31],#[23]⟩,some ((some 29),false)⟩,⟨some 33,.binOp .lss 3 (.tmp 30) (.tmp 32) 3,some ((some 29),false)⟩,⟨some 34,.move (.tmp 33),some ((some 29),false)⟩,⟨some 35,.move (.tmp 0),some ((some 34),true)⟩,⟨some 36,.move (.tmp 8),some ((some 34),true)⟩,⟨some 37,.indexAddr 23 (.tmp 35) (.tmp 36),some ((some 34),true)⟩,⟨some 38,.load 3 (.tmp 37),some ((some 34),true)⟩,⟨some 39,.move (.tmp 1),some ((some 34),true)⟩,⟨some 40,.move (.tmp 9),some ((some 34),true)⟩,⟨some 41,.indexAddr 23 (.tmp 39) (.tmp 40),some ((some 34),true)⟩,⟨some 42,.load 3 (.tmp 41),some ((some 34),true)⟩,⟨some 43,.binOp .lss 3 (.tmp 38) (.tmp 42) 3,some ((some 34),true)⟩,⟨some 44,.pick (.tmp 34) (.tmp 43) (.const (.bool false)),some ((some 29),false)⟩,⟨some 45,.pick (.tmp 29) (.const (.bool true)) (.tmp 44),none⟩]
instance : Live qh2 := ⟨[0,1,2,7,8,9,10]⟩
def qh1 : List SOp := [⟨some 46,.move (.tmp 0),none⟩,⟨some 47,.move (.tmp 8),none⟩,⟨some 48,.indexAddr 23 (.tmp 46) (.tmp 47),none⟩,⟨some 49,.load 3 (.tmp 48),none⟩,⟨some 11,.assign (.tmp 49),none⟩]
instance : Live qh1 := ⟨[0,1,2,7,8,9,10]⟩
def qh0 : List SOp := [⟨some 50,.move (.tmp 1),none⟩,⟨some 51,.move (.tmp 9),none⟩,⟨some 52,.indexAddr 23 (.tmp 50) (.tmp 51),none⟩,⟨some 53,.load 3 (.tmp 52),none⟩,⟨some 11,.assign (.tmp 53),none⟩]
instance : Live qh0 := ⟨[0,1,2,7,8,9,10]⟩
def qdb : List SOp := [⟨some 54,.move (.tmp 8),none⟩,⟨some 55,.move (.tmp 0),none⟩,⟨some 56,.call ⟨.builtin .len,#[.tmp 55],#[23]⟩,none⟩,⟨some 57,.binOp .lss 3 (.tmp 54) (.tmp 56) 3,none⟩,⟨some 58,.move (.tmp 57),none⟩,⟨some 59,.move (.tmp 0),some ((some 58),true)⟩,⟨some 60,.move (.tmp 8),some ((some 58),true)⟩,⟨some 61,.indexAddr 23 (.tmp 59) (.tmp 60),some ((some 58),true)⟩,⟨some 62,.load 3 (.tmp 61),some ((some 58),true)⟩,⟨some 63,.move (.tmp 11),some ((some 58),true)⟩,⟨some 64,.binOp .eql 3 (.tmp 62) (.tmp 63) 3,some ((some 58),true)⟩,⟨some 65,.pick (.tmp 58) (.tmp 64) (.const (.bool false)),none⟩]
instance : Live qdb := ⟨[0,1,2,7,8,9,10,11]⟩
def qda : List SOp := [⟨some 66,.move (.tmp 8),none⟩,⟨some 67,.binOp .add 3 (.tmp 66) (.const (.int .i64 1)) 3,none⟩,⟨some 8,.assign (.tmp 67),none⟩]
instance : Live qda := ⟨[0,1,2,7,8,9,10,11]⟩
def qd9 : List SOp := [⟨some 68,.move (.tmp 9),none⟩,⟨some 69,.move (.tmp 1),none⟩,⟨some 70,.call ⟨.builtin .len,#[.tmp 69],#[23]⟩,none⟩,⟨some 71,.binOp .lss 3 (.tmp 68) (.tmp 70) 3,none⟩,⟨some 72,.move (.tmp 71),none⟩,⟨some 73,.move (.tmp 1),some ((some 72),true)⟩,⟨some 74,.move (.tmp 9),some ((some 72),true)⟩,⟨some 75,.indexAddr 23 (.tmp 73) (.tmp 74),some ((some 72),true)⟩,⟨some 76,.load 3 (.tmp 75),some ((some 72),true)⟩,⟨some 77,.move (.tmp 11),some ((some 72),true)⟩,⟨some 78,.binOp .eql 3 (.tmp 76) (.tmp 77) 3,some ((some 72),true)⟩,⟨some 79,.pick (.tmp 72) (.tmp 78) (.const (.bool false)),none⟩]
instance : Live qd9 := ⟨[0,1,2,7,8,9,10,11]⟩
def qd8 : List SOp := [⟨some 80,.move (.tmp 9),none⟩,⟨some 81,.binOp .add 3 (.tmp 80) (.const (.int .i64 1)) 3,none⟩,⟨some 9,.assign (.tmp 81),none⟩]
instance : Live qd8 := ⟨[0,1,2,7,8,9,10,11]⟩
def qd7 : List SOp := [⟨some 82,.move (.tmp 8),none⟩,⟨some 83,.binOp .rem 3 (.tmp 82) (.const (.int .i64 2)) 3,none⟩,⟨some 84,.binOp .eql 3 (.tmp 83) (.const (.int .i64 1)) 3,none⟩,⟨some 85,.move (.tmp 9),none⟩,⟨some 86,.binOp .rem 3 (.tmp 85) (.const (.int .i64 2)) 3,none⟩,⟨some 87,.binOp .eql 3 (.tmp 86) (.const (.int .i64 1)) 3,none⟩,⟨some 12,.assign (.tmp 84),none⟩,⟨some 13,.assign (.tmp 87),none⟩]
instance : Live qd7 := ⟨[0,1,2,7,8,9,10,11]⟩
def qd6 : List SOp := [⟨some 88,.move (.tmp 2),none⟩,⟨some 89,.binOp .eql 3 (.tmp 88) (.const (.int .i64 1)) 3,none⟩,⟨some 90,.move (.tmp 89),none⟩,⟨some 91,.move (.tmp 12),some ((some 90),true)⟩,⟨some 92,.pick (.tmp 90) (.tmp 91) (.const (.bool false)),none⟩,⟨some 93,.move (.tmp 92),none⟩,⟨some 94,.move (.tmp 13),some ((some 93),true)⟩,⟨some 95,.pick (.tmp 93) (.tmp 94) (.const (.bool false)),none⟩,⟨some 96,.move (.tmp 95),none⟩,⟨some 97,.move (.tmp 2),some ((some 96),false)⟩,⟨some 98,.binOp .eql 3 (.tmp 97) (.const (.int .i64 2)) 3,some ((some 96),false)⟩,⟨some 99,.move (.tmp 98),some ((some 96),false)⟩,⟨some 100,.move (.tmp 12),some ((some 99),true)⟩,⟨some 101,.pick (.tmp 99) (.tmp 100) (.const (.bool false)),some ((some 96),false)⟩,⟨some 102,.move (.tmp 101),some ((some 96),false)⟩,⟨some 103,.move (.tmp 13),some ((some 102),true)⟩,⟨some 104,.unOp .not 4 (.tmp 103),some ((some 102),true)⟩,⟨some 105,.pick (.tmp 102) (.tmp 104) (.const (.bool false)),some ((some 96),false)⟩,⟨some 106,.pick (.tmp 96) (.const (.bool true)) (.tmp 105),none⟩,⟨some 14,.assign (.tmp 106),none⟩]
instance : Live qd6 := ⟨[0,1,2,7,8,9,10,11,12,13]⟩
def qd5 : List SOp := [⟨some 107,.move (.tmp 14),none⟩,⟨some 108,.move (.tmp 10),none⟩,⟨some 109,.binOp .neq 4 (.tmp 107) (.tmp 108) 4,none⟩]
instance : Live qd5 := ⟨[0,1,2,7,8,9,10,11,14]⟩
def qd4 : List SOp := [⟨some 110,.move (.tmp 7),none⟩,⟨some 111,.move (.tmp 11),none⟩,⟨some 112,.buildSlice 23 1 #[(0,.tmp 111)],none⟩,⟨some 113,.call ⟨.builtin .append,#[.tmp 110,.tmp 112],#[23,23]⟩,none⟩,⟨some 7,.assign (.tmp 113),none⟩]
instance : Live qd4 := ⟨[0,1,2,7,8,9,11,14]⟩
def qd3 : List SOp := [⟨some 114,.move (.tmp 14),none⟩,⟨some 10,.assign (.tmp 114),none⟩]
instance : Live qd3 := ⟨[0,1,2,7,8,9,14]⟩
def qku : List SOp := [⟨some 115,.move (.tmp 7),none⟩,⟨some 6,.assign (.tmp 115),none⟩]
instance : Live qku := ⟨[7]⟩
def qj3 : SC :=
 (.seq (.seq (.ops false qh4) (.cond (.tmp 24) .skip (.exit 0))) (.block 1 (.seq (.ops false qh3) (.seq (.seq (.ops true qh2) (.cond (.tmp 45) (.ops false qh1) (.ops false qh0))) (.seq (.seq (.ops false qdb) (.cond (.tmp 65) (.ops false qda) .skip)) (.seq (.seq (.ops false qd9) (.cond (.tmp 79) (.ops false qd8) .skip)) (.seq (.ops false qd7) (.seq (.ops false qd6) (.seq (.ops false qd5) (.cond (.tmp 109) (.seq (.ops false qd4) (.ops false qd3)) .skip))))))))))
def t_k166 : SC :=
 (.seq (.ops false qwz) (.seq (.ops false qwy) (.seq (.ops false qwx) (.seq (.ops false qww) (.seq (.block 0 (.loop qj3)) (.seq (.ops false qku) .ret))))))
theorem it_k166 : FnIs Tryz.prog 166 116 [.tmp 6] t_k166 := ⟨Tryz.f166, _, Tryz.func166, rfl, rfl, rfl, rfl, by kernel_rfl⟩

def qfl : SC := (.seq (.seq (.ops false qd9) (.cond (.tmp 79) (.ops false qd8) .skip)) (.seq (.ops false qd7) (.seq (.ops false qd6) (.seq (.ops false qd5) (.cond (.tmp 109) (.seq (.ops false qd4) (.ops false qd3)) .skip)))))
def qfk : SC := (.seq (.seq (.ops false qdb) (.cond (.tmp 65) (.ops false qda) .skip)) qfl)
def qfj : SC := (.seq (.seq (.ops true qh2) (.cond (.tmp 45) (.ops false qh1) (.ops false qh0))) qfk)
def qpy : SC := (.seq (.seq (.ops false qh4) (.cond (.tmp 24) .skip (.exit 0))) (.block 1 (.seq (.ops false qh3) qfj)))
theorem qrq : qj3 = qpy := rfl

structure CbS where
 i : Nat
 j : Nat
 v : Bool
 t : List Int
theorem qsd (i : Nat) : ((i : Int)).tmod 2 = ((i % 2 : Nat) : Int) := by rw [Int.ofNat_tmod]; rfl
theorem zjz (i : Nat) : decide (((i % 2 : Nat) : Int) = 1) = odd i := by
 unfold odd
 rw [decide_eq_decide]
 omega
theorem zks {l : List Int} {i : Nat} (h : i < l.length) : l[i]? = some (l.getD i 0) := by simp [h]
theorem qg6 {l : List Int} (hr : l.Pairwise (fun x y => x < y)) {i : Nat} {x : Int} (h : i < l.length → x < l.getD i 0) : ∀ y ∈ l.drop i, x < y := by
 intro y hy
 rcases Nat.lt_or_ge i l.length with hi | hi
 ·rw [List.drop_eq_getElem_cons hi] at hy
  have hp := hr.drop (i := i)
  rw [List.drop_eq_getElem_cons hi] at hp
  have e : l.getD i 0 = l[i] := by simp [hi]
  have h1 := h hi
  rw [e] at h1
  rcases List.mem_cons.1 hy with rfl | hy
  ·exact h1
  ·have := (List.pairwise_cons.1 hp).1 y hy
   omega
 ·rw [List.drop_eq_nil_of_le hi] at hy
  cases hy
theorem ev_k166 {a b t : List Int} {p q r : Int → Prop} (ha : Turns p a) (hb : Turns q b) (ht : Turns r t) (hla : a.length ≤ 400000000) (hlb : b.length ≤ 400000000) (rule : Int) (f : Bool → Bool → Bool)
 (hrf : (rule = 1 ∧ f = fun x y => x && y) ∨ (rule = 2 ∧ f = fun x y => x && !y)) (hr : ∀ m, r m ↔ f (odd (cnt a m)) (odd (cnt b m)) = true) :
 Ev (En Tryz.prog rfl).P 166 [.sl 1 (q05 a), .sl 1 (q05 b), .int .i64 rule] (.ret (.sl 1 (q05 t))) := by
 refine Ev.of_body it_k166 (by simp) (Run.start ?_)
 unfold t_k166
 have e1 := q0g a
 have e2 := q0g b
 have hf : f false false = false := by rcases hrf with ⟨_, rfl⟩ | ⟨_, rfl⟩ <;> rfl
 (have hF := (aI @e1 @e2); refine q01 (k:=?_); clear hF)
 refine Run.wk (Wk.own_nil 7 113 1 rfl rfl) ?_
 refine Run.while (σ := CbS) (fun z => ⟨tms [(0, .sl 1 (q05 a)), (1, .sl 1 (q05 b)), (2, .int .i64 rule), (7, .os 113 z.t.length), (8, .int .i64 (z.i : Int)), (9, .int .i64 (z.j : Int)), (10, .bool z.v)], mms [(113, .arr z.t.length 1 (q05 z.t))]⟩)
  (fun z => CbI a b f z.i z.j z.v z.t) (fun z => (a.length - z.i) + (b.length - z.j)) ⟨0, 0, false, []⟩ (have hW := @q03; q0f) (CbI.start hf) ?_
 rintro ⟨i, j, v, u⟩ h
 dsimp only at h ⊢
 have hi := h.hi
 have hj := h.hj
 have hle := h.le
 have e3 := q0g u
 rw [qrq]
 unfold qpy
 refine Run.mid (σ := Unit) (fun _ => ⟨tms [(0, .sl 1 (q05 a)), (1, .sl 1 (q05 b)), (2, .int .i64 rule), (7, .os 113 u.length), (8, .int .i64 (i : Int)), (9, .int .i64 (j : Int)), (10, .bool v)], mms [(113, .arr u.length 1 (q05 u))]⟩) (fun _ => i < a.length ∨ j < b.length) ?_ ?_
 ·(focus (have hF := (aI @e1 (aI @e2 @e3)); (repeat' (first | refine go1 (k:=?_) | with_reducible refine Ny.of ?_ ?_ | (refine Hyp.of ?_; intro hc; (try simp only [hc]); (try simp only [Bh] at hc)))); all_goals clear hF))
  ·(refine Fin.nextW (()) ?_ (have hW := True.intro; q0f); (try dsimp only))
   exact .inl (by omega)
  ·(refine Fin.nextW (()) ?_ (have hW := True.intro; q0f); (try dsimp only))
   exact .inr (by omega)
  ·rw [show i = a.length by omega, show j = b.length by omega] at h
   rw [← (h.done hf ha hb r hr).uniq ht]
   exact qgr (.sl 1 (q05 u))
 intro _ hin
 (have hF := (aI @e1 (aI @e2 @e3)); refine q01 (k:=?_); clear hF)
 unfold qfj
 refine Run.mid (σ := Int) (fun x => ⟨tms [(0, .sl 1 (q05 a)), (1, .sl 1 (q05 b)), (2, .int .i64 rule), (7, .os 113 u.length), (8, .int .i64 (i : Int)), (9, .int .i64 (j : Int)), (10, .bool v), (11, .int .i64 x)], mms [(113, .arr u.length 1 (q05 u))]⟩)
  (fun x => (i < a.length → x ≤ a.getD i 0) ∧ (j < b.length → x ≤ b.getD j 0) ∧ ((i < a.length ∧ a.getD i 0 = x) ∨ (j < b.length ∧ b.getD j 0 = x))) ?_ ?_
 ·(focus (have hF := (aI (aI @e1 @e2) (aI @e3 @qag)); (repeat' (first | refine go1 (k:=?_) | with_reducible refine Ny.of ?_ ?_ | (refine Hyp.of ?_; intro hc; (try simp only [hc]); (try simp only [Bh] at hc)))); all_goals clear hF))
  all_goals first
   | ((refine Fin.nextW (a.getD i 0) ?_ (have hW := True.intro; q0f); (try dsimp only))
      exact ⟨fun _ => Int.le_refl _, fun _ => by omega, .inl ⟨by omega, rfl⟩⟩)
   | ((refine Fin.nextW (b.getD j 0) ?_ (have hW := True.intro; q0f); (try dsimp only))
      exact ⟨fun _ => by omega, fun _ => Int.le_refl _, .inr ⟨by omega, rfl⟩⟩)
 rintro x ⟨x1, x2, x3⟩
 unfold qfk
 refine Run.mid (σ := Nat) (fun i' => ⟨tms [(0, .sl 1 (q05 a)), (1, .sl 1 (q05 b)), (2, .int .i64 rule), (7, .os 113 u.length), (8, .int .i64 (i' : Int)), (9, .int .i64 (j : Int)), (10, .bool v), (11, .int .i64 x)], mms [(113, .arr u.length 1 (q05 u))]⟩)
  (fun i' => (i' = i + 1 ∧ i < a.length ∧ a.getD i 0 = x) ∨ (i' = i ∧ (i < a.length → x < a.getD i 0))) ?_ ?_
 ·(focus (have hF := (aI (aI @e1 @e2) (aI @e3 @qag)); (repeat' (first | refine go1 (k:=?_) | with_reducible refine Ny.of ?_ ?_ | (refine Hyp.of ?_; intro hc; (try simp only [hc]); (try simp only [Bh] at hc)))); all_goals clear hF))
  all_goals first
   | ((refine Fin.nextW (i + 1) ?_ (have hW := True.intro; q0f); (try dsimp only))
      exact .inl ⟨rfl, by omega, by omega⟩)
   | ((refine Fin.nextW (i) ?_ (have hW := True.intro; q0f); (try dsimp only))
      exact .inr ⟨rfl, fun h => by have := x1 h; omega⟩)
 intro i' hi'
 unfold qfl
 refine Run.mid (σ := Nat) (fun j' => ⟨tms [(0, .sl 1 (q05 a)), (1, .sl 1 (q05 b)), (2, .int .i64 rule), (7, .os 113 u.length), (8, .int .i64 (i' : Int)), (9, .int .i64 (j' : Int)), (10, .bool v), (11, .int .i64 x)], mms [(113, .arr u.length 1 (q05 u))]⟩)
  (fun j' => (j' = j + 1 ∧ j < b.length ∧ b.getD j 0 = x) ∨ (j' = j ∧ (j < b.length → x < b.getD j 0))) ?_ ?_
 ·(focus (have hF := (aI (aI @e1 @e2) (aI @e3 @qag)); (repeat' (first | refine go1 (k:=?_) | with_reducible refine Ny.of ?_ ?_ | (refine Hyp.of ?_; intro hc; (try simp only [hc]); (try simp only [Bh] at hc)))); all_goals clear hF))
  all_goals first
   | ((refine Fin.nextW (j + 1) ?_ (have hW := True.intro; q0f); (try dsimp only))
      exact .inl ⟨rfl, by omega, by omega⟩)
   | ((refine Fin.nextW (j) ?_ (have hW := True.intro; q0f); (try dsimp only))
      exact .inr ⟨rfl, fun h => by have := x2 h; omega⟩)
 intro j' hj'
 have st := h.step ha.rise hb.rise (x := x) (i' := i') (j' := j') (hi'.imp (fun q => ⟨q.1, by rw [zks q.2.1, q.2.2]⟩) (fun q => ⟨q.1, qg6 ha.rise q.2⟩)) (hj'.imp (fun q => ⟨q.1, by rw [zks q.2.1, q.2.2]⟩) (fun q => ⟨q.1, qg6 hb.rise q.2⟩)) (by
  rcases x3 with q | q
  ·rcases hi' with w | w
   ·exact .inl w.1
   ·have := w.2 q.1; omega
  ·rcases hj' with w | w
   ·exact .inr w.1
   ·have := w.2 q.1; omega)
 have st1 := st.hi
 have st2 := st.hj
 have st3 : (a.length - i') + (b.length - j') < (a.length - i) + (b.length - j) := by omega
 have hub : u.length ≤ 800000000 := by omega
 have m1 := qsd i'
 have m2 := qsd j'
 have m3 := zjz i'
 have m4 := zjz j'
 have hlu : (u ++ [x]).length = u.length + 1 := by simp
 clear hi' hj' x1 x2 x3 hi hj
 generalize odd i' = o1 at st m3
 generalize odd j' = o2 at st m4
 rcases hrf with ⟨rfl, rfl⟩ | ⟨rfl, rfl⟩ <;> cases o1 <;> cases o2 <;> cases v <;> simp only [Bool.and_true, Bool.and_false, Bool.true_and, Bool.false_and, Bool.not_true, Bool.not_false, if_true, reduceCtorEq, if_false] at st
 all_goals
  (have hF := (aI (aI (aI @e1 @e2) (aI @e3 @m1)) (aI (aI @m2 @m3) (aI @m4 @q3w))); refine q01 (k:=?_); clear hF)
  first
   | (have st' : CbI a b _ i' j' true u := st
      (refine Fin.nextW (⟨i', j', true, u⟩) ?_ (have hW := @q03; q0f); (try dsimp only))
      exact ⟨st', st3⟩)
   | (have st' : CbI a b _ i' j' false u := st
      (refine Fin.nextW (⟨i', j', false, u⟩) ?_ (have hW := @q03; q0f); (try dsimp only))
      exact ⟨st', st3⟩)
   | (have st' : CbI a b _ i' j' true (u ++ [x]) := st
      (refine Fin.nextW (⟨i', j', true, u ++ [x]⟩) ?_ (have hW := (aI @q03 @hlu); q0f); (try dsimp only))
      exact ⟨st', st3⟩)
   | (have st' : CbI a b _ i' j' false (u ++ [x]) := st
      (refine Fin.nextW (⟨i', j', false, u ++ [x]⟩) ?_ (have hW := (aI @q03 @hlu); q0f); (try dsimp only))
      exact ⟨st', st3⟩)

def z2r : List SOp := [⟨some 1,.box 168 (.tmp 0),none⟩,⟨some 2,.alloc 26,none⟩]
instance : Live z2r := ⟨[0]⟩
def z2q : List SOp := [⟨some 3,.alloc 26,none⟩]
instance : Live z2q := ⟨[1,2]⟩
def z2p : List SOp := [⟨some 8,.makeSlice 23 (.const (.int .i64 16)) (.const (.int .i64 16)),none⟩,⟨some 4,.assign (.tmp 8),none⟩]
instance : Live z2p := ⟨[1,2,3]⟩
def z2o : List SOp := [⟨some 5,.assign (.const (.int .i64 0)),none⟩]
instance : Live z2o := ⟨[1,2,3,4]⟩
def z2n : List SOp := [⟨some 6,.assign (.const (.int .i64 0)),none⟩]
instance : Live z2n := ⟨[1,2,3,4,5]⟩
def z2m : List SOp := [⟨some 9,.move (.tmp 6),none⟩,⟨some 10,.binOp .lss 3 (.tmp 9) (.const (.int .i64 16)) 3,none⟩]
instance : Live z2m := ⟨[1,2,3,4,5,6]⟩
def z2l : List SOp := [⟨some 7,.assign (.const (.int .i64 0)),none⟩]
instance : Live z2l := ⟨[1,2,3,4,5,6]⟩
def z2k : List SOp := [⟨some 13,.move (.tmp 7),none⟩,⟨some 14,.binOp .add 3 (.tmp 13) (.const (.int .i64 1)) 3,none⟩,⟨some 15,.move (.tmp 6),none⟩,⟨some 16,.fieldAddr 168 (.tmp 1) 0,none⟩,⟨some 17,.indexAddr 166 (.tmp 16) (.tmp 15),none⟩,⟨some 18,.load 23 (.tmp 17),none⟩,⟨some 19,.call ⟨.builtin .len,#[.tmp 18],#[23]⟩,none⟩,⟨some 20,.binOp .lss 3 (.tmp 14) (.tmp 19) 3,none⟩]
instance : Live z2k := ⟨[1,2,3,4,5,6,7]⟩
def z2j : List SOp := [⟨some 23,.move (.tmp 6),none⟩,⟨some 24,.fieldAddr 168 (.tmp 1) 0,none⟩,⟨some 25,.indexAddr 166 (.tmp 24) (.tmp 23),none⟩,⟨some 26,.load 23 (.tmp 25),none⟩,⟨some 27,.move (.tmp 7),none⟩,⟨some 28,.indexAddr 23 (.tmp 26) (.tmp 27),none⟩,⟨some 29,.load 3 (.tmp 28),none⟩,⟨some 30,.binOp .eql 3 (.tmp 29) (.const (.int .i64 1)) 3,none⟩]
instance : Live z2j := ⟨[1,2,3,4,5,6,7]⟩
def qna : List SOp := [⟨some 31,.move (.tmp 4),none⟩,⟨some 32,.move (.tmp 6),none⟩,⟨some 33,.move (.tmp 6),none⟩,⟨some 34,.fieldAddr 168 (.tmp 1) 0,none⟩,⟨some 35,.indexAddr 166 (.tmp 34) (.tmp 33),none⟩,⟨some 36,.load 23 (.tmp 35),none⟩,⟨some 37,.move (.tmp 7),none⟩,⟨some 38,.binOp .add 3 (.tmp 37) (.const (.int .i64 1)) 3,none⟩,⟨some 39,.indexAddr 23 (.tmp 36) (.tmp 38),none⟩,⟨some 40,.load 3 (.tmp 39),none⟩,⟨some 41,.binOp .sub 3 (.tmp 40) (.const (.int .i64 1)) 3,none⟩,⟨some 42,.indexAddr 23 (.tmp 31) (.tmp 32),none⟩,⟨none,.store 3 (.tmp 42) (.tmp 41),none⟩]
instance : Live qna := ⟨[1,2,3,4,6,7]⟩
def qn9 : List SOp := [⟨some 43,.move (.tmp 6),none⟩,⟨some 44,.binOp .add 3 (.tmp 43) (.const (.int .i64 1)) 3,none⟩,⟨some 5,.assign (.tmp 44),none⟩]
instance : Live qn9 := ⟨[1,2,3,4,6,7]⟩
def qde : List SOp := [⟨some 45,.fieldAddr 26 (.tmp 3) 1,none⟩,⟨some 46,.load 24 (.tmp 45),none⟩,⟨some 47,.move (.tmp 6),none⟩,⟨some 48,.move (.tmp 6),none⟩,⟨some 49,.fieldAddr 168 (.tmp 1) 0,none⟩,⟨some 50,.indexAddr 166 (.tmp 49) (.tmp 48),none⟩,⟨some 51,.load 23 (.tmp 50),none⟩,⟨some 52,.move (.tmp 7),none⟩,⟨some 53,.indexAddr 23 (.tmp 51) (.tmp 52),none⟩,⟨some 54,.load 3 (.tmp 53),none⟩,⟨some 55,.move (.tmp 6),none⟩,⟨some 56,.fieldAddr 168 (.tmp 1) 0,none⟩,⟨some 57,.indexAddr 166 (.tmp 56) (.tmp 55),none⟩,⟨some 58,.load 23 (.tmp 57),none⟩,⟨some 59,.move (.tmp 7),none⟩,⟨some 60,.binOp .add 3 (.tmp 59) (.const (.int .i64 1)) 3,none⟩,⟨some 61,.indexAddr 23 (.tmp 58) (.tmp 60),none⟩,⟨some 62,.load 3 (.tmp 61),none⟩,⟨some 63,.binOp .sub 3 (.tmp 62) (.const (.int .i64 1)) 3,none⟩,⟨some 64,.build 127 #[(0,.tmp 47),(1,.tmp 54),(2,.tmp 63)],none⟩,⟨some 65,.buildSlice 24 1 #[(0,.tmp 64)],none⟩,⟨some 66,.call ⟨.builtin .append,#[.tmp 46,.tmp 65],#[24,24]⟩,none⟩,⟨some 67,.fieldAddr 26 (.tmp 3) 1,none⟩,⟨none,.store 24 (.tmp 67) (.tmp 66),none⟩]
instance : Live qde := ⟨[1,2,3,4,5,6,7]⟩
instance : Rd qde := ⟨fun j => j == 1⟩
def qn8 : List SOp := [⟨some 21,.move (.tmp 7),none⟩,⟨some 22,.binOp .add 3 (.tmp 21) (.const (.int .i64 2)) 3,none⟩,⟨some 7,.assign (.tmp 22),none⟩]
instance : Live qn8 := ⟨[1,2,3,4,5,6,7]⟩
def qn7 : List SOp := [⟨some 11,.move (.tmp 6),none⟩,⟨some 12,.binOp .add 3 (.tmp 11) (.const (.int .i64 1)) 3,none⟩,⟨some 6,.assign (.tmp 12),none⟩]
instance : Live qn7 := ⟨[1,2,3,4,5,6]⟩
def qn6 : List SOp := [⟨some 68,.move (.tmp 4),none⟩,⟨some 69,.move (.tmp 5),none⟩,⟨some 70,.slice 23 (.tmp 68) none (some (.tmp 69)) none,none⟩,⟨some 71,.fieldAddr 26 (.tmp 3) 0,none⟩,⟨none,.store 23 (.tmp 71) (.tmp 70),none⟩]
instance : Live qn6 := ⟨[2,3,4,5]⟩
def qn5 : List SOp := [⟨some 72,.load 26 (.tmp 3),none⟩,⟨none,.store 26 (.tmp 2) (.tmp 72),none⟩]
instance : Live qn5 := ⟨[2,3]⟩
def qjm : SC :=
 (.seq (.seq (.ops false z2k) (.cond (.tmp 20) .skip (.exit 2))) (.seq (.block 3 (.seq (.ops false z2j) (.cond (.tmp 30) (.seq (.ops false qna) (.ops false qn9)) (.opsW [46] qde)))) (.ops false qn8)))
def qjn : SC :=
 (.seq (.seq (.ops false z2m) (.cond (.tmp 10) .skip (.exit 0))) (.seq (.block 1 (.seq (.ops false z2l) (.block 2 (.loop qjm)))) (.ops false qn7)))
def t_k128 : SC :=
 (.seq (.ops false z2r) (.seq (.ops false z2q) (.seq (.ops false z2p) (.seq (.ops false z2o) (.seq (.seq (.ops false z2n) (.block 0 (.loop qjn))) (.seq (.ops false qn6) (.seq (.ops false qn5) .ret)))))))
theorem it_k128 : FnIs Tryz.prog 128 73 [.cell 2 26] t_k128 := ⟨Tryz.f128, _, Tryz.func128, rfl, rfl, rfl, rfl, by kernel_rfl⟩

def qqa (t : Tab) (r c : Nat) : List Sn := q1v t r ++ ((q1q ((q10 (t.getD r [])).take c)).2).map (q9r r)
theorem zba (t : Tab) (r : Nat) : qqa t r 0 = q1v t r := by simp [qqa, q1q]
theorem rowF_all (t : Tab) (r : Nat) : qqa t r (q10 (t.getD r [])).length = q1v t (r + 1) := by
 unfold qqa
 rw [q7e, List.take_length]
 rfl
theorem z8f {t : Tab} {r : Nat} {x : Rn} (hx : (q10 (t.getD r []))[0]? = some x) (h : x.1 = 1) : qqa t r 1 = qqa t r 0 := by
 unfold qqa
 rw [List.take_add_one, hx]
 simp [q1q, h]
theorem zbb {t : Tab} {r c : Nat} {x : Rn} (hx : (q10 (t.getD r []))[c]? = some x) (h : x.1 ≠ 1) : qqa t r (c + 1) = qqa t r c ++ [((r : Int), x.1, x.2)] := by
 unfold qqa
 rw [List.take_add_one, hx, List.append_assoc]
 congr 1
 cases c with
 | zero => simp [q1q, h, q9r]
 | succ c =>
  cases hm : q10 (t.getD r []) with
  | nil => rw [hm] at hx; simp at hx
  | cons y l =>
   rw [hm] at hx
   simp only [List.take_succ_cons, List.cons_append, q1q]
   simp only [Option.toList]
   split <;> simp [q9r]
theorem rowF_len (t : Tab) (r c : Nat) : (qqa t r c).length ≤ (q1v t r).length + (q10 (t.getD r [])).length := by
 have h1 := qb0 ((q10 (t.getD r [])).take c)
 unfold qqa
 rw [List.length_append, List.length_map]
 rw [List.length_take] at h1
 omega
theorem qs9 {m : List Rn} {c : Nat} {x : Rn} (h : m[c]? = some x) : (q3z m)[2 * c]? = some x.1 ∧ (q3z m)[2 * c + 1]? = some (x.2 + 1) := by
 induction m generalizing c with
 | nil => simp at h
 | cons y m ih =>
  rw [q56]
  cases c with
  | zero => simp at h; subst h; exact ⟨rfl, rfl⟩
  | succ c =>
   have := ih (c := c) (by simpa using h)
   exact ⟨by simpa [Nat.mul_add] using this.1, by simpa [Nat.mul_add] using this.2⟩
theorem zmg {m : List Rn} (h : Can m) {c : Nat} {x : Rn} (hx : m[c + 1]? = some x) : x.1 ≠ 1 := by
 cases m with
 | nil => simp at hx
 | cons y m =>
  have hy := (Can.cons_iff.1 h)
  have hm : x ∈ m := List.mem_of_getElem? (by simpa using hx)
  have h1 := hy.2.1 x hm
  have h2 := hy.1
  unfold sepR at h1
  unfold okR at h2
  omega
theorem zal {t : Tab} {r : Nat} (hr : r < 16) (h : q9e t r = 0) : qbh t (r + 1) = qbh t r := by
 unfold qbh
 rw [qdx, h, List.append_assoc, show 16 - r = (16 - (r + 1)) + 1 by omega, List.replicate_succ]
 rfl
def szF (t : Tab) (r : Nat) : Nat → Nat
 | 0 => q32 t r
 | _ + 1 => q32 t (r + 1)
def vcF (t : Tab) (r : Nat) : Nat → List Int
 | 0 => qbh t r
 | _ + 1 => qbh t (r + 1)
theorem zlj (t : Tab) {n : Nat} (ht : TabLe t n) (hn : n ≤ 50000000) : Ev (En Tryz.prog rfl).P 128 [.agg (q0i (t.map q0q))] (.ret (q0h (q6d t))) := by
 refine Ev.of_body it_k128 (by simp) (Run.start ?_)
 unfold t_k128
 have h16 : (q0i (t.map q0q)).length = 16 := by simp [q0i, ht.1]
 have hone := q4g (t.map q0q)
 have hst := q2n (t.map q0q)
 (have hF := (aI @h16 @hone); refine q01 (k:=?_); clear hF)
 refine Run.wk (Wk.own_cells (k := 3) (cs' := [.nil, .own 3 []]) rfl rfl ?_) ?_
 ·intro i x y hx hy
  match i with
  | 0 => simp at hx hy; subst hx; subst hy; exact .inl rfl
  | 1 => simp at hx hy; subst hx; subst hy; exact .inr ⟨rfl, 3, rfl⟩
  | i + 2 => simp at hx
 refine Run.while (σ := Nat) (fun r => ⟨tms [(1, .ptr 1 0), (2, .ptr 2 0), (3, .ptr 3 0), (4, .os 8 0), (5, .int .i64 (q32 t r)), (6, .int .i64 r)], mms [(1, .cells (q0i (t.map q0q))), (2, .cells [.nil, .nil]), (3, .cells [.nil, .own 3 (q0c (q1v t r))]), (8, .arr 0 1 (q05 (qbh t r)))]⟩)
  (fun r => r ≤ 16) (fun r => 16 - r) 0 (have hW := @hst; q0f) (Nat.zero_le _) ?_
 intro r hr
 have g0 : (q05 (qbh t r)).length = 16 := by rw [q0g, qc0 t hr]
 have hsz := q9t t r
 unfold qjn
 by_cases hlt : r < 16
 ·have hrt : r < t.length := by rw [ht.1]; exact hlt
  have hq := ht.2 r
  have g1 : (q0i (t.map q0q))[r]? = some (.sl 1 (q05 (q3z (q10 (t.getD r []))))) := by
   rw [q8j (by rw [List.length_map]; exact hrt)]
   simp [List.getD_eq_getElem?_getD, hrt, q0q]
  have hml := q20 (t.getD r [])
  have hcan := q1e (t.getD r [])
  have hcl := qb9 ht r
  have hcl2 : r * n ≤ 16 * n := Nat.mul_le_mul_right n hr
  have f1 := zba t r
  have f2 := rowF_all t r
  have f3 := fun c x => @zbb t r c x
  have f4 := fun x => @z8f t r x
  have f5 := rowF_len t r
  have hlead : q9e t r = (q1q (q10 (t.getD r []))).1 := rfl
  have hs1 := q8c t r
  have hv1 := qs7 t hlt
  have hv2 := qs8 t hlt
  have hl0 := qfr hcan
  generalize hmr : q10 (t.getD r []) = m at g1 hml hcan f2 f3 f4 f5 hlead hl0
  have g2 : (q05 (q3z m)).length = 2 * m.length := by rw [q0g, qar]
  have hz0 : (q1q m).1 = 0 → q32 t (r + 1) = q32 t r ∧ qbh t (r + 1) = qbh t r := fun h => ⟨by rw [hs1, hlead, h]; rfl, zal hlt (by rw [hlead, h])⟩
  (have hF := (aI @h16 (aI @hone @g0)); refine q01 (k:=?_); clear hF)
  refine Run.while (σ := Nat) (fun c => ⟨tms [(1, .ptr 1 0), (2, .ptr 2 0), (3, .ptr 3 0), (4, .os 8 0), (5, .int .i64 (szF t r c)), (6, .int .i64 r), (7, .int .i64 (2 * c : Nat))], mms [(1, .cells (q0i (t.map q0q))), (2, .cells [.nil, .nil]), (3, .cells [.nil, .own 3 (q0c (qqa t r c))]), (8, .arr 0 1 (q05 (vcF t r c)))]⟩)
   (fun c => c ≤ m.length) (fun c => m.length - c) 0 (have hW := (aI @hst @f1); q0f) (Nat.zero_le _) ?_
  intro c hc
  have gv : (q05 (vcF t r c)).length = 16 := by
   rw [q0g]
   cases c with
   | zero => exact qc0 t hr
   | succ c => exact qc0 t hlt
  have hsz2 : szF t r c ≤ r + 1 := by
   cases c with
   | zero => show q32 t r ≤ _; omega
   | succ c => exact q9t t (r + 1)
  unfold qjm
  by_cases hcl3 : c < m.length
  ·obtain ⟨x, hx⟩ : ∃ x, m[c]? = some x := ⟨m[c], by simp [hcl3]⟩
   have ⟨k1, k2⟩ := qs9 hx
   have k1' : (q05 (q3z m))[2 * c]? = some (.int .i64 x.1) := q0y k1
   have k2' : (q05 (q3z m))[2 * c + 1]? = some (.int .i64 (x.2 + 1)) := q0y k2
   have hxr := hcan.2 x (List.mem_of_getElem? hx)
   unfold okR at hxr
   have hfl := f5 c
   have e8 : ((2 * c : Nat) : Int) + 1 = ((2 * c + 1 : Nat) : Int) := by omega
   have e9 : ((2 * c : Nat) : Int) + 2 = ((2 * (c + 1) : Nat) : Int) := by omega
   have e7 : IntKind.i64.wrap (x.2 + 1 - 1) = x.2 := by rw [q2o (by omega)]; omega
   by_cases h1 : x.1 = 1
   ·have hc0 : c = 0 := by
     cases c with
     | zero => rfl
     | succ c => exact absurd h1 (zmg hcan hx)
    have h5 : q9e t r = x.2 := by
     subst hc0
     rw [hlead]
     cases m with
     | nil => simp at hx
     | cons y m => simp at hx; subst hx; rw [qc9 h1]
    have h6 : qqa t r (c + 1) = qqa t r c := by subst hc0; exact f4 x hx h1
    have h8 : szF t r (c + 1) = r + 1 := by show q32 t (r + 1) = r + 1; rw [hs1, if_pos (by omega)]
    rw [h5] at hv1
    have h9 : (q05 (vcF t r c)).set r (.int .i64 x.2) = q05 (vcF t r (c + 1)) := by subst hc0; exact hv1
    have h10 : (q05 (vcF t r c))[r]? = some (.int .i64 0) := by subst hc0; exact hv2
    generalize szF t r c = sz at hsz2 ⊢
    (have hF := (aI (aI (aI @h16 (aI @hone @gv)) (aI @g1 (aI @g2 @k1'))) (aI (aI @k2' (aI @h9 @h10)) (aI (aI @e7 @e8) (aI @e9 @h1)))); refine q01 (k:=?_); clear hF)
    (refine Fin.nextW (c + 1) ?_ (have hW := (aI (aI @hst @h6) (aI @h8 @h9)); q0f); (try dsimp only))
    omega
   ·have h6 := f3 c x hx h1
    have h8 : szF t r (c + 1) = szF t r c ∧ vcF t r (c + 1) = vcF t r c := by
     cases c with
     | zero =>
      refine hz0 ?_
      cases m with
      | nil => simp at hx
      | cons y m => simp at hx; subst hx; rw [qc8 h1]
     | succ c => exact ⟨rfl, rfl⟩
    obtain ⟨h8, h9⟩ := h8
    generalize qqa t r c = cl at h6 hfl ⊢
    have k3 := q1h cl
    (have hF := (aI (aI (aI @h16 (aI @hone @gv)) (aI @g1 (aI @g2 @k1'))) (aI (aI @k2' (aI @e7 @e8)) (aI @e9 (aI @k3 @q8i)))); refine q01 (k:=?_); clear hF)
    ((with_reducible apply toW); refine stW (fun j => j == 1) (k:=?_))
    (have hF := (aI (aI (aI @h16 (aI @hone @gv)) (aI @g1 (aI @g2 @k1'))) (aI (aI @k2' (aI @e7 @e8)) (aI @e9 (aI @k3 @q8i)))); refine q01 (k:=?_); clear hF)
    (refine Fin.nextW (c + 1) ?_ (have hW := (aI (aI @hst @h6) (aI @h8 @h9)); q0f); (try dsimp only))
    omega
  ·have hce : c = m.length := by omega
   subst hce
   rw [f2]
   have h8 : szF t r m.length = q32 t (r + 1) ∧ vcF t r m.length = qbh t (r + 1) := by
    cases m with
    | nil => have := hz0 rfl; exact ⟨this.1.symm, this.2.symm⟩
    | cons y m => exact ⟨rfl, rfl⟩
   rw [h8.1, h8.2] at *
   (have hF := (aI (aI @h16 @hone) (aI @gv (aI @g1 @g2))); refine q01 (k:=?_); clear hF)
   (refine Fin.nextW (r + 1) ?_ (have hW := @hst; q0f); (try dsimp only))
   omega
 ·have hre : r = 16 := by omega
  subst hre
  have hv : qbh t 16 = q2u t 16 := by simp [qbh]
  rw [hv] at g0 ⊢
  have hll := q33 t 16
  have hlz : ((q2u t 16).take (q32 t 16)).length ≤ 16 := by rw [List.length_take]; omega
  have hres : q6d t = ⟨(q2u t 16).take (q32 t 16), q1v t 16⟩ := rfl
  rw [hres]
  refine Run.wk (Wk.freeze (k := 3) (cs := [.nil, .own 3 (q0c (q1v t 16))]) rfl) ?_
  refine Run.wk (s' := ⟨tms [(2, .ptr 2 0), (3, .ptr 3 0), (4, .os 8 0), (5, .int .i64 (q32 t 16)), (6, .int .i64 16)], mms [(2, .cells [.nil, .nil]), (3, .cells [.nil, .sl 3 (q0c (q1v t 16))]), (8, .arr 0 1 (q05 (q2u t 16)))]⟩) (have hW := @hst; q0f) ?_
  (have hF := (aI @g0 @q6u); refine q01 (k:=?_); clear hF)
  exact Fin.all rfl (by simp [q0j, AVal.stb, q03, q04, fzc, q5w]) rfl

section
open Go.ChangeShapes Go.WideShapes Go.ChangeAt Go.RowKit
def VR0 (w : World) (x : AVal) (v : Value) : Prop := ∀ G : Gh, (∀ b, G.ow b = none) → VR (Dm NoM) G (fun _ => False) w x v
structure Opens (P : Program) (t : TypeId) (α : Type) (ok : α → Prop) (c : α → List AVal) (wt : α → Nat) : Prop where
 run : ∀ {H : Type} (enc : TypeId × Value → H) (w : World) (fuel : Nat) (cs : List Value) (d : DataW H) (ps : List MemPlace),
  DataW.trod enc P w 0 (fun _ => true) true fuel t cs = some (d, ps) →
  ∃ x : α, ok x ∧ wt x ≤ Rows.uptoBulk d ∧ cs.length = (c x).length ∧ ∀ (n : Nat) (y : AVal) (v : Value), (c x)[n]? = some y → cs[n]? = some v → VR0 w y v
section
variable {P : Program} {t : TypeId}
def qhn (n : Int) : Prop := -9223372036854775808 ≤ n ∧ n ≤ 9223372036854775807
theorem Opens.int (ht : P.underlying t = some (.int .i64)) : Opens P t Int qhn (fun n => [.int .i64 n]) (fun _ => 1) := by
 refine ⟨fun {H} enc w fuel cs d ps h => ?_⟩
 obtain ⟨n, rfl, hx, hw⟩ := DataW.trod_int ht h
 have hd : d = .lit (.int .i64 n) := congrArg Prod.fst hx
 subst hd
 refine ⟨n, bounds_i64 hw, by simp [Rows.uptoBulk], rfl, fun i y v hy hv G hG => ?_⟩
 match i with
 | 0 => simp at hy hv; subst hy; subst hv; exact .int _ _
 | i + 1 => simp at hy
theorem Opens.bool (ht : P.underlying t = some .bool) : Opens P t Bool (fun _ => True) (fun n => [.bool n]) (fun _ => 1) := by
 refine ⟨fun {H} enc w fuel cs d ps h => ?_⟩
 obtain ⟨n, rfl, hx⟩ := DataW.trod_bool ht h
 have hd : d = .lit (.bool n) := congrArg Prod.fst hx
 subst hd
 refine ⟨n, trivial, by simp [Rows.uptoBulk], rfl, fun i y v hy hv G hG => ?_⟩
 match i with
 | 0 => simp at hy hv; subst hy; subst hv; exact .bool _
 | i + 1 => simp at hy
theorem Opens.string (ht : P.underlying t = some .string) : Opens P t ByteArray (fun _ => True) (fun s => [.str s]) (fun s => s.size + 1) := by
 refine ⟨fun {H} enc w fuel cs d ps h => ?_⟩
 obtain ⟨n, rfl, hx, hs⟩ := DataW.trod_string ht h
 have hd : d = .lit (.string n.data.toList) := congrArg Prod.fst hx
 subst hd
 refine ⟨n, trivial, ?_, rfl, fun i y v hy hv G hG => ?_⟩
 ·simp only [Rows.uptoBulk, Array.length_toList]
  exact Nat.le_refl _
 ·match i with
  | 0 => simp at hy hv; subst hy; subst hv; exact .str _
  | i + 1 => simp at hy
theorem z7w {H : Type} {α : Type} {wt : α → Nat} : ∀ (es : List (DataW H × List MemPlace)) (l : List α), l.length = es.length → (∀ (i : Nat) x e, l[i]? = some x → es[i]? = some e → wt x ≤ Rows.uptoBulk e.1) → (l.map wt).sum ≤ Rows.uptoBulkAll (es.map (·.1))
 | [], [], _, _ => Nat.le_refl _
 | e :: es, x :: l, hl, h => by
  have h1 := h 0 x e rfl rfl
  have h2 := z7w es l (by simpa using hl) fun i y u hy hu => h (i + 1) y u (by simpa using hy) (by simpa using hu)
  simp only [List.map_cons, List.sum_cons, Rows.uptoBulkAll]
  omega
 | [], _ :: _, hl, _ => by simp at hl
 | _ :: _, [], hl, _ => by simp at hl
theorem addr_add (b off i j : Nat) : ((⟨b, off, none⟩ : Addr).add i).add j = ⟨b, off + i + j, none⟩ := by
 unfold Addr.add
 split <;> split <;> simp_all
def wtL {α : Type} (wt : α → Nat) (l : List α) : Nat := (l.map wt).sum + 1
theorem Opens.slice {e : TypeId} {α : Type} {ok : α → Prop} {c : α → List AVal} {wt : α → Nat} {k : Nat} {mk : α → AVal} (ht : P.underlying t = some (.slice e)) (he : Opens P e α ok c wt) (hcell : P.cellsOf e = k) (hk0 : 0 < k)
 (hmk : ∀ x, (mk x).cells = c x) (hk : ∀ x, (c x).length = k) (hone : ∀ x, ∀ y ∈ c x, y.one = true) : Opens P t (List α) (fun l => ∀ x ∈ l, ok x) (fun l => [.sl k (l.map mk)]) (wtL wt) := by
 refine ⟨fun {H} enc w fuel cs d ps h => ?_⟩
 rcases DataW.trod_slice ht h with ⟨rfl, hx⟩ | ⟨a, len, cap, elems, rest, m, _, rfl, hx, hb, hl, hm, hlen, hel, _, _⟩
 ·have hd : d = .nil := congrArg Prod.fst hx
  subst hd
  refine ⟨[], by simp, by simp [wtL, Rows.uptoBulk], rfl, fun i y v hy hv G hG => ?_⟩
  match i with
  | 0 => simp at hy hv; subst hy; subst hv; exact .slnil k
  | i + 1 => simp at hy
 ·have hd : d = .slice (elems.map (·.1)) (rest.map (·.1)) := congrArg Prod.fst hx
  subst hd
  obtain ⟨b, off, sp⟩ := a
  rcases Nat.eq_zero_or_pos len with h0 | h0
  ·subst h0
   refine ⟨[], by simp, by simp [wtL, Rows.uptoBulk], rfl, fun i y v hy hv G hG => ?_⟩
   match i with
   | 0 => simp at hy hv; subst hy; subst hv; exact .slemp k _ cap
   | i + 1 => simp at hy
  have hspot : sp = none := by
   have h1 := hel 0 h0
   rw [List.getElem?_eq_getElem (by omega), Option.bind_eq_some_iff] at h1
   obtain ⟨cs', h2, h3⟩ := h1
   rw [hcell] at h2
   obtain ⟨_, h4, h5⟩ := World.cells?_some h2
   have h6 := h5 0 hk0
   rw [List.getElem?_eq_getElem (by omega)] at h6
   simp only [Nat.zero_mul, Addr.add, if_true, World.cell?] at h6
   cases sp with
   | none => rfl
   | some q => split at h6 <;> simp at h6
  subst hspot
  rw [hcell] at hel
  have each : ∀ i : _root_.Fin len, ∃ x : α, ok x ∧ (∀ e, elems[i.1]? = some e → wt x ≤ Rows.uptoBulk e.1) ∧ ∀ (j : Nat) (y : AVal), (c x)[j]? = some y → ∃ v, w.cell? ⟨b, off + i.1 * k + j, none⟩ = some v ∧ VR0 w y v := by
   intro i
   have h1 := hel i.1 i.2
   have hi : i.1 < elems.length := by rw [hlen]; exact i.2
   rw [List.getElem?_eq_getElem hi, Option.bind_eq_some_iff] at h1
   obtain ⟨cs', h2, h3⟩ := h1
   obtain ⟨_, h4, h5⟩ := World.cells?_some h2
   obtain ⟨x, ho, hw, hlx, hv⟩ := he.run enc w m cs' elems[i.1].1 elems[i.1].2 h3
   refine ⟨x, ho, fun e he => ?_, fun j y hy => ?_⟩
   ·rw [List.getElem?_eq_getElem hi] at he
    cases he
    exact hw
   ·have hj : j < k := by
     rw [← hk x]
     rcases Nat.lt_or_ge j (c x).length with h | h
     ·exact h
     ·rw [List.getElem?_eq_none h] at hy; cases hy
    have h6 := h5 j hj
    rw [addr_add] at h6
    have hjl : j < cs'.length := by omega
    rw [List.getElem?_eq_getElem hjl] at h6
    exact ⟨_, h6, hv j y _ hy (List.getElem?_eq_getElem hjl)⟩
  let l : List α := List.ofFn fun i : _root_.Fin len => (each i).choose
  have hll : l.length = len := by simp [l]
  have hget : ∀ (i : Nat) (hi : i < len), l[i]? = some (each ⟨i, hi⟩).choose := fun i hi => by simp [l, hi]
  refine ⟨l, fun x hx => ?_, ?_, rfl, fun i y v hy hv G hG => ?_⟩
  ·obtain ⟨i, rfl⟩ := (List.mem_ofFn).1 hx
   exact (each i).choose_spec.1
  ·have := z7w (wt := wt) elems l (by omega) fun i x e hx he => by
    have hi : i < len := by
     rcases Nat.lt_or_ge i len with h | h
     ·exact h
     ·rw [List.getElem?_eq_none (by omega)] at hx; cases hx
    rw [hget i hi] at hx
    cases hx
    exact (each ⟨i, hi⟩).choose_spec.2.1 e he
   simp only [wtL, Rows.uptoBulk]
   omega
  ·match i with
   | i + 1 => simp at hy
   | 0 =>
    simp only [List.getElem?_cons_zero, Option.some.injEq] at hy hv
    subst hy; subst hv
    have hsz : ∀ x ∈ l.map mk, x.cells.length = k := by
     intro x hx
     obtain ⟨z, _, rfl⟩ := List.mem_map.1 hx
     rw [hmk, hk]
    have cellv : ∀ (n : Nat) (x : AVal), (flat (l.map mk))[n]? = some x → ∃ v, w.cell? ⟨b, off + n, none⟩ = some v ∧ VR0 w x v := by
     intro n x hx
     have hn : n < len * k := by
      have h1 := q0r hsz
      rw [List.length_map, hll] at h1
      rcases Nat.lt_or_ge n (len * k) with h | h
      ·exact h
      ·rw [List.getElem?_eq_none (by omega)] at hx; cases hx
     have h1 : n / k < len := Nat.div_lt_of_lt_mul (by rw [Nat.mul_comm]; exact hn)
     have h2 : n % k < k := Nat.mod_lt _ hk0
     have h3 := qb4 (sz := k) (xs := l.map mk) (i := n / k) (j := n % k) (x := mk (each ⟨n / k, h1⟩).choose) hsz (by rw [List.getElem?_map, hget _ h1]; rfl) h2
     have e : n / k * k + n % k = n := by rw [Nat.mul_comm]; exact Nat.div_add_mod n k
     rw [e, hmk] at h3
     rw [hx] at h3
     obtain ⟨v, hv, hr⟩ := (each ⟨n / k, h1⟩).choose_spec.2.2 (n % k) x h3.symm
     refine ⟨v, ?_, hr⟩
     rw [← hv]
     congr 2
     simp only
     omega
    have e0 : (l.map mk).length = len := by simp [hll]
    have hsl : VR (Dm NoM) G (fun _ => False) w (.sl k (l.map mk)) (.slice (some ⟨b, off, none⟩) (l.map mk).length cap) := by
     refine .sl k (l.map mk) b off cap (fun n => (w.cell? ⟨b, off + n, none⟩).getD undef) (by omega) (fun _ => ⟨fun h => h, hG b⟩) (fun x hx => ?_) hsz (fun n x hx => ?_) (fun n x hx => ?_)
     ·obtain ⟨z, hz, hx⟩ := List.mem_flatMap.1 hx
      obtain ⟨q, _, rfl⟩ := List.mem_map.1 hz
      rw [hmk] at hx
      exact hone q x hx
     ·obtain ⟨v, hv, _⟩ := cellv n x hx
      rw [hv]; rfl
     ·obtain ⟨v, hv, hr⟩ := cellv n x hx
      simp only [hv, Option.getD_some]
      exact hr G hG
    rw [e0] at hsl
    exact hsl
def OpensF (P : Program) (fs : List Field) (off tot : Nat) (α : Type) (ok : α → Prop) (c : α → List AVal) (wt : α → Nat) : Prop :=
 (∀ x, (c x).length = tot) ∧
 ∀ {H : Type} (enc : TypeId × Value → H) (w : World) (m : Nat) (cs : List Value) (xs : List (DataW H × List MemPlace)), xs.length = fs.length → off + tot ≤ cs.length →
  (∀ (i : Nat) (f : Field), fs[i]? = some f → DataW.trod enc P w 0 (fun _ => true) true m f.type ((cs.drop f.offset).take (P.cellsOf f.type)) = xs[i]?) →
  ∃ x : α, ok x ∧ wt x ≤ Rows.uptoBulkAll (xs.map (·.1)) ∧ ∀ (n : Nat) (y : AVal) (v : Value), (c x)[n]? = some y → cs[off + n]? = some v → VR0 w y v
theorem OpensF.nil (off : Nat) : OpensF P [] off 0 Unit (fun _ => True) (fun _ => []) (fun _ => 0) :=
 ⟨fun _ => rfl, fun enc w m cs xs hl _ _ => ⟨(), trivial, Nat.zero_le _, fun n y v hy => by simp at hy⟩⟩
theorem OpensF.cons {f : Field} {fs : List Field} {off k tot : Nat} {α β : Type} {ok : α → Prop} {ok' : β → Prop} {c : α → List AVal} {c' : β → List AVal} {wt : α → Nat} {wt' : β → Nat}
 (h1 : Opens P f.type α ok c wt) (hk : ∀ x, (c x).length = k) (hc : P.cellsOf f.type = k) (ho : f.offset = off) (h2 : OpensF P fs (off + k) tot β ok' c' wt') :
 OpensF P (f :: fs) off (k + tot) (α × β) (fun x => ok x.1 ∧ ok' x.2) (fun x => c x.1 ++ c' x.2) (fun x => wt x.1 + wt' x.2) := by
 refine ⟨fun x => by rw [List.length_append, hk, h2.1], fun {H} enc w m cs xs hl hlen hx => ?_⟩
 cases xs with
 | nil => simp at hl
 | cons x0 xs =>
  have hx0 := hx 0 f rfl
  simp only [List.getElem?_cons_zero] at hx0
  rw [ho, hc] at hx0
  obtain ⟨x, a1, a2, a3, a4⟩ := h1.run enc w m _ x0.1 x0.2 hx0
  obtain ⟨y, b1, b2, b3⟩ := h2.2 enc w m cs xs (by simpa using hl) (by omega) (fun i g hg => by simpa using hx (i + 1) g (by simpa using hg))
  refine ⟨(x, y), ⟨a1, b1⟩, ?_, fun n z v hz hv => ?_⟩
  ·simp only [List.map_cons, Rows.uptoBulkAll]
   omega
  ·rcases Nat.lt_or_ge n k with hn | hn
   ·rw [List.getElem?_append_left (by rw [hk]; exact hn)] at hz
    refine a4 n z v hz ?_
    rw [List.getElem?_take, if_pos hn, List.getElem?_drop]
    exact hv
   ·rw [List.getElem?_append_right (by rw [hk]; exact hn), hk] at hz
    refine b3 (n - k) z v hz ?_
    rw [show off + k + (n - k) = off + n by omega]
    exact hv
theorem Opens.struct {fs : Array Field} {tot : Nat} {α : Type} {ok : α → Prop} {c : α → List AVal} {wt : α → Nat} (ht : P.underlying t = some (.struct fs)) (hc : P.cellsOf t = tot) (h : OpensF P fs.toList 0 tot α ok c wt) :
 Opens P t α ok c (fun x => wt x + 1) := by
 refine ⟨fun {H} enc w fuel cs d ps hd => ?_⟩
 obtain ⟨xs, n, _, hx, hl, hxl, hf⟩ := DataW.trod_struct ht hd
 have hd : d = .agg (xs.map (·.1)) := congrArg Prod.fst hx
 subst hd
 obtain ⟨x, h1, h2, h3⟩ := h.2 enc w n cs xs (by simpa using hxl) (by omega) (fun i f hi => hf i f (by simpa using hi))
 refine ⟨x, h1, by simp only [Rows.uptoBulk]; omega, by rw [h.1, hl, hc], fun i y v hy hv => h3 i y v hy (by simpa using hv)⟩
theorem Opens.map {α β : Type} {ok : α → Prop} {c : α → List AVal} {wt : α → Nat} {ok' : β → Prop} {c' : β → List AVal} {wt' : β → Nat} (h : Opens P t α ok c wt) (g : α → β) (h1 : ∀ x, ok x → ok' (g x)) (h2 : ∀ x, c' (g x) = c x) (h3 : ∀ x, wt' (g x) ≤ wt x) :
 Opens P t β ok' c' wt' := by
 refine ⟨fun {H} enc w fuel cs d ps hd => ?_⟩
 obtain ⟨x, a1, a2, a3, a4⟩ := h.run enc w fuel cs d ps hd
 exact ⟨g x, h1 x a1, Nat.le_trans (h3 x) a2, by rw [h2]; exact a3, by rw [h2]; exact a4⟩
end
section
variable {P : Program} {t : TypeId}
def zmv (P : Program) (t : TypeId) (α : Type) (ok : α → Prop) (mk : α → AVal) (wt : α → Nat) : Prop :=
 ∀ {H : Type} (enc : TypeId × Value → H) (w : World) (base fuel : Nat) (v : Value) (d : DataW H) (ps : List MemPlace), Value.okWide P w .any base t v →
  DataW.trod enc P w 0 (fun _ => true) true fuel t v.cells.toList = some (d, ps) → ∃ x : α, ok x ∧ wt x ≤ Rows.uptoBulk d ∧ VR0 w (mk x) v
theorem Opens.agg {α : Type} {ok : α → Prop} {c : α → List AVal} {wt : α → Nat} {fs : Array Field} (h : Opens P t α ok c wt) (ht : P.underlying t = some (.struct fs)) : zmv P t α ok (fun x => .agg (c x)) wt := by
 intro H enc w base fuel v d ps hok hd
 unfold Value.okWide at hok
 rw [ht] at hok
 obtain ⟨cs, rfl, hsz, _⟩ := hok
 obtain ⟨x, x1, x2, x3, x4⟩ := h.run enc w fuel cs.toList d ps (by simpa [Value.cells] using hd)
 exact ⟨x, x1, x2, fun G hG => .agg _ _ (by simpa using x3) fun n z u hz hu => x4 n z u hz (by simpa using hu) G hG⟩
theorem Opens.one {α : Type} {ok : α → Prop} {mk : α → AVal} {wt : α → Nat} {u : TypeDesc} (h : Opens P t α ok (fun x => [mk x]) wt) (ht : P.underlying t = some u) (hu : (match u with | .struct _ | .array _ _ => False | _ => True)) : zmv P t α ok mk wt := by
 intro H enc w base fuel v d ps hok hd
 have hv : v.cells.toList = [v] := by
  cases v <;> first | rfl | skip
  unfold Value.okWide at hok
  rw [ht] at hok
  cases u <;> first | exact hu.elim | (simp [Cell.okWide, Cell.ok, ht] at hok; done)
 rw [hv] at hd
 obtain ⟨x, x1, x2, x3, x4⟩ := h.run enc w fuel [v] d ps hd
 exact ⟨x, x1, x2, x4 0 (mk x) v rfl rfl⟩
def OpensA (P : Program) (ts : List TypeId) (α : Type) (ok : α → Prop) (l : α → List AVal) (wt : α → Nat) : Prop :=
 ∀ {H : Type} (enc : TypeId × Value → H) (w : World) (base : Nat) (vs : List Value) (ds : List (DataW H)) (ps : List MemPlace), (∀ (j : Nat) t v, ts[j]? = some t → vs[j]? = some v → Value.okWide P w .any base t v) →
  DataW.TrodAll enc P w 0 (fun _ => true) true ts vs ds ps → ∃ x : α, ok x ∧ wt x ≤ Rows.uptoBulkAll ds ∧ vs.length = (l x).length ∧ ∀ (n : Nat) (y : AVal) (v : Value), (l x)[n]? = some y → vs[n]? = some v → VR0 w y v
theorem OpensA.nil : OpensA P [] Unit (fun _ => True) (fun _ => []) (fun _ => 0) := by
 intro H enc w base vs ds ps _ h
 obtain ⟨rfl, rfl, rfl⟩ := trodAll_nil h
 exact ⟨(), trivial, Nat.zero_le _, rfl, fun n y v hy => by simp at hy⟩
theorem OpensA.cons {ts : List TypeId} {α β : Type} {ok : α → Prop} {ok' : β → Prop} {mk : α → AVal} {l : β → List AVal} {wt : α → Nat} {wt' : β → Nat} (h1 : zmv P t α ok mk wt) (h2 : OpensA P ts β ok' l wt') :
 OpensA P (t :: ts) (α × β) (fun x => ok x.1 ∧ ok' x.2) (fun x => mk x.1 :: l x.2) (fun x => wt x.1 + wt' x.2) := by
 intro H enc w base vs ds ps hok h
 obtain ⟨v, vs', d, ds', p, q, rfl, rfl, rfl, ⟨fuel, hd⟩, hr⟩ := trodAll_cons h
 obtain ⟨x, x1, x2, x3⟩ := h1 enc w base fuel v d p (hok 0 t v rfl rfl) hd
 obtain ⟨y, y1, y2, y3, y4⟩ := h2 enc w base vs' ds' q (fun j t' v' ht hv => hok (j + 1) t' v' (by simpa using ht) (by simpa using hv)) hr
 refine ⟨(x, y), ⟨x1, y1⟩, ?_, by simpa using y3, fun n z u hz hu => ?_⟩
 ·simp only [Rows.uptoBulkAll]
  omega
 ·match n with
  | 0 => simp at hz hu; subst hz; subst hu; exact x3
  | n + 1 => exact y4 n z u (by simpa using hz) (by simpa using hu)
theorem OpensA.map {ts : List TypeId} {α β : Type} {ok : α → Prop} {ok' : β → Prop} {l : α → List AVal} {l' : β → List AVal} {wt : α → Nat} {wt' : β → Nat} (h : OpensA P ts α ok l wt) (g : α → β) (h1 : ∀ x, ok x → ok' (g x)) (h2 : ∀ x, l' (g x) = l x) (h3 : ∀ x, wt' (g x) ≤ wt x) :
 OpensA P ts β ok' l' wt' := by
 intro H enc w base vs ds ps hok ht
 obtain ⟨x, x1, x2, x3, x4⟩ := h enc w base vs ds ps hok ht
 exact ⟨g x, h1 x x1, Nat.le_trans (h3 x) x2, by rw [h2]; exact x3, by rw [h2]; exact x4⟩
end
theorem qq2 {H : Type} {enc : TypeId × Value → H} {P : Program} (hl : laidOutB P = true) {W W' : World} (hb : Below W.heap.size W W') : ∀ {ts : List TypeId} {vs : List Value} {ds : List (DataW H)} {ps : List MemPlace}, (∀ t ∈ ts, P.readableRec t = true ∧ t < P.types.size) →
 DataW.TrodAll enc P W 0 (fun _ => true) true ts vs ds ps → (∀ x ∈ ps, x.block < W.heap.size) → DataW.TrodAll enc P W' 0 (fun b => decide (b < W.heap.size)) true ts vs ds ps
 | [], vs, ds, ps, _, h, _ => by
  obtain ⟨rfl, rfl, rfl⟩ := trodAll_nil h
  exact trodAll_mk0
 | t :: ts, vs, ds, ps, hr, h, hlt => by
  obtain ⟨v, vs', d, ds', p, q, rfl, rfl, rfl, hd, hrest⟩ := trodAll_cons h
  have h1 := hr t (by simp)
  exact trodAll_cons_mk (Below.trod hl h1.1 h1.2 hd hb fun x hx => hlt x (by simp [hx])) (qq2 hl hb (fun t' ht' => hr t' (by simp [ht'])) hrest fun x hx => hlt x (by simp [hx]))
theorem q86 {P : Program} {f : FuncId} {fn : Func} {α : Type} {ok : α → Prop} {l : α → List AVal} {wt : α → Nat} {s : ChangeSpec} (hfn : P.funcs[f]? = some fn) (hr : fn.resultTypes = #[4]) (hb : P.underlying 4 = some .bool)
 (hl : laidOutB P = true) (hre : ∀ t ∈ fn.params.toList, P.readableRec t = true ∧ t < P.types.size) (hvars : s.vars = [])
 (hsfn : ∀ (H : Type) (ds : List (DataW H)), ds.length = fn.params.size → s.fn H ds = { results := [.lit (.bool true)], args := ds })
 (ho : OpensA P fn.params.toList α ok l wt) (hEv : ∀ x, ok x → wt x ≤ 1048576 → Ev P f (l x) (.ret (.bool true)))
 (H : Type) (enc : TypeId × Value → H) (W : World) (base : Nat) (args : Array Value) (ds gs : List (DataW H)) (before : List MemPlace)
 (hval : ∀ (j : Nat) t v, fn.params[j]? = some t → args[j]? = some v → Value.okWide P W .any base t v)
 (hW : DataW.Whole enc P fn.params.toList s.vars false W args.toList ds gs before) (hk : Rows.uptoSmall H (ds ++ gs) = true) :
 Calls P f args W fun e W' => ∃ v, e = .returned v ∧ s.post enc P fn false true false false W args v W' := by
 have hW' := hW
 obtain ⟨p, q, hA, hV, rfl, hfz, hnd⟩ := hW
 rw [hvars] at hV
 obtain ⟨rfl, rfl⟩ := trodVars_none hV
 obtain ⟨x, x1, x2, x3, x4⟩ := ho enc W base args.toList ds p (fun j t v ht hv => hval j t v (by simpa using ht) (by simpa using hv)) hA
 have hlen : ds.length = fn.params.size := by
  have : ∀ (ts : List TypeId) (vs : List Value) (ds : List (DataW H)) (ps : List MemPlace), DataW.TrodAll enc P W 0 (fun _ => true) true ts vs ds ps → ds.length = ts.length := by
   intro ts
   induction ts with
   | nil => intro vs ds ps h; obtain ⟨_, rfl, _⟩ := trodAll_nil h; rfl
   | cons t ts ih =>
    intro vs ds ps h
    obtain ⟨v, vs', d, ds', p, q, rfl, rfl, rfl, _, hr⟩ := trodAll_cons h
    simp [ih _ _ _ hr]
  simpa using this _ _ _ _ hA
 have hsmall : Rows.uptoBulkAll ds ≤ 1048576 := by
  have : Rows.uptoBulkAll (ds ++ []) ≤ 1048576 := of_decide_eq_true hk
  simpa using this
 have hcall := (hEv x x1 (by omega)).2 (fun _ => False) W args ⟨fun _ => 0, fun _ _ => .int .i64 0, fun _ => none, fun _ _ => rfl⟩ (fun _ => rfl) (by simpa using x3) (fun i y v hy hv => x4 i y v hy (by simpa using hv) _ (fun _ => rfl)) (fun _ h => h.elim)
 refine hcall.mono ?_
 rintro e W' ⟨G', v', hG', hAdv, he, hr'⟩
 cases hr'
 subst he
 have hbel : Below W.heap.size W W' := ⟨hAdv.os.1, hAdv.tape, hAdv.output, hAdv.size, fun b hb => (hAdv.keep b hb rfl).1⟩
 have hlt : ∀ z ∈ p, z.block < W.heap.size := fun z hz => by simpa using hW'.lt z (by simpa using hz)
 refine ⟨.bool true, rfl, ds, [], p ++ [], [], p, [], hW', ?_, ?_, ?_, hbel.frame _, fun h => by cases h⟩
 ·rw [hr, List.append_nil, hsfn H ds hlen]
  exact trodAll_cons_mk (p' := []) (shut_bool hb _) trodAll_mk0
 ·rw [List.append_nil, hsfn H ds hlen]
  exact qq2 hl hbel hre hA hlt
 ·rw [hvars, List.append_nil, hsfn H ds hlen]
  rfl
end
theorem q5p : Tryz.prog.cellsOf 3 = 1 := by kernel_rfl
theorem z9w : Tryz.prog.cellsOf 23 = 1 := by kernel_rfl
theorem qru : Tryz.prog.cellsOf 24 = 1 := by kernel_rfl
theorem qga : Tryz.prog.cellsOf 127 = 3 := by kernel_rfl
theorem qpv : Tryz.prog.cellsOf 41 = 2 := by kernel_rfl
theorem qbb : Tryz.prog.cellsOf 26 = 2 := by kernel_rfl
theorem qdm : Opens Tryz.prog 3 Int qhn (fun n => [.int .i64 n]) (fun _ => 1) := Opens.int Tryz.underlying3
theorem op_ints : Opens Tryz.prog 23 (List Int) (fun l => ∀ x ∈ l, qhn x) (fun l => [.sl 1 (q05 l)]) (wtL fun _ => 1) :=
 Opens.slice (mk := encI) Tryz.underlying23 qdm q5p (by decide) (fun _ => rfl) (fun _ => rfl) (fun x y hy => by simp at hy; subst hy; rfl)
def okS (s : Sn) : Prop := qhn s.1 ∧ qhn s.2.1 ∧ qhn s.2.2
theorem op_Span : Opens Tryz.prog 127 Sn okS (fun s => [.int .i64 s.1, .int .i64 s.2.1, .int .i64 s.2.2]) (fun _ => 1) :=
 (Opens.struct Tryz.underlying127 qga (OpensF.cons (k := 1) qdm (fun _ => rfl) q5p rfl (OpensF.cons (k := 1) qdm (fun _ => rfl) q5p rfl (OpensF.cons (k := 1) qdm (fun _ => rfl) q5p rfl (OpensF.nil _))))).map
  (fun x => (x.1, x.2.1, x.2.2.1)) (fun x h => ⟨h.1, h.2.1, h.2.2.1⟩) (fun _ => rfl) (fun _ => Nat.le_add_left _ _)
theorem op_spans : Opens Tryz.prog 24 (List Sn) (fun l => ∀ x ∈ l, okS x) (fun l => [.sl 3 (q0c l)]) (wtL fun _ => 1) :=
 Opens.slice (mk := qro) Tryz.underlying24 op_Span
  qga (by decide) (fun _ => rfl) (fun _ => rfl) (fun x y hy => by simp at hy; rcases hy with rfl | rfl | rfl <;> rfl)
def okD (s : Rn) : Prop := qhn s.1 ∧ qhn s.2
theorem op_Dot : Opens Tryz.prog 41 Rn okD (fun x => [.int .i64 x.1, .int .i64 x.2]) (fun _ => 1) :=
 (Opens.struct Tryz.underlying41 qpv (OpensF.cons (k := 1) qdm (fun _ => rfl) q5p rfl (OpensF.cons (k := 1) qdm (fun _ => rfl) q5p rfl (OpensF.nil _)))).map
  (fun x => (x.1, x.2.1)) (fun x h => ⟨h.1, h.2.1⟩) (fun _ => rfl) (fun _ => Nat.le_add_left _ _)
def okP (p : Pst) : Prop := (∀ x ∈ p.vec, qhn x) ∧ ∀ s ∈ p.cloud, okS s
theorem qqc {α : Type} (l : List α) : wtL (fun _ => 1) l = l.length + 1 := by
 unfold wtL
 induction l with
 | nil => rfl
 | cons x l ih => simp only [List.map_cons, List.sum_cons, List.length_cons]; omega
theorem zjr : Opens Tryz.prog 26 Pst okP (fun p => [.sl 1 (q05 p.vec), .sl 3 (q0c p.cloud)]) wt :=
 (Opens.struct Tryz.underlying26 qbb (OpensF.cons (k := 1) op_ints (fun _ => rfl) z9w rfl (OpensF.cons (k := 1) op_spans (fun _ => rfl) qru rfl (OpensF.nil _)))).map (fun x => ⟨x.1, x.2.1⟩) (fun x h => ⟨h.1, h.2.1⟩) (fun _ => rfl)
  (fun x => by show x.1.length + x.2.1.length ≤ wtL (fun _ => 1) x.1 + (wtL (fun _ => 1) x.2.1 + 0) + 1; rw [qqc, qqc]; omega)
structure Cas where
 a : Pst
 b : Pst
 c : Pst
 ds : List Rn
 rep : Int
 most : Int
theorem own : ownKnob Tryz.prog.godebug = none := by kernel_rfl


def qya : List SOp := [⟨some 4,.assign (.const (.slice none 0 0)),none⟩]
instance : Live qya := ⟨[0,1]⟩
def qy9 : List SOp := [⟨some 11,.move (.tmp 0),none⟩,⟨some 12,.call ⟨.value (.func 156),#[.tmp 11],#[149]⟩,none⟩,⟨some 13,.move (.tmp 1),none⟩,⟨some 14,.call ⟨.value (.func 156),#[.tmp 13],#[149]⟩,none⟩,⟨some 5,.assign (.tmp 12),none⟩,⟨some 6,.assign (.tmp 14),none⟩]
instance : Live qy9 := ⟨[0,1]⟩
def qy8 : List SOp := [⟨some 7,.assign (.const (.slice none 0 0)),none⟩]
instance : Live qy8 := ⟨[5,6]⟩
def qy7 : List SOp := [⟨some 8,.assign (.const (.int .i64 0)),none⟩,⟨some 9,.assign (.const (.int .i64 0)),none⟩]
instance : Live qy7 := ⟨[5,6,7]⟩
def qy6 : List SOp := [⟨some 15,.move (.tmp 8),none⟩,⟨some 16,.move (.tmp 5),none⟩,⟨some 17,.call ⟨.builtin .len,#[.tmp 16],#[149]⟩,none⟩,⟨some 18,.binOp .lss 3 (.tmp 15) (.tmp 17) 3,none⟩,⟨some 19,.move (.tmp 18),none⟩,⟨some 20,.move (.tmp 9),some ((some 19),true)⟩,⟨some 21,.move (.tmp 6),some ((some 19),true)⟩,⟨some 22,.call ⟨.builtin .len,#[.tmp 21],#[149]⟩,some ((some 19),true)⟩,⟨some 23,.binOp .lss 3 (.tmp 20) (.tmp 22) 3,some ((some 19),true)⟩,⟨some 24,.pick (.tmp 19) (.tmp 23) (.const (.bool false)),none⟩]
instance : Live qy6 := ⟨[5,6,7,8,9]⟩
def qy5 : List SOp := [⟨some 25,.move (.tmp 5),none⟩,⟨some 26,.move (.tmp 8),none⟩,⟨some 27,.indexAddr 149 (.tmp 25) (.tmp 26),none⟩,⟨some 28,.fieldAddr 179 (.tmp 27) 0,none⟩,⟨some 29,.load 3 (.tmp 28),none⟩,⟨some 30,.move (.tmp 6),none⟩,⟨some 31,.move (.tmp 9),none⟩,⟨some 32,.indexAddr 149 (.tmp 30) (.tmp 31),none⟩,⟨some 33,.fieldAddr 179 (.tmp 32) 0,none⟩,⟨some 34,.load 3 (.tmp 33),none⟩,⟨some 35,.call ⟨.builtin .max,#[.tmp 29,.tmp 34],#[3,3]⟩,none⟩,⟨some 36,.move (.tmp 5),none⟩,⟨some 37,.move (.tmp 8),none⟩,⟨some 38,.indexAddr 149 (.tmp 36) (.tmp 37),none⟩,⟨some 39,.fieldAddr 179 (.tmp 38) 1,none⟩,⟨some 40,.load 3 (.tmp 39),none⟩,⟨some 41,.move (.tmp 6),none⟩,⟨some 42,.move (.tmp 9),none⟩,⟨some 43,.indexAddr 149 (.tmp 41) (.tmp 42),none⟩,⟨some 44,.fieldAddr 179 (.tmp 43) 1,none⟩,⟨some 45,.load 3 (.tmp 44),none⟩,⟨some 46,.call ⟨.builtin .min,#[.tmp 40,.tmp 45],#[3,3]⟩,none⟩,⟨some 47,.build 179 #[(0,.tmp 35),(1,.tmp 46)],none⟩,⟨some 10,.alloc 179,none⟩,⟨none,.store 179 (.tmp 10) (.tmp 47),none⟩]
instance : Live qy5 := ⟨[5,6,7,8,9]⟩
def qy4 : List SOp := [⟨some 48,.fieldAddr 179 (.tmp 10) 0,none⟩,⟨some 49,.load 3 (.tmp 48),none⟩,⟨some 50,.fieldAddr 179 (.tmp 10) 1,none⟩,⟨some 51,.load 3 (.tmp 50),none⟩,⟨some 52,.binOp .leq 3 (.tmp 49) (.tmp 51) 3,none⟩]
instance : Live qy4 := ⟨[5,6,7,8,9,10]⟩
def qy3 : List SOp := [⟨some 53,.move (.tmp 7),none⟩,⟨some 54,.load 179 (.tmp 10),none⟩,⟨some 55,.buildSlice 149 1 #[(0,.tmp 54)],none⟩,⟨some 56,.call ⟨.builtin .append,#[.tmp 53,.tmp 55],#[149,149]⟩,none⟩,⟨some 7,.assign (.tmp 56),none⟩]
instance : Live qy3 := ⟨[5,6,7,8,9,10]⟩
def qy2 : List SOp := [⟨some 57,.move (.tmp 5),none⟩,⟨some 58,.move (.tmp 8),none⟩,⟨some 59,.indexAddr 149 (.tmp 57) (.tmp 58),none⟩,⟨some 60,.fieldAddr 179 (.tmp 59) 1,none⟩,⟨some 61,.load 3 (.tmp 60),none⟩,⟨some 62,.move (.tmp 6),none⟩,⟨some 63,.move (.tmp 9),none⟩,⟨some 64,.indexAddr 149 (.tmp 62) (.tmp 63),none⟩,⟨some 65,.fieldAddr 179 (.tmp 64) 1,none⟩,⟨some 66,.load 3 (.tmp 65),none⟩,⟨some 67,.binOp .lss 3 (.tmp 61) (.tmp 66) 3,none⟩]
instance : Live qy2 := ⟨[5,6,7,8,9]⟩
def qlp : List SOp := [⟨some 68,.move (.tmp 8),none⟩,⟨some 69,.binOp .add 3 (.tmp 68) (.const (.int .i64 1)) 3,none⟩,⟨some 8,.assign (.tmp 69),none⟩]
instance : Live qlp := ⟨[5,6,7,8,9]⟩
def qlo : List SOp := [⟨some 70,.move (.tmp 9),none⟩,⟨some 71,.binOp .add 3 (.tmp 70) (.const (.int .i64 1)) 3,none⟩,⟨some 9,.assign (.tmp 71),none⟩]
instance : Live qlo := ⟨[5,6,7,8,9]⟩
def qln : List SOp := [⟨some 72,.move (.tmp 7),none⟩,⟨some 4,.assign (.tmp 72),none⟩]
instance : Live qln := ⟨[7]⟩
def qj8 : SC :=
 (.seq (.seq (.ops false qy6) (.cond (.tmp 24) .skip (.exit 0))) (.block 1 (.seq (.ops true qy5) (.seq (.seq (.ops false qy4) (.cond (.tmp 52) (.ops false qy3) .skip)) (.seq (.ops true qy2) (.cond (.tmp 67) (.ops false qlp) (.ops false qlo)))))))
def t_k160 : SC :=
 (.seq (.ops false qya) (.seq (.ops false qy9) (.seq (.ops false qy8) (.seq (.seq (.ops false qy7) (.block 0 (.loop qj8))) (.seq (.ops false qln) .ret)))))
theorem it_k160 : FnIs Tryz.prog 160 73 [.tmp 4] t_k160 := ⟨Tryz.f160, _, Tryz.func160, rfl, rfl, rfl, rfl, by kernel_rfl⟩

def qy1 : List SOp := [⟨some 2,.assign (.const (.slice none 0 0)),none⟩]
instance : Live qy1 := ⟨[0]⟩
def qy0 : List SOp := [⟨some 3,.assign (.const (.slice none 0 0)),none⟩]
instance : Live qy0 := ⟨[0]⟩
def qxz : List SOp := [⟨some 4,.assign (.const (.int .i64 1)),none⟩]
instance : Live qxz := ⟨[0,3]⟩
def qxy : List SOp := [⟨some 7,.move (.tmp 0),none⟩,⟨some 8,.call ⟨.builtin .len,#[.tmp 7],#[149]⟩,none⟩,⟨some 9,.move (.const (.int .i64 0)),none⟩]
instance : Live qxy := ⟨[0,3,4]⟩
def qxx : List SOp := [⟨some 10,.binOp .lss 3 (.tmp 9) (.tmp 8) 3,none⟩]
instance : Live qxx := ⟨[3,4,7,8,9]⟩
def qxw : List SOp := [⟨some 11,.indexAddr 149 (.tmp 7) (.tmp 9),none⟩,⟨some 12,.load 179 (.tmp 11),none⟩,⟨some 6,.alloc 179,none⟩,⟨none,.store 179 (.tmp 6) (.tmp 12),none⟩]
instance : Live qxw := ⟨[3,4,7,8,9]⟩
def qxv : List SOp := [⟨some 13,.move (.tmp 4),none⟩,⟨some 14,.fieldAddr 179 (.tmp 6) 0,none⟩,⟨some 15,.load 3 (.tmp 14),none⟩,⟨some 16,.binOp .lss 3 (.tmp 13) (.tmp 15) 3,none⟩]
instance : Live qxv := ⟨[3,4,6,7,8,9]⟩
def qxu : List SOp := [⟨some 17,.move (.tmp 3),none⟩,⟨some 18,.move (.tmp 4),none⟩,⟨some 19,.fieldAddr 179 (.tmp 6) 0,none⟩,⟨some 20,.load 3 (.tmp 19),none⟩,⟨some 21,.binOp .sub 3 (.tmp 20) (.const (.int .i64 1)) 3,none⟩,⟨some 22,.build 179 #[(0,.tmp 18),(1,.tmp 21)],none⟩,⟨some 23,.buildSlice 149 1 #[(0,.tmp 22)],none⟩,⟨some 24,.call ⟨.builtin .append,#[.tmp 17,.tmp 23],#[149,149]⟩,none⟩,⟨some 3,.assign (.tmp 24),none⟩]
instance : Live qxu := ⟨[3,4,6,7,8,9]⟩
def qxt : List SOp := [⟨some 25,.fieldAddr 179 (.tmp 6) 1,none⟩,⟨some 26,.load 3 (.tmp 25),none⟩,⟨some 27,.binOp .add 3 (.tmp 26) (.const (.int .i64 1)) 3,none⟩,⟨some 4,.assign (.tmp 27),none⟩]
instance : Live qxt := ⟨[3,6,7,8,9]⟩
def qlm : List SOp := [⟨some 28,.binOp .add 3 (.tmp 9) (.const (.int .i64 1)) 3,none⟩,⟨some 9,.move (.tmp 28),none⟩]
instance : Live qlm := ⟨[3,4,7,8,9]⟩
def qll : List SOp := [⟨some 29,.move (.tmp 4),none⟩,⟨some 30,.binOp .leq 3 (.tmp 29) (.const (.int .i64 1000000000)) 3,none⟩]
instance : Live qll := ⟨[3,4]⟩
def qlk : List SOp := [⟨some 31,.move (.tmp 3),none⟩,⟨some 32,.move (.tmp 4),none⟩,⟨some 33,.build 179 #[(0,.tmp 32),(1,.const (.int .i64 1000000000))],none⟩,⟨some 34,.buildSlice 149 1 #[(0,.tmp 33)],none⟩,⟨some 35,.call ⟨.builtin .append,#[.tmp 31,.tmp 34],#[149,149]⟩,none⟩,⟨some 3,.assign (.tmp 35),none⟩]
instance : Live qlk := ⟨[3,4]⟩
def qlj : List SOp := [⟨some 36,.move (.tmp 3),none⟩,⟨some 2,.assign (.tmp 36),none⟩]
instance : Live qlj := ⟨[3]⟩
def qj7 : SC :=
 (.seq (.ops false qxx) (.seq (.cond (.tmp 10) .skip (.exit 0)) (.seq (.block 1 (.seq (.ops false qxw) (.seq (.seq (.ops false qxv) (.cond (.tmp 16) (.ops false qxu) .skip)) (.ops false qxt)))) (.ops false qlm))))
def t_k161 : SC :=
 (.seq (.ops false qy1) (.seq (.ops false qy0) (.seq (.ops false qxz) (.seq (.seq (.ops false qxy) (.block 0 (.loop qj7))) (.seq (.seq (.ops false qll) (.cond (.tmp 30) (.ops false qlk) .skip)) (.seq (.ops false qlj) .ret))))))
theorem it_k161 : FnIs Tryz.prog 161 37 [.tmp 2] t_k161 := ⟨Tryz.f161, _, Tryz.func161, rfl, rfl, rfl, rfl, by kernel_rfl⟩

def z1e : List SOp := [⟨some 4,.assign (.const (.slice none 0 0)),none⟩]
instance : Live z1e := ⟨[0,1]⟩
def z1d : List SOp := [⟨some 5,.move (.tmp 0),none⟩,⟨some 6,.move (.tmp 1),none⟩,⟨some 7,.call ⟨.value (.func 156),#[.tmp 6],#[149]⟩,none⟩,⟨some 8,.call ⟨.value (.func 161),#[.tmp 7],#[149]⟩,none⟩,⟨some 9,.call ⟨.value (.func 160),#[.tmp 5,.tmp 8],#[149,149]⟩,none⟩,⟨some 4,.assign (.tmp 9),none⟩]
instance : Live z1d := ⟨[0,1]⟩
def t_k139 : SC :=
 (.seq (.ops false z1e) (.seq (.ops false z1d) .ret))
theorem it_k139 : FnIs Tryz.prog 139 10 [.tmp 4] t_k139 := ⟨Tryz.f139, _, Tryz.func139, rfl, rfl, rfl, rfl, by kernel_rfl⟩

def z5l : List SOp := [⟨some 4,.assign (.const (.bool false)),none⟩]
instance : Live z5l := ⟨[0,1]⟩
def z5k : List SOp := [⟨some 5,.move (.tmp 0),none⟩,⟨some 6,.move (.tmp 1),none⟩,⟨some 7,.call ⟨.value (.func 139),#[.tmp 5,.tmp 6],#[149,149]⟩,none⟩,⟨some 8,.call ⟨.builtin .len,#[.tmp 7],#[149]⟩,none⟩,⟨some 9,.binOp .eql 3 (.tmp 8) (.const (.int .i64 0)) 3,none⟩,⟨some 4,.assign (.tmp 9),none⟩]
instance : Live z5k := ⟨[0,1]⟩
def t_k107 : SC :=
 (.seq (.ops false z5l) (.seq (.ops false z5k) .ret))
theorem it_k107 : FnIs Tryz.prog 107 10 [.tmp 4] t_k107 := ⟨Tryz.f107, _, Tryz.func107, rfl, rfl, rfl, rfl, by kernel_rfl⟩

def qq1 (x y : Rn) : Rn := (max x.1 y.1, min x.2 y.2)
def qqb (r : Rn) : List Rn := if r.1 ≤ r.2 then [r] else []
def q5v : List Rn → List Rn → List Rn
 | [], _ => []
 | _ :: _, [] => []
 | x :: l, y :: m => qqb (qq1 x y) ++ if x.2 < y.2 then q5v l (y :: m) else q5v (x :: l) m
termination_by l m => l.length + m.length
theorem qa0 (l : List Rn) : q5v l [] = [] := by cases l <;> simp [q5v]
theorem q8f (x y : Rn) (l m : List Rn) : q5v (x :: l) (y :: m) = qqb (qq1 x y) ++ if x.2 < y.2 then q5v l (y :: m) else q5v (x :: l) m := by
 conv => lhs; unfold q5v
structure MtS where
 i : Nat
 j : Nat
 o : List Rn
theorem z9f (a b x y : List Rn) (ha : Ev (En Tryz.prog rfl).P 156 [.sl 2 (q08 a)] (.ret (.sl 2 (q08 x)))) (hb : Ev (En Tryz.prog rfl).P 156 [.sl 2 (q08 b)] (.ret (.sl 2 (q08 y)))) (hx : x.length ≤ 400000000) (hy : y.length ≤ 400000000) :
 Ev (En Tryz.prog rfl).P 160 [.sl 2 (q08 a), .sl 2 (q08 b)] (.ret (.sl 2 (q08 (q5v x y)))) := by
 refine Ev.of_body it_k160 (by simp) (Run.start ?_)
 unfold t_k160
 have e1 := q0x x
 have e2 := q0x y
 (have hF := True.intro; refine q01 (k:=?_); clear hF)
 refine q00 [.sl 2 (q08 a)] (he := ha) (k:=?_)
 (have hF := True.intro; refine q01 (k:=?_); clear hF)
 refine q00 [.sl 2 (q08 b)] (he := hb) (k:=?_)
 (have hF := (aI @e1 @e2); refine q01 (k:=?_); clear hF)
 refine Run.wk (Wk.own_nil 7 56 2 rfl rfl) ?_
 refine Run.while (σ := MtS) (fun z => ⟨tms [(5, .sl 2 (q08 x)), (6, .sl 2 (q08 y)), (7, .os 56 z.o.length), (8, .int .i64 (z.i : Int)), (9, .int .i64 (z.j : Int))], mms [(56, .arr z.o.length 2 (q08 z.o))]⟩)
  (fun z => z.i ≤ x.length ∧ z.j ≤ y.length ∧ z.o.length ≤ z.i + z.j ∧ z.o ++ q5v (x.drop z.i) (y.drop z.j) = q5v x y) (fun z => (x.length - z.i) + (y.length - z.j)) ⟨0, 0, []⟩ (have hW := @q07; q0f) ⟨Nat.zero_le _, Nat.zero_le _, Nat.le_refl _, rfl⟩ ?_
 rintro ⟨i, j, o⟩ ⟨hi, hj, ho, hp⟩
 dsimp only at hi hj ho hp ⊢
 have e3 := q0x o
 unfold qj8
 by_cases hxi : i < x.length
 ·by_cases hyj : j < y.length
  ·obtain ⟨r, hr⟩ : ∃ r, x[i]? = some r := ⟨x[i], by simp [hxi]⟩
   obtain ⟨s, hs⟩ : ∃ s, y[j]? = some s := ⟨y[j], by simp [hyj]⟩
   have g1 := q3d hr
   have g2 := q3d hs
   obtain ⟨_, hxe⟩ := List.getElem?_eq_some_iff.1 hr
   obtain ⟨_, hye⟩ := List.getElem?_eq_some_iff.1 hs
   have hd := q8f r s (x.drop (i + 1)) (y.drop (j + 1))
   rw [← hxe, ← hye, ← List.drop_eq_getElem_cons hxi, ← List.drop_eq_getElem_cons hyj, hxe, hye] at hd
   unfold q37 at g1 g2
   (focus (have hF := (aI (aI @e1 (aI @e2 @e3)) (aI @g1 (aI @g2 @q6t))); (repeat' (first | refine go1 (k:=?_) | with_reducible refine Ny.of ?_ ?_ | (refine Hyp.of ?_; intro hc; (try simp only [hc]); (try simp only [Bh] at hc)))); all_goals clear hF))
   ·rename_i hc1
    rw [show qqb (qq1 r s) = [(max r.1 s.1, min r.2 s.2)] from if_pos hc1, if_pos hc] at hd
    rw [hd, ← List.append_assoc] at hp
    have hl : (o ++ [(max r.1 s.1, min r.2 s.2)]).length = o.length + 1 := by simp
    (refine Fin.nextW (⟨i + 1, j, o ++ [(max r.1 s.1, min r.2 s.2)]⟩) ?_ (have hW := (aI @q07 @hl); q0f); (try dsimp only))
    exact ⟨⟨by omega, by omega, by rw [hl]; omega, hp⟩, by omega⟩
   ·rename_i hc1
    rw [show qqb (qq1 r s) = [(max r.1 s.1, min r.2 s.2)] from if_pos hc1, if_neg hc] at hd
    rw [hd, ← List.append_assoc] at hp
    have hl : (o ++ [(max r.1 s.1, min r.2 s.2)]).length = o.length + 1 := by simp
    (refine Fin.nextW (⟨i, j + 1, o ++ [(max r.1 s.1, min r.2 s.2)]⟩) ?_ (have hW := (aI @q07 @hl); q0f); (try dsimp only))
    exact ⟨⟨by omega, by omega, by rw [hl]; omega, hp⟩, by omega⟩
   ·rename_i hc1
    rw [show qqb (qq1 r s) = [] from if_neg hc1, if_pos hc] at hd
    rw [hd, List.nil_append] at hp
    (refine Fin.nextW (⟨i + 1, j, o⟩) ?_ (have hW := @q07; q0f); (try dsimp only))
    exact ⟨⟨by omega, by omega, by omega, hp⟩, by omega⟩
   ·rename_i hc1
    rw [show qqb (qq1 r s) = [] from if_neg hc1, if_neg hc] at hd
    rw [hd, List.nil_append] at hp
    (refine Fin.nextW (⟨i, j + 1, o⟩) ?_ (have hW := @q07; q0f); (try dsimp only))
    exact ⟨⟨by omega, by omega, by omega, hp⟩, by omega⟩
  ·rw [List.drop_eq_nil_of_le (show y.length ≤ j by omega), qa0, List.append_nil] at hp
   rw [← hp]
   (have hF := (aI @e1 (aI @e2 @e3)); refine q01 (k:=?_); clear hF)
   exact qgr (.sl 2 (q08 o))
 ·rw [List.drop_eq_nil_of_le (show x.length ≤ i by omega), show q5v [] (y.drop j) = [] by unfold q5v; rfl, List.append_nil] at hp
  rw [← hp]
  (have hF := (aI @e1 (aI @e2 @e3)); refine q01 (k:=?_); clear hF)
  exact qgr (.sl 2 (q08 o))
def q2k : Int → List Rn → List Rn
 | k, [] => qqb (k, 1000000000)
 | k, r :: l => (if k < r.1 then [(k, r.1 - 1)] else []) ++ q2k (r.2 + 1) l
def q5c (l : List Rn) : List Rn := q2k 1 l
structure OtS where
 i : Nat
 k : Int
 o : List Rn
theorem ev_k161 (l : List Rn) (hl : l.length ≤ 400000000) (hb : ∀ r ∈ l, 1 ≤ r.1 ∧ r.1 ≤ 1000000000 ∧ 1 ≤ r.2 ∧ r.2 ≤ 1000000000) : Ev (En Tryz.prog rfl).P 161 [.sl 2 (q08 l)] (.ret (.sl 2 (q08 (q5c l)))) := by
 refine Ev.of_body it_k161 (by simp) (Run.start ?_)
 unfold t_k161
 have e1 := q0x l
 (have hF := @e1; refine q01 (k:=?_); clear hF)
 refine Run.wk (Wk.own_nil 3 24 2 rfl rfl) ?_
 refine Run.while (σ := OtS) (fun z => ⟨tms [(3, .os 24 z.o.length), (4, .int .i64 z.k), (7, .sl 2 (q08 l)), (8, .int .i64 (l.length : Int)), (9, .int .i64 (z.i : Int))], mms [(24, .arr z.o.length 2 (q08 z.o))]⟩)
  (fun z => z.i ≤ l.length ∧ z.o.length ≤ z.i ∧ 1 ≤ z.k ∧ z.k ≤ 1000000001 ∧ z.o ++ q2k z.k (l.drop z.i) = q5c l) (fun z => l.length - z.i) ⟨0, 1, []⟩ (have hW := @q07; q0f) ⟨Nat.zero_le _, Nat.le_refl _, by decide, by decide, rfl⟩ ?_
 rintro ⟨i, k, o⟩ ⟨hi, ho, hk1, hk2, hp⟩
 dsimp only at hi ho hp hk1 hk2 ⊢
 have e3 := q0x o
 unfold qj7
 by_cases hlt : i < l.length
 ·obtain ⟨r, hr⟩ : ∃ r, l[i]? = some r := ⟨l[i], by simp [hlt]⟩
  have g1 := q3d hr
  have hbr := hb r (List.mem_of_getElem? hr)
  obtain ⟨_, hre⟩ := List.getElem?_eq_some_iff.1 hr
  rw [List.drop_eq_getElem_cons hlt, hre] at hp
  change o ++ ((if k < r.1 then [(k, r.1 - 1)] else []) ++ q2k (r.2 + 1) (l.drop (i + 1))) = _ at hp
  unfold q37 at g1
  (focus (have hF := (aI (aI @e1 @e3) (aI @g1 @q6t)); (repeat' (first | refine go1 (k:=?_) | with_reducible refine Ny.of ?_ ?_ | (refine Hyp.of ?_; intro hc; (try simp only [hc]); (try simp only [Bh] at hc)))); all_goals clear hF))
  ·rw [if_pos hc, ← List.append_assoc] at hp
   have hl : (o ++ [(k, r.1 - 1)]).length = o.length + 1 := by simp
   (refine Fin.nextW (⟨i + 1, r.2 + 1, o ++ [(k, r.1 - 1)]⟩) ?_ (have hW := (aI @q07 @hl); q0f); (try dsimp only))
   exact ⟨⟨by omega, by rw [hl]; omega, by omega, by omega, hp⟩, by omega⟩
  ·rw [if_neg hc, List.nil_append] at hp
   (refine Fin.nextW (⟨i + 1, r.2 + 1, o⟩) ?_ (have hW := @q07; q0f); (try dsimp only))
   exact ⟨⟨by omega, by omega, by omega, by omega, hp⟩, by omega⟩
 ·rw [List.drop_eq_nil_of_le (show l.length ≤ i by omega)] at hp
  change o ++ qqb (k, 1000000000) = _ at hp
  (focus (have hF := (aI @e1 (aI @e3 @q6t)); (repeat' (first | refine go1 (k:=?_) | with_reducible refine Ny.of ?_ ?_ | (refine Hyp.of ?_; intro hc; (try simp only [hc]); (try simp only [Bh] at hc)))); all_goals clear hF))
  ·rw [show qqb (k, 1000000000) = [(k, 1000000000)] from if_pos hc] at hp
   rw [← hp]
   exact qgr (.sl 2 (q08 (o ++ [(k, 1000000000)])))
  ·rw [show qqb (k, 1000000000) = [] from if_neg hc, List.append_nil] at hp
   rw [← hp]
   exact qgr (.sl 2 (q08 o))
theorem z9i (a b x y : List Rn) (hb : Ev (En Tryz.prog rfl).P 156 [.sl 2 (q08 b)] (.ret (.sl 2 (q08 y)))) (ho : Ev (En Tryz.prog rfl).P 161 [.sl 2 (q08 y)] (.ret (.sl 2 (q08 (q5c y)))))
 (hm : Ev (En Tryz.prog rfl).P 160 [.sl 2 (q08 a), .sl 2 (q08 (q5c y))] (.ret (.sl 2 (q08 x)))) : Ev (En Tryz.prog rfl).P 139 [.sl 2 (q08 a), .sl 2 (q08 b)] (.ret (.sl 2 (q08 x))) := by
 refine Ev.of_body it_k139 (by simp) (Run.start ?_)
 unfold t_k139
 (have hF := True.intro; refine q01 (k:=?_); clear hF)
 refine q00 [.sl 2 (q08 b)] (he := hb) (k:=?_)
 (have hF := True.intro; refine q01 (k:=?_); clear hF)
 refine q00 [.sl 2 (q08 y)] (he := ho) (k:=?_)
 (have hF := True.intro; refine q01 (k:=?_); clear hF)
 refine q00 [.sl 2 (q08 a), .sl 2 (q08 (q5c y))] (he := hm) (k:=?_)
 (have hF := True.intro; refine q01 (k:=?_); clear hF)
 exact qgr (.sl 2 (q08 x))
theorem z9l (a b x : List Rn) (hx : x.length ≤ 1000000000) (hm : Ev (En Tryz.prog rfl).P 139 [.sl 2 (q08 a), .sl 2 (q08 b)] (.ret (.sl 2 (q08 x)))) : Ev (En Tryz.prog rfl).P 107 [.sl 2 (q08 a), .sl 2 (q08 b)] (.ret (.bool (decide (x = [])))) := by
 refine Ev.of_body it_k107 (by simp) (Run.start ?_)
 unfold t_k107
 have e1 := q0x x
 (have hF := @e1; refine q01 (k:=?_); clear hF)
 refine q00 [.sl 2 (q08 a), .sl 2 (q08 b)] (he := hm) (k:=?_)
 (have hF := @e1; refine q01 (k:=?_); clear hF)
 have hd : decide (x = []) = decide ((x.length : Int) = 0) := by
  rw [decide_eq_decide]
  constructor
  ·intro h; rw [h]; rfl
  ·intro h; exact List.eq_nil_of_length_eq_zero (by omega)
 rw [hd]
 exact Fin.tmp' rfl rfl

theorem z7c (x : Rn) (n : Int) : inR (qqb x) n ↔ x.1 ≤ n ∧ n ≤ x.2 := by
 unfold qqb
 by_cases h : x.1 ≤ x.2
 ·rw [if_pos h]; exact q79 x n
 ·rw [if_neg h]
  constructor
  ·intro hh; exact absurd hh (q2e n)
  ·intro hh; omega
theorem qhg : ∀ {l m : List Rn}, Can l → Can m → ∀ n, inR (q5v l m) n ↔ inR l n ∧ inR m n
 | [], m, _, _, n => by
  unfold q5v
  constructor
  ·intro h; exact absurd h (q2e n)
  ·intro h; exact absurd h.1 (q2e n)
 | x :: l, [], _, _, n => by
  rw [qa0]
  constructor
  ·intro h; exact absurd h (q2e n)
  ·intro h; exact absurd h.2 (q2e n)
 | x :: l, y :: m, hl, hm, n => by
  rw [q8f, q2l, z7c, q0w, q0w]
  have a := fun h => hl.above (n := n) h
  have b := fun h => hm.above (n := n) h
  unfold qq1
  by_cases h : x.2 < y.2
  ·rw [if_pos h, qhg hl.tail hm n, q0w]
   constructor
   ·rintro (h1 | ⟨h1, h2⟩)
    ·exact ⟨.inl (by omega), .inl (by omega)⟩
    ·exact ⟨.inr h1, h2⟩
   ·rintro ⟨h1 | h1, h2⟩
    ·rcases h2 with h2 | h2
     ·exact .inl (by omega)
     ·have := b h2; omega
    ·exact .inr ⟨h1, h2⟩
  ·rw [if_neg h, qhg hl hm.tail n, q0w]
   constructor
   ·rintro (h1 | ⟨h1, h2⟩)
    ·exact ⟨.inl (by omega), .inl (by omega)⟩
    ·exact ⟨h1, .inr h2⟩
   ·rintro ⟨h1, h2 | h2⟩
    ·rcases h1 with h1 | h1
     ·exact .inl (by omega)
     ·have := a h1; omega
    ·exact .inr ⟨h1, h2⟩
termination_by l m => l.length + m.length
theorem qdt : ∀ l m : List Rn, (q5v l m).length ≤ l.length + m.length
 | [], m => by unfold q5v; simp
 | x :: l, [] => by rw [qa0]; simp
 | x :: l, y :: m => by
  rw [q8f, List.length_append]
  have h0 : (qqb (qq1 x y)).length ≤ 1 := by unfold qqb; split <;> simp
  by_cases h : x.2 < y.2
  ·rw [if_pos h]
   have := qdt l (y :: m)
   simp only [List.length_cons] at *
   omega
  ·rw [if_neg h]
   have := qdt (x :: l) m
   simp only [List.length_cons] at *
   omega
termination_by l m => l.length + m.length
theorem q9z : ∀ {l : List Rn} (k : Int), Can l → 1 ≤ k → (∀ n, inR l n → k ≤ n) → ∀ n, inR (q2k k l) n ↔ k ≤ n ∧ n ≤ 1000000000 ∧ ¬ inR l n
 | [], k, _, hk, _, n => by
  unfold q2k
  rw [z7c]
  constructor
  ·intro h; exact ⟨h.1, h.2, q2e n⟩
  ·intro h; exact ⟨h.1, h.2.1⟩
 | r :: l, k, hl, hk, hb, n => by
  have hr := (Can.cons_iff.1 hl).1
  unfold okR at hr
  have hkr : k ≤ r.1 := hb r.1 ((q0w r l _).2 (.inl ⟨Int.le_refl _, hr.2.1⟩))
  have ih := q9z (l := l) (r.2 + 1) hl.tail (by omega) (fun n h => by have := hl.above h; omega) n
  show inR ((if k < r.1 then [(k, r.1 - 1)] else []) ++ q2k (r.2 + 1) l) n ↔ _
  rw [q2l, ih, q0w]
  have a := fun h => hl.above (n := n) h
  by_cases h : k < r.1
  ·rw [if_pos h, q79]
   constructor
   ·rintro (h1 | ⟨h1, h2, h3⟩)
    ·exact ⟨by omega, by omega, fun h4 => by
      rcases h4 with h4 | h4
      ·omega
      ·have := a h4; omega⟩
    ·exact ⟨by omega, h2, fun h4 => by
      rcases h4 with h4 | h4
      ·omega
      ·exact h3 h4⟩
   ·rintro ⟨h1, h2, h3⟩
    by_cases h4 : n < r.1
    ·exact .inl (by omega)
    ·refine .inr ⟨?_, h2, fun h5 => h3 (.inr h5)⟩
     have : ¬ (r.1 ≤ n ∧ n ≤ r.2) := fun h5 => h3 (.inl h5)
     omega
  ·rw [if_neg h]
   constructor
   ·rintro (h1 | ⟨h1, h2, h3⟩)
    ·exact absurd h1 (q2e n)
    ·exact ⟨by omega, h2, fun h4 => by
      rcases h4 with h4 | h4
      ·omega
      ·exact h3 h4⟩
   ·rintro ⟨h1, h2, h3⟩
    refine .inr ⟨?_, h2, fun h5 => h3 (.inr h5)⟩
    have : ¬ (r.1 ≤ n ∧ n ≤ r.2) := fun h5 => h3 (.inl h5)
    omega
theorem q6e : ∀ (l : List Rn) (k : Int), (q2k k l).length ≤ l.length + 1
 | [], k => by unfold q2k qqb; split <;> simp
 | r :: l, k => by
  have := q6e l (r.2 + 1)
  show ((if k < r.1 then [(k, r.1 - 1)] else []) ++ q2k (r.2 + 1) l).length ≤ _
  rw [List.length_append, List.length_cons]
  split <;> simp <;> omega
theorem qfm {l : List Rn} (h : Can l) (n : Int) : inR (q5c l) n ↔ 1 ≤ n ∧ n ≤ 1000000000 ∧ ¬ inR l n :=
 q9z 1 h (by omega) (fun n hn => (h.bound hn).1) n
def q5f (a b : List Rn) : List Rn := q5v (q10 a) (q10 (q5c (q10 b)))
theorem q6o (a b : List Rn) (n : Int) : inR (q5f a b) n ↔ mem1 a n ∧ ¬ mem1 b n := by
 unfold q5f
 rw [qhg (q1e _) (q1e _), q2s, q2s]
 constructor
 ·rintro ⟨h1, h2⟩
  refine ⟨h1, fun h3 => ?_⟩
  have := (qfm (q1e b) n).1 h2.2.2
  exact this.2.2 ((q2s b n).2 h3)
 ·rintro ⟨h1, h2⟩
  refine ⟨h1, h1.1, h1.2.1, (qfm (q1e b) n).2 ⟨h1.1, h1.2.1, fun h3 => h2 ((q2s b n).1 h3)⟩⟩

def zfw : List SOp := [⟨some 2,.box 26 (.tmp 0),none⟩,⟨some 3,.box 26 (.tmp 1),none⟩,⟨some 4,.assign (.const (.bool false)),none⟩]
instance : Live zfw := ⟨[0,1]⟩
def zfv : List SOp := [⟨some 8,.load 26 (.tmp 2),none⟩,⟨some 9,.buildSlice 116 1 #[(0,.tmp 8)],none⟩,⟨some 10,.call ⟨.value (.func 96),#[.tmp 9],#[116]⟩,none⟩,⟨some 11,.load 26 (.tmp 3),none⟩,⟨some 12,.buildSlice 116 1 #[(0,.tmp 11)],none⟩,⟨some 13,.call ⟨.value (.func 96),#[.tmp 12],#[116]⟩,none⟩,⟨some 5,.assign (.tmp 10),none⟩,⟨some 6,.assign (.tmp 13),none⟩]
instance : Live zfv := ⟨[2,3]⟩
def zfu : List SOp := [⟨some 14,.move (.const (.int .i64 0)),none⟩]
instance : Live zfu := ⟨[5,6]⟩
def zft : List SOp := [⟨some 15,.binOp .lss 3 (.tmp 14) (.const (.int .i64 16)) 3,none⟩]
instance : Live zft := ⟨[5,6,14]⟩
def zfs : List SOp := [⟨some 16,.move (.tmp 14),none⟩,⟨some 7,.assign (.tmp 16),none⟩]
instance : Live zfs := ⟨[5,6,14]⟩
def zfr : List SOp := [⟨some 17,.move (.tmp 5),none⟩,⟨some 18,.move (.tmp 7),none⟩,⟨some 19,.nilCheck (.tmp 17),none⟩,⟨some 20,.indexAddr 151 (.tmp 19) (.tmp 18),none⟩,⟨some 21,.load 149 (.tmp 20),none⟩,⟨some 22,.call ⟨.builtin .len,#[.tmp 21],#[149]⟩,none⟩,⟨some 23,.binOp .gtr 3 (.tmp 22) (.const (.int .i64 0)) 3,none⟩,⟨some 24,.move (.tmp 23),none⟩,⟨some 25,.move (.tmp 5),some ((some 24),true)⟩,⟨some 26,.move (.tmp 7),some ((some 24),true)⟩,⟨some 27,.nilCheck (.tmp 25),some ((some 24),true)⟩,⟨some 28,.indexAddr 151 (.tmp 27) (.tmp 26),some ((some 24),true)⟩,⟨some 29,.load 149 (.tmp 28),some ((some 24),true)⟩,⟨some 30,.move (.tmp 6),some ((some 24),true)⟩,⟨some 31,.move (.tmp 7),some ((some 24),true)⟩,⟨some 32,.nilCheck (.tmp 30),some ((some 24),true)⟩,⟨some 33,.indexAddr 151 (.tmp 32) (.tmp 31),some ((some 24),true)⟩,⟨some 34,.load 149 (.tmp 33),some ((some 24),true)⟩,⟨some 35,.call ⟨.value (.func 107),#[.tmp 29,.tmp 34],#[149,149]⟩,some ((some 24),true)⟩,⟨some 36,.unOp .not 4 (.tmp 35),some ((some 24),true)⟩,⟨some 37,.pick (.tmp 24) (.tmp 36) (.const (.bool false)),none⟩]
instance : Live zfr := ⟨[5,6,7,14]⟩
def zfq : List SOp := [⟨some 4,.assign (.const (.bool false)),none⟩]
instance : Live zfq := ⟨[]⟩
def zfp : List SOp := [⟨some 38,.binOp .add 3 (.tmp 14) (.const (.int .i64 1)) 3,none⟩,⟨some 14,.move (.tmp 38),none⟩]
instance : Live zfp := ⟨[5,6,14]⟩
def zfo : List SOp := [⟨some 4,.assign (.const (.bool true)),none⟩]
instance : Live zfo := ⟨[]⟩
def qsn : SC :=
 (.seq (.ops false zft) (.seq (.cond (.tmp 15) .skip (.exit 0)) (.seq (.block 1 (.seq (.ops false zfs) (.seq (.ops true zfr) (.cond (.tmp 37) (.seq (.ops false zfq) .ret) .skip)))) (.ops false zfp))))
def t_k56 : SC :=
 (.seq (.ops false zfw) (.seq (.ops true zfv) (.seq (.seq (.ops false zfu) (.block 0 (.loop qsn))) (.seq (.ops false zfo) .ret))))
theorem it_k56 : FnIs Tryz.prog 56 39 [.tmp 4] t_k56 := ⟨Tryz.f56, _, Tryz.func56, rfl, rfl, rfl, rfl, by kernel_rfl⟩

def zce : List SOp := [⟨some 1,.box 26 (.tmp 0),none⟩,⟨some 2,.assign (.const (.bool false)),none⟩]
instance : Live zce := ⟨[0]⟩
def zcd : List SOp := [⟨some 3,.load 26 (.tmp 1),none⟩,⟨some 4,.call ⟨.value (.func 132),#[.tmp 3],#[26]⟩,none⟩,⟨some 5,.binOp .eql 3 (.tmp 4) (.const (.int .i64 0)) 3,none⟩,⟨some 2,.assign (.tmp 5),none⟩]
instance : Live zcd := ⟨[1]⟩
def t_k92 : SC :=
 (.seq (.ops false zce) (.seq (.ops false zcd) .ret))
theorem it_k92 : FnIs Tryz.prog 92 6 [.tmp 2] t_k92 := ⟨Tryz.f92, _, Tryz.func92, rfl, rfl, rfl, rfl, by kernel_rfl⟩

theorem ev_k160 (a b : List Rn) (ha : a.length ≤ 300000000) (hb : b.length ≤ 300000000) : Ev (En Tryz.prog rfl).P 160 [.sl 2 (q08 a), .sl 2 (q08 b)] (.ret (.sl 2 (q08 (q5v (q10 a) (q10 b))))) :=
 z9f a b _ _ (qeb a (by omega)) (qeb b (by omega)) (by have := q20 a; omega) (by have := q20 b; omega)
theorem zli (a b : List Rn) (ha : a.length ≤ 200000000) (hb : b.length ≤ 200000000) : Ev (En Tryz.prog rfl).P 139 [.sl 2 (q08 a), .sl 2 (q08 b)] (.ret (.sl 2 (q08 (q5f a b)))) := by
 have h1 := q20 b
 have h2 := q6e (q10 b) 1
 exact z9i a b _ _ (qeb b (by omega)) (ev_k161 _ (by omega) fun r hr => by have := (q1e b).2 r hr; unfold okR at this; omega) (ev_k160 a _ (by omega) (by unfold q5c; omega))
theorem q8e (a b : List Rn) : (q5f a b).length ≤ a.length + b.length + 1 := by
 have h1 := qdt (q10 a) (q10 (q5c (q10 b)))
 have h2 := q20 a
 have h3 := q20 (q5c (q10 b))
 have h4 := q6e (q10 b) 1
 have h5 := q20 b
 unfold q5f q5c at *
 omega
theorem ev_k107 (a b : List Rn) (ha : a.length ≤ 200000000) (hb : b.length ≤ 200000000) : Ev (En Tryz.prog rfl).P 107 [.sl 2 (q08 a), .sl 2 (q08 b)] (.ret (.bool (decide (q5f a b = [])))) :=
 z9l a b _ (by have := q8e a b; omega) (zli a b ha hb)
def za8 (t u : Tab) : Prop := ∀ r, r < 16 → q5f (t.getD r []) (u.getD r []) = []
open Classical in
noncomputable def q0n (p q : Pst) : Bool := decide (za8 (q0k [p]) (q0k [q]))
theorem qbg {p q : Pst} (h : za8 (q0k [p]) (q0k [q])) : q0n p q = true := by
 classical
 exact decide_eq_true h
theorem q9l {p q : Pst} (h : ¬ za8 (q0k [p]) (q0k [q])) : q0n p q = false := by
 classical
 exact decide_eq_false h
theorem qhf : ∀ (l m : List Rn), ∀ r ∈ q5v l m, r.1 ≤ r.2
 | [], m, r, h => by unfold q5v at h; simp at h
 | x :: l, [], r, h => by rw [qa0] at h; simp at h
 | x :: l, y :: m, r, h => by
  rw [q8f] at h
  rcases List.mem_append.1 h with h | h
  ·unfold qqb at h
   split at h
   ·rename_i hc
    simp at h
    subst h
    exact hc
   ·simp at h
  ·split at h
   ·exact qhf l (y :: m) r h
   ·exact qhf (x :: l) m r h
termination_by l m => l.length + m.length
theorem zaj {t u : Tab} : za8 t u ↔ ∀ r, r < 16 → ∀ n, inT t r n → inT u r n := by
 constructor
 ·intro h r hr n hn
  by_cases h' : inT u r n
  ·exact h'
  ·have := (q6o (t.getD r []) (u.getD r []) n).2 ⟨hn, h'⟩
   rw [h r hr] at this
   exact absurd this (q2e n)
 ·intro h r hr
  cases hm : q5f (t.getD r []) (u.getD r []) with
  | nil => rfl
  | cons x l =>
   have hx : x ∈ q5f (t.getD r []) (u.getD r []) := by rw [hm]; exact List.mem_cons_self
   have hok := qhf _ _ x hx
   have := (q6o (t.getD r []) (u.getD r []) x.1).1 ⟨x, hx, Int.le_refl _, hok⟩
   exact absurd (h r hr x.1 this.1) this.2
theorem q2d {p q : Pst} : q0n p q = true ↔ ∀ r, r < 16 → ∀ n, inP p r n → inP q r n := by
 have h : za8 (q0k [p]) (q0k [q]) ↔ ∀ r, r < 16 → ∀ n, inP p r n → inP q r n := by
  rw [zaj]
  constructor
  ·intro h r hr n
   have := h r hr n
   rw [q6f hr, q6f hr] at this
   simpa using this
  ·intro h r hr n
   rw [q6f hr, q6f hr]
   simpa using h r hr n
 rw [← h]
 constructor
 ·intro h1
  by_cases h2 : za8 (q0k [p]) (q0k [q])
  ·exact h2
  ·rw [q9l h2] at h1; simp at h1
 ·exact qbg
theorem z8t (b : List Rn) : q5f [] b = [] := by
 unfold q5f
 rw [q4s Can.nil]
 unfold q5v
 rfl
theorem ev_k56 (p q : Pst) (hp : wt p ≤ 100000000) (hq : wt q ≤ 100000000) : Ev (En Tryz.prog rfl).P 56 [q0h p, q0h q] (.ret (.bool (q0n p q))) := by
 refine Ev.of_body it_k56 (by simp) (Run.start ?_)
 unfold t_k56 q0h
 have c1 := qfy [p] (by simp) (by simp; omega)
 have c2 := qfy [q] (by simp) (by simp; omega)
 have ht : TabLe (q0k [p]) (wt p) := by simpa using q1j [p]
 have hu : TabLe (q0k [q]) (wt q) := by simpa using q1j [q]
 have hr := @qbg p q
 have hr' := @q9l p q
 (have hF := True.intro; refine q01 (k:=?_); clear hF)
 refine q00 [.sl 2 (q1r [p])] (he := c1) (k:=?_)
 (have hF := True.intro; refine q01 (k:=?_); clear hF)
 refine q00 [.sl 2 (q1r [q])] (he := c2) (k:=?_)
 clear c1 c2
 generalize q0k [p] = t at ht hr hr' ⊢
 generalize q0k [q] = u at hu hr hr' ⊢
 have e1 : (q1w t).length = 16 := by rw [q5l, ht.1]
 have e2 : (q1w u).length = 16 := by rw [q5l, hu.1]
 (have hF := (aI @e1 @e2); refine q01 (k:=?_); clear hF)
 refine Run.while (σ := Nat) (fun i => ⟨tms [(5, .sptr (q1w t)), (6, .sptr (q1w u)), (14, .int .i64 (i : Int))], mms []⟩) (fun i => i ≤ 16 ∧ ∀ r, r < i → q5f (t.getD r []) (u.getD r []) = []) (fun i => 16 - i) 0 (have hW := @q1d; q0f) ⟨Nat.zero_le _, fun j hj => absurd hj (Nat.not_lt_zero _)⟩ ?_
 rintro i ⟨hi, hp⟩
 unfold qsn
 by_cases hlt : i < 16
 ·have hit : i < t.length := by rw [ht.1]; exact hlt
  have hiu : i < u.length := by rw [hu.1]; exact hlt
  have h1 := ht.2 i
  have h2 := hu.2 i
  have g1 := q85 (q6r hit)
  have g2 := q85 (q6r hiu)
  have c3 := ev_k107 (t.getD i []) (u.getD i []) (by omega) (by omega)
  have hs : q5f (t.getD i []) (u.getD i []) = [] → ∀ r, r < i + 1 → q5f (t.getD r []) (u.getD r []) = [] := fun h r hr => by
   by_cases e : r = i
   ·rw [e]; exact h
   ·exact hp r (by omega)
  have e3 := q0x (t.getD i [])
  by_cases hn : t.getD i [] = []
  ·have hs2 := hs (by rw [hn, z8t])
   have e4 : (q08 (t.getD i [])).length = 0 := by rw [e3, hn]; rfl
   (have hF := (aI (aI @e1 @e2) (aI @g1 (aI @g2 @e4))); refine q01 (k:=?_); clear hF)
   (refine Fin.nextW (i + 1) ?_ (have hW := @q1d; q0f); (try dsimp only))
   exact ⟨⟨hlt, hs2⟩, by omega⟩
  ·have e4 : 0 < (t.getD i []).length := List.length_pos_iff.2 hn
   (have hF := (aI (aI @e1 @e2) (aI @g1 (aI @g2 @e3))); refine q01 (k:=?_); clear hF)
   refine q00 [.sl 2 (q08 (t.getD i [])), .sl 2 (q08 (u.getD i []))] (he := c3) (k:=?_)
   (focus (have hF := (aI (aI @e1 @e2) (aI @g1 (aI @g2 @e3))); (repeat' (first | refine go1 (k:=?_) | with_reducible refine Ny.of ?_ ?_ | (refine Hyp.of ?_; intro hc; (try simp only [hc]); (try simp only [Bh] at hc)))); all_goals clear hF))
   ·rw [hr' fun h => hc (h i hlt)]
    exact Fin.tmp' rfl rfl
   ·have hs2 := hs hc
    (refine Fin.nextW (i + 1) ?_ (have hW := @q1d; q0f); (try dsimp only))
    exact ⟨⟨hlt, hs2⟩, by omega⟩
 ·rw [hr fun r hr => hp r (by omega)]
  (have hF := (aI @e1 @e2); refine q01 (k:=?_); clear hF)
  exact Fin.tmp' rfl rfl
theorem z7l (p : Pst) (hp : wt p ≤ 50000000) : Ev (En Tryz.prog rfl).P 92 [q0h p] (.ret (.bool (decide (q3i p = 0)))) := by
 refine Ev.of_body it_k92 (by simp) (Run.start ?_)
 unfold t_k92 q0h
 (have hF := True.intro; refine q01 (k:=?_); clear hF)
 refine q00 [q0h p] (he := ev_k132 p hp) (k:=?_)
 (have hF := True.intro; refine q01 (k:=?_); clear hF)
 exact Fin.tmp' rfl rfl

def qxs : List SOp := [⟨some 3,.box 26 (.tmp 0),none⟩,⟨some 4,.box 26 (.tmp 1),none⟩,⟨some 6,.alloc 26,none⟩]
instance : Live qxs := ⟨[0,1,2]⟩
def qxr : List SOp := [⟨some 10,.load 26 (.tmp 3),none⟩,⟨some 11,.buildSlice 116 1 #[(0,.tmp 10)],none⟩,⟨some 12,.call ⟨.value (.func 96),#[.tmp 11],#[116]⟩,none⟩,⟨some 13,.load 26 (.tmp 4),none⟩,⟨some 14,.buildSlice 116 1 #[(0,.tmp 13)],none⟩,⟨some 15,.call ⟨.value (.func 96),#[.tmp 14],#[116]⟩,none⟩,⟨some 7,.assign (.tmp 12),none⟩,⟨some 8,.assign (.tmp 15),none⟩]
instance : Live qxr := ⟨[2,3,4,6]⟩
def qxq : List SOp := [⟨some 16,.move (.const (.int .i64 0)),none⟩]
instance : Live qxq := ⟨[2,6,7,8]⟩
def qxp : List SOp := [⟨some 17,.binOp .lss 3 (.tmp 16) (.const (.int .i64 16)) 3,none⟩]
instance : Live qxp := ⟨[2,6,7,8,16]⟩
def qxo : List SOp := [⟨some 18,.move (.tmp 16),none⟩,⟨some 9,.assign (.tmp 18),none⟩]
instance : Live qxo := ⟨[2,6,7,8,16]⟩
def qxn : List SOp := [⟨some 19,.move (.tmp 7),none⟩,⟨some 20,.move (.tmp 9),none⟩,⟨some 21,.move (.tmp 2),none⟩,⟨some 22,.move (.tmp 7),none⟩,⟨some 23,.move (.tmp 9),none⟩,⟨some 24,.nilCheck (.tmp 22),none⟩,⟨some 25,.indexAddr 151 (.tmp 24) (.tmp 23),none⟩,⟨some 26,.load 149 (.tmp 25),none⟩,⟨some 27,.move (.tmp 8),none⟩,⟨some 28,.move (.tmp 9),none⟩,⟨some 29,.nilCheck (.tmp 27),none⟩,⟨some 30,.indexAddr 151 (.tmp 29) (.tmp 28),none⟩,⟨some 31,.load 149 (.tmp 30),none⟩,⟨some 32,.call ⟨.value (.tmp 21),#[.tmp 26,.tmp 31],#[149,149]⟩,none⟩,⟨some 33,.nilCheck (.tmp 19),none⟩,⟨some 34,.indexAddr 151 (.tmp 33) (.tmp 20),none⟩,⟨none,.store 149 (.tmp 34) (.tmp 32),none⟩]
instance : Live qxn := ⟨[2,6,7,8,9,16]⟩
def qxm : List SOp := [⟨some 35,.binOp .add 3 (.tmp 16) (.const (.int .i64 1)) 3,none⟩,⟨some 16,.move (.tmp 35),none⟩]
instance : Live qxm := ⟨[2,6,7,8,16]⟩
def qxl : List SOp := [⟨some 36,.move (.tmp 7),none⟩,⟨some 37,.call ⟨.value (.func 97),#[.tmp 36],#[137]⟩,none⟩,⟨none,.store 26 (.tmp 6) (.tmp 37),none⟩]
instance : Live qxl := ⟨[6,7]⟩
def qj6 : SC :=
 (.seq (.ops false qxp) (.seq (.cond (.tmp 17) .skip (.exit 0)) (.seq (.block 1 (.seq (.ops false qxo) (.ops true qxn))) (.ops false qxm))))
def t_k162 : SC :=
 (.seq (.ops false qxs) (.seq (.ops true qxr) (.seq (.seq (.ops false qxq) (.block 0 (.loop qj6))) (.seq (.ops false qxl) .ret))))
theorem it_k162 : FnIs Tryz.prog 162 38 [.cell 6 26] t_k162 := ⟨Tryz.f162, _, Tryz.func162, rfl, rfl, rfl, rfl, by kernel_rfl⟩

def z1c : List SOp := [⟨some 2,.box 26 (.tmp 0),none⟩,⟨some 3,.box 26 (.tmp 1),none⟩,⟨some 4,.alloc 26,none⟩]
instance : Live z1c := ⟨[0,1]⟩
def z1b : List SOp := [⟨some 5,.load 26 (.tmp 2),none⟩,⟨some 6,.load 26 (.tmp 3),none⟩,⟨some 7,.call ⟨.value (.func 162),#[.tmp 5,.tmp 6,.func 139],#[26,26,186]⟩,none⟩,⟨none,.store 26 (.tmp 4) (.tmp 7),none⟩]
instance : Live z1b := ⟨[2,3,4]⟩
def t_k140 : SC :=
 (.seq (.ops false z1c) (.seq (.ops false z1b) .ret))
theorem it_k140 : FnIs Tryz.prog 140 8 [.cell 4 26] t_k140 := ⟨Tryz.f140, _, Tryz.func140, rfl, rfl, rfl, rfl, by kernel_rfl⟩

theorem new_k96 (ps : List Pst) (hl : ps.length ≤ 1000000000) (hw : (ps.map wt).sum ≤ 900000000) : EvNew (En Tryz.prog rfl).P 96 [.sl 2 (q1r ps)] (q1w (q0k ps)) := by
 refine EvNew.of_body it_k96 (by simp) (Run.start ?_)
 unfold t_k96
 have e0 : (q1r ps).length = ps.length := qaf _
 (have hF := @e0; refine q1l (k:=?_); clear hF)
 refine Run.wk (Wk.trans (Wk.own_cells (k := 10) (cs' := q52 q70) rfl rfl ?_) (Wk.toL [(3, .ptr 10 0), (11, .sl 2 (q1r ps)), (12, .int .i64 ps.length), (13, .int .i64 0)] [(10, .cells (q52 q70))] ⟨rfl, rfl, rfl, rfl, trivial⟩ ⟨rfl, trivial⟩ ⟨rfl, q0b ps, rfl, rfl, trivial⟩ ⟨q2q _ _, trivial⟩)) ?_
 ·intro i x y hx hy
  have hx' : (List.replicate 16 AVal.nil)[i]? = some x := hx
  rw [List.getElem?_replicate] at hx'
  have hy' : (List.replicate 16 (AVal.own 2 []))[i]? = some y := hy
  rw [List.getElem?_replicate] at hy'
  split at hx'
  ·rename_i h16
   rw [if_pos h16] at hy'
   cases hx'; cases hy'
   exact .inr ⟨rfl, 2, rfl⟩
  ·cases hx'
 refine Run.range ps.length (fun i => ⟨tms [(3, .ptr 10 0), (11, .sl 2 (q1r ps)), (12, .int .i64 ps.length), (13, .int .i64 i)], mms [(10, .cells (q52 ((ps.take i).foldl q1m q70)))]⟩) (Wk.refl _ _) (fun i hi => ?_) ?_
 ·have hq0 := TabLe.all qas (ps.take i)
  obtain ⟨p, hp⟩ : ∃ p, ps[i]? = some p := ⟨ps[i], by simp [hi]⟩
  rw [q34 q1m q70 ps hp]
  have hsum : ((ps.take i).map wt).sum + wt p ≤ (ps.map wt).sum := by
   have : ((ps.take (i + 1)).map wt).sum ≤ (ps.map wt).sum := by rw [List.map_take]; exact q95 _
   rw [List.take_add_one, hp] at this
   simpa using this
  generalize (ps.take i).foldl q1m q70 = u at hq0 ⊢
  generalize ((ps.take i).map wt).sum = m at hq0 hsum
  have hwt : wt p = p.vec.length + p.cloud.length := rfl
  have hv : p.vec.length ≤ 1000000000 := by omega
  have hc : p.cloud.length ≤ 1000000000 := by omega
  have e1 : ((i : Int) < (ps.length : Int)) = True := by simp only [eq_iff_iff, iff_true]; omega
  have e2 : (0 ≤ (i : Int)) = True := by simp
  have e3 : (q1r ps)[i]? = some (.agg [.sl 1 (q05 p.vec), .sl 3 (q0c p.cloud)]) := qeh hp
  have e4 : (q05 p.vec).length = p.vec.length := q0g _
  have e5 : (q0c p.cloud).length = p.cloud.length := q1h _
  have e13 : IntKind.i64.wrap ((i : Int) + 1) = ((i + 1 : Nat) : Int) := by rw [q3h (by omega)]; omega
  unfold q9p
  (have hF := (aI (aI @e0 (aI @e1 @e2)) (aI @e3 (aI @e4 @e5))); refine q1l (k:=?_); clear hF)
  refine Run.wk (Wk.toL [(3, .ptr 10 0), (11, .sl 2 (q1r ps)), (12, .int .i64 ps.length), (13, .int .i64 i), (5, .ptr 5 0), (20, .int .i64 (min p.vec.length 16)), (21, .int .i64 0)] [(10, .cells (q52 u)), (5, .cells [.sl 1 (q05 p.vec), .sl 3 (q0c p.cloud)])] ⟨rfl, rfl, rfl, rfl, rfl, rfl, rfl, trivial⟩ ⟨rfl, rfl, trivial⟩ ⟨rfl, q0b ps, rfl, rfl, rfl, rfl, rfl, trivial⟩ ⟨q2q _ _, by simp [ABlk.no, AVal.noC, AVal.no, AVal.stb, q03, q04], trivial⟩) ?_
  refine zjq (.sl 2 (q1r ps)) (q0b ps) _ _ p hv u (n0 := 0 + m) hq0 (by omega) ?_
  (have hF := (aI (aI @e0 (aI @e1 @e2)) (aI @e3 (aI @e4 @e5))); refine q1l (k:=?_); clear hF)
  refine Run.wk (Wk.toL [(3, .ptr 10 0), (11, .sl 2 (q1r ps)), (12, .int .i64 ps.length), (13, .int .i64 i), (43, .sl 3 (q0c p.cloud)), (44, .int .i64 p.cloud.length), (45, .int .i64 0)] [(10, .cells (q52 (q5s p.vec u)))] ⟨rfl, rfl, rfl, rfl, rfl, rfl, rfl, trivial⟩ ⟨rfl, trivial⟩ ⟨rfl, q0b ps, rfl, rfl, q04 _, rfl, rfl, trivial⟩ ⟨q2q _ _, trivial⟩) ?_
  refine zjp (.sl 2 (q1r ps)) (q0b ps) _ _ p.cloud hc (q5s p.vec u) (n0 := 0 + m + min p.vec.length 16) (TabLe.range hq0 _) (by omega) ?_
  (have hF := (aI (aI @e0 (aI @e1 @e2)) (aI (aI @e3 @e4) (aI @e5 @e13))); refine q1l (k:=?_); clear hF)
  exact Fin.next (Wk.toL _ _ ⟨rfl, rfl, rfl, rfl, trivial⟩ ⟨rfl, trivial⟩ ⟨rfl, q0b ps, rfl, rfl, trivial⟩ ⟨q2q _ _, trivial⟩)
 ·have e1 : ((ps.length : Int) < (ps.length : Int)) = False := by simp
  have e3 : ps.take ps.length = ps := List.take_length
  rw [e3]
  refine Run.wk (Wk.freeze (k := 10) (cs := q52 (q0k ps)) rfl) ?_
  unfold q9p
  (have hF := (aI @e0 @e1); refine q1l (k:=?_); clear hF)
  have hf : (q52 (q0k ps)).map frz = q1w (q0k ps) := by
   unfold q52 q1w
   rw [List.map_map]
   rfl
  refine Fin.done ⟨10, rfl, ?_, q1d _⟩
  rw [← hf]
  rfl
theorem encTs_fz (K : Nat → Bool) (M : Mem) (t : Tab) : (q1w t).map (fzc K M) = q1w t := by
 unfold q1w
 rw [List.map_map]
 rfl
theorem zln (t : Tab) (i : Nat) (l : List Rn) : (q1w t).set i (.sl 2 (q08 l)) = q1w (t.set i l) := by simp [q1w, List.map_set]
theorem z9e (p q : Pst) (g : FuncId) (h : Nat → List Rn) {N : Nat} (hp : wt p ≤ 100000000) (hq : wt q ≤ 100000000) (hN : N ≤ 50000000) (hlen : ∀ r, r < 16 → (h r).length ≤ N)
 (hf : ∀ r, r < 16 → Ev (En Tryz.prog rfl).P g [.sl 2 (q08 ((q0k [p]).getD r [])), .sl 2 (q08 ((q0k [q]).getD r []))] (.ret (.sl 2 (q08 (h r))))) :
 Ev (En Tryz.prog rfl).P 162 [q0h p, q0h q, .fn g []] (.ret (q0h (q6d ((List.range 16).map h)))) := by
 refine Ev.of_body it_k162 (by simp) (Run.start ?_)
 unfold t_k162 q0h
 have c1 := new_k96 [p] (by simp) (by simp; omega)
 have c2 := qfy [q] (by simp) (by simp; omega)
 have ht : TabLe (q0k [p]) (wt p) := by simpa using q1j [p]
 have hu : TabLe (q0k [q]) (wt q) := by simpa using q1j [q]
 (have hF := True.intro; refine q01 (k:=?_); clear hF)
 refine stNew [.sl 2 (q1r [p])] (he := c1) (k:=?_)
 (have hF := True.intro; refine q01 (k:=?_); clear hF)
 refine q00 [.sl 2 (q1r [q])] (he := c2) (k:=?_)
 clear c1 c2
 generalize q0k [p] = t at ht hf ⊢
 generalize q0k [q] = u at hu hf ⊢
 have e2 : (q1w u).length = 16 := by rw [q5l, hu.1]
 have e1 : (q1w t).length = 16 := by rw [q5l, ht.1]
 (have hF := (aI @e1 @e2); refine q01 (k:=?_); clear hF)
 refine Run.while (σ := Nat × Tab) (fun z => ⟨tms [(2, .fn g []), (6, .ptr 6 0), (7, .ptr 12 0), (8, .sptr (q1w u)), (16, .int .i64 (z.1 : Int))], mms [(6, .cells [.nil, .nil]), (12, .cells (q1w z.2))]⟩)
  (fun z => z.1 ≤ 16 ∧ z.2.length = 16 ∧ ∀ r, r < 16 → z.2.getD r [] = if r < z.1 then h r else t.getD r []) (fun z => 16 - z.1) (0, t) (have hW := @q1d; q0f) ⟨Nat.zero_le _, ht.1, fun r _ => by rw [if_neg (Nat.not_lt_zero r)]⟩ ?_
 rintro ⟨i, T⟩ ⟨hi, hT, hrow⟩
 dsimp only at hi hT hrow ⊢
 have e3 : (q1w T).length = 16 := by rw [q5l, hT]
 unfold qj6
 by_cases hlt : i < 16
 ·have hiT : i < T.length := by omega
  have hiu : i < u.length := by rw [hu.1]; exact hlt
  have hrT : T.getD i [] = t.getD i [] := by rw [hrow i hlt, if_neg (by omega)]
  have g1 := q6r hiT
  have g2 := q85 (q6r hiu)
  rw [hrT] at g1
  have c3 := hf i hlt
  have hs : List.take i (q1w T) ++ [AVal.sl 2 (q08 (h i))] ++ List.drop (i + 1) (q1w T) = q1w (T.set i (h i)) := by
   rw [← zln, List.set_eq_take_append_cons_drop, if_pos (by omega), List.append_assoc]
   rfl
  have hrow2 : ∀ r, r < 16 → (T.set i (h i)).getD r [] = if r < i + 1 then h r else t.getD r [] := fun r hr => by
   rw [List.getD_eq_getElem?_getD, List.getElem?_set]
   by_cases e : i = r
   ·subst e
    rw [if_pos rfl, if_pos hiT, if_pos (by omega)]
    rfl
   ·rw [if_neg e, ← List.getD_eq_getElem?_getD, hrow r hr]
    by_cases hr2 : r < i
    ·rw [if_pos hr2, if_pos (by omega)]
    ·rw [if_neg hr2, if_neg (by omega)]
  (have hF := (aI (aI @e2 @e3) (aI @g1 @g2)); refine q01 (k:=?_); clear hF)
  refine q00 [.sl 2 (q08 (t.getD i [])), .sl 2 (q08 (u.getD i []))] (he := c3) (k:=?_)
  (have hF := (aI (aI @e2 @e3) (aI @g1 @g2)); refine q01 (k:=?_); clear hF)
  rw [hs]
  (refine Fin.nextW ((i + 1, T.set i (h i))) ?_ (have hW := @q1d; q0f); (try dsimp only))
  exact ⟨⟨by show i + 1 ≤ 16; omega, by show (T.set i (h i)).length = 16; rw [List.length_set]; exact hT, hrow2⟩, by show 16 - (i + 1) < 16 - i; omega⟩
 ·have hTh : T = (List.range 16).map h := by
   refine List.ext_getElem (by simp [hT]) fun j h1 h2 => ?_
   have := hrow j (by omega)
   rw [if_pos (by omega), List.getD_eq_getElem?_getD, List.getElem?_eq_getElem h1] at this
   simpa using this
  rw [← hTh]
  have hTl : TabLe T N := by
   refine ⟨hT, fun r => ?_⟩
   by_cases hr : r < 16
   ·rw [hrow r hr, if_pos (by omega)]; exact hlen r hr
   ·rw [List.getD_eq_getElem?_getD, List.getElem?_eq_none (by omega)]; exact Nat.zero_le _
  have c4 := z7k T hTl hN
  (have hF := (aI @e2 @e3); refine q01 (k:=?_); clear hF)
  refine qie (fun j => j == 12) (l := [.sptr (q1w T)]) rfl ?hl (by simp [q0j, AVal.stb, q1d]) c4 rfl ?k
  case hl =>
   show [AVal.sptr (((q1w T).map (fzc (fun j => j == 12) _)).drop 0)] = _
   rw [encTs_fz]
   rfl
  unfold q0h
  (have hF := True.intro; refine q01 (k:=?_); clear hF)
  exact Fin.all rfl (by simp [q0j, AVal.stb, q03, q04, fzc, q5w]) rfl
def q63 (p q : Pst) (r : Nat) : List Rn := q5f ((q0k [p]).getD r []) ((q0k [q]).getD r [])
def q2t (p q : Pst) : Pst := q6d ((List.range 16).map (q63 p q))
theorem q61 (p : Pst) (r : Nat) : ((q0k [p]).getD r []).length ≤ wt p := by
 have : TabLe (q0k [p]) (wt p) := by simpa using q1j [p]
 exact this.2 r
theorem ev_k140 (p q : Pst) (hp : wt p ≤ 20000000) (hq : wt q ≤ 20000000) : Ev (En Tryz.prog rfl).P 140 [q0h p, q0h q] (.ret (q0h (q2t p q))) := by
 have c := z9e p q 139 (q63 p q) (N := 40000001) (by omega) (by omega) (by omega) (fun r hr => by
  have h1 := q8e ((q0k [p]).getD r []) ((q0k [q]).getD r [])
  have h4 := q61 p r
  have h5 := q61 q r
  unfold q63
  omega) (fun r hr => zli _ _ (by have := q61 p r; omega) (by have := q61 q r; omega))
 refine Ev.of_body it_k140 (by simp) (Run.start ?_)
 unfold t_k140 q0h
 (have hF := True.intro; refine q01 (k:=?_); clear hF)
 refine q00 [q0h p, q0h q, .fn 139 []] (he := c) (k:=?_)
 unfold q2t q0h
 (have hF := True.intro; refine q01 (k:=?_); clear hF)
 exact Fin.all rfl (by simp [q0j, AVal.stb, q03, q04, fzc, q5w]) rfl

theorem rows_in {h : Nat → List Rn} {r : Nat} (hr : r < 16) (n : Int) : inP (q6d ((List.range 16).map h)) r n ↔ mem1 (h r) n := by
 rw [qh8 _ hr]
 unfold inT
 have : ((List.range 16).map h).getD r [] = h r := by
  rw [List.getD_eq_getElem?_getD, List.getElem?_map, List.getElem?_range hr]
  rfl
 rw [this]
theorem zkk (p : Pst) {r : Nat} (hr : r < 16) (n : Int) : mem1 ((q0k [p]).getD r []) n ↔ inP p r n := by
 show inT (q0k [p]) r n ↔ _
 rw [q6f hr]
 simp
theorem q7s (p q : Pst) {r : Nat} (hr : r < 16) (n : Int) : inP (q2t p q) r n ↔ inP p r n ∧ ¬ inP q r n := by
 unfold q2t
 rw [rows_in hr, ← zkk p hr, ← zkk q hr]
 unfold q63
 constructor
 ·rintro ⟨h1, h2, h3⟩
  exact (q6o _ _ n).1 h3
 ·intro h
  exact ⟨h.1.1, h.1.2.1, (q6o _ _ n).2 h⟩
theorem qgd (p q : Pst) : CanP (q2t p q) := qrv _ (by simp)
theorem qir (p q : Pst) : q0n p (q1t [p, q]) = true := q2d.2 fun r hr n h => by rw [q65 _ hr]; simp [h]
theorem qiq (p q : Pst) : q0n q (q1t [p, q]) = true := q2d.2 fun r hr n h => by rw [q65 _ hr]; simp [h]

def z0f : List SOp := [⟨some 3,.box 168 (.tmp 0),none⟩,⟨some 4,.box 168 (.tmp 1),none⟩,⟨some 6,.alloc 168,none⟩]
instance : Live z0f := ⟨[0,1,2]⟩
def z0e : List SOp := [⟨some 7,.alloc 168,none⟩]
instance : Live z0e := ⟨[2,3,4,6]⟩
def z0d : List SOp := [⟨some 8,.assign (.const (.int .i64 0)),none⟩]
instance : Live z0d := ⟨[2,3,4,6,7]⟩
def z0c : List SOp := [⟨some 9,.move (.tmp 8),none⟩,⟨some 10,.binOp .lss 3 (.tmp 9) (.const (.int .i64 16)) 3,none⟩]
instance : Live z0c := ⟨[2,3,4,6,7,8]⟩
def z0b : List SOp := [⟨some 13,.move (.tmp 8),none⟩,⟨some 14,.move (.tmp 8),none⟩,⟨some 15,.fieldAddr 168 (.tmp 3) 0,none⟩,⟨some 16,.indexAddr 166 (.tmp 15) (.tmp 14),none⟩,⟨some 17,.load 23 (.tmp 16),none⟩,⟨some 18,.move (.tmp 8),none⟩,⟨some 19,.fieldAddr 168 (.tmp 4) 0,none⟩,⟨some 20,.indexAddr 166 (.tmp 19) (.tmp 18),none⟩,⟨some 21,.load 23 (.tmp 20),none⟩,⟨some 22,.move (.tmp 2),none⟩,⟨some 23,.call ⟨.value (.func 166),#[.tmp 17,.tmp 21,.tmp 22],#[23,23,3]⟩,none⟩,⟨some 24,.fieldAddr 168 (.tmp 7) 0,none⟩,⟨some 25,.indexAddr 166 (.tmp 24) (.tmp 13),none⟩,⟨none,.store 23 (.tmp 25) (.tmp 23),none⟩]
instance : Live z0b := ⟨[2,3,4,6,7,8]⟩
def z0a : List SOp := [⟨some 11,.move (.tmp 8),none⟩,⟨some 12,.binOp .add 3 (.tmp 11) (.const (.int .i64 1)) 3,none⟩,⟨some 8,.assign (.tmp 12),none⟩]
instance : Live z0a := ⟨[2,3,4,6,7,8]⟩
def z09 : List SOp := [⟨some 26,.load 168 (.tmp 7),none⟩,⟨none,.store 168 (.tmp 6) (.tmp 26),none⟩]
instance : Live z09 := ⟨[6,7]⟩
def qje : SC :=
 (.seq (.seq (.ops false z0c) (.cond (.tmp 10) .skip (.exit 0))) (.seq (.block 1 (.ops true z0b)) (.ops false z0a)))
def t_k148 : SC :=
 (.seq (.ops false z0f) (.seq (.ops false z0e) (.seq (.seq (.ops false z0d) (.block 0 (.loop qje))) (.seq (.ops false z09) .ret))))
theorem it_k148 : FnIs Tryz.prog 148 27 [.cell 6 168] t_k148 := ⟨Tryz.f148, _, Tryz.func148, rfl, rfl, rfl, rfl, by kernel_rfl⟩

def z3x : List SOp := [⟨some 1,.box 26 (.tmp 0),none⟩,⟨some 2,.alloc 26,none⟩]
instance : Live z3x := ⟨[0]⟩
def z3w : List SOp := [⟨some 3,.load 26 (.tmp 1),none⟩,⟨some 4,.call ⟨.value (.func 127),#[.tmp 3],#[26]⟩,none⟩,⟨some 5,.call ⟨.value (.func 128),#[.tmp 4],#[168]⟩,none⟩,⟨none,.store 26 (.tmp 2) (.tmp 5),none⟩]
instance : Live z3w := ⟨[1,2]⟩
def t_k117 : SC :=
 (.seq (.ops false z3x) (.seq (.ops false z3w) .ret))
theorem it_k117 : FnIs Tryz.prog 117 6 [.cell 2 26] t_k117 := ⟨Tryz.f117, _, Tryz.func117, rfl, rfl, rfl, rfl, by kernel_rfl⟩


def z3k : List SOp := [⟨some 2,.box 26 (.tmp 0),none⟩,⟨some 3,.box 26 (.tmp 1),none⟩,⟨some 4,.alloc 26,none⟩]
instance : Live z3k := ⟨[0,1]⟩
def z3j : List SOp := [⟨some 5,.load 26 (.tmp 2),none⟩,⟨some 6,.call ⟨.value (.func 127),#[.tmp 5],#[26]⟩,none⟩,⟨some 7,.load 26 (.tmp 3),none⟩,⟨some 8,.call ⟨.value (.func 127),#[.tmp 7],#[26]⟩,none⟩,⟨some 9,.call ⟨.value (.func 148),#[.tmp 6,.tmp 8,.const (.int .i64 2)],#[168,168,3]⟩,none⟩,⟨some 10,.call ⟨.value (.func 128),#[.tmp 9],#[168]⟩,none⟩,⟨none,.store 26 (.tmp 4) (.tmp 10),none⟩]
instance : Live z3j := ⟨[2,3,4]⟩
def t_k120 : SC :=
 (.seq (.ops false z3k) (.seq (.ops true z3j) .ret))
theorem it_k120 : FnIs Tryz.prog 120 11 [.cell 4 26] t_k120 := ⟨Tryz.f120, _, Tryz.func120, rfl, rfl, rfl, rfl, by kernel_rfl⟩

def qf3 (h : Nat → List Rn) : Tab := (List.range 16).map h
theorem qk6 (h : Nat → List Rn) {r : Nat} (hr : r < 16) : (qf3 h).getD r [] = h r := by
 unfold qf3
 rw [List.getD_eq_getElem?_getD, List.getElem?_map, List.getElem?_range hr]
 rfl
theorem qd1 (h : Nat → List Rn) : (qf3 h).length = 16 := by simp [qf3]
theorem ev_k148 (A B : List (List Int)) (hA : A.length = 16) (hB : B.length = 16) (h : Nat → List Rn) (rule : Int)
 (hrow : ∀ r, r < 16 → Ev (En Tryz.prog rfl).P 166 [.sl 1 (q05 (A.getD r [])), .sl 1 (q05 (B.getD r [])), .int .i64 rule] (.ret (.sl 1 (q05 (q0q (h r)))))) :
 Ev (En Tryz.prog rfl).P 148 [.agg (q0i A), .agg (q0i B), .int .i64 rule] (.ret (.agg (q0i ((qf3 h).map q0q)))) := by
 refine Ev.of_body it_k148 (by simp) (Run.start ?_)
 unfold t_k148
 have a1 : (q0i A).length = 16 := by simp [q0i, hA]
 have b1 : (q0i B).length = 16 := by simp [q0i, hB]
 have a2 := q4g A
 have b2 := q4g B
 have a3 := q2n A
 have b3 := q2n B
 have hu := qd1 h
 have hget := fun r hr => @qk6 h r hr
 generalize qf3 h = u at hu hget ⊢
 (have hF := (aI (aI @a1 @b1) (aI @a2 @b2)); refine q01 (k:=?_); clear hF)
 refine Run.while (σ := Nat) (fun r => ⟨tms [(2, .int .i64 rule), (3, .ptr 3 0), (4, .ptr 4 0), (6, .ptr 6 0), (7, .ptr 7 0), (8, .int .i64 (r : Int))], mms [(3, .cells (q0i A)), (4, .cells (q0i B)), (6, .cells (List.replicate 16 .nil)), (7, .cells (q29 u r))]⟩)
  (fun r => r ≤ 16) (fun r => 16 - r) 0 (have hW := (aI @a3 (aI @b3 @q74)); q0f) (Nat.zero_le _) ?_
 intro r hr
 have g0 := qcy u hu hr
 unfold qje
 by_cases hlt : r < 16
 ·have g1 := q8j (t := A) (r := r) (by omega)
  have g2 := q8j (t := B) (r := r) (by omega)
  have g5 := qcx u hu hlt
  rw [hget r hlt] at g5
  have hc := hrow r hlt
  have g6 : (q29 u r).take r ++ [AVal.sl 1 (q05 (q0q (h r)))] ++ (q29 u r).drop (r + 1) = q29 u (r + 1) := by rw [← g5, List.set_eq_take_append_cons_drop, if_pos (by omega), List.append_assoc]; rfl
  (have hF := (aI (aI @a1 @b1) (aI @g0 (aI @g1 @g2))); refine q01 (k:=?_); clear hF)
  refine q00 [.sl 1 (q05 (A.getD r [])), .sl 1 (q05 (B.getD r [])), .int .i64 rule] (he := hc) (k:=?_)
  (have hF := (aI (aI @a1 @b1) (aI @g0 (aI @g1 @g2))); refine q01 (k:=?_); clear hF)
  rw [g6]
  (refine Fin.nextW (r + 1) ?_ (have hW := (aI @a3 (aI @b3 @q74)); q0f); (try dsimp only))
  omega
 ·have hre : r = 16 := by omega
  subst hre
  have q1 := qcz u hu
  have q2 : (q0i (u.map q0q)).length = 16 := by simp [q0i, hu]
  have q3 := q4g (u.map q0q)
  rw [q1]
  have htk : (q0i (u.map q0q)).take 16 = q0i (u.map q0q) := List.take_of_length_le (by omega)
  have q4 : (q0i (u.map q0q)).all AVal.plain = true := by
   rw [List.all_eq_true]
   intro x hx
   obtain ⟨l, _, rfl⟩ := List.mem_map.1 hx
   rfl
  have q5 : (List.replicate 16 AVal.nil).drop 16 = [] := rfl
  (have hF := (aI (aI @q2 (aI @q3 @q4)) (aI @q5 (aI @htk @List.length_replicate.{0}))); refine q01 (k:=?_); clear hF)
  refine Fin.all (xs := [.agg (q0i (u.map q0q))]) ?_ (by simp [q0j, AVal.stb, q2n]) rfl
  simp [q5a, q8x, qby, TE_0, TE_3, TE_16, TE_23, TE_24, TE_26, zmu, zmt, zms, z88, zmr, zmq, TD.isAgg, upd, tms, q2, htk, qeg]
theorem qhy (p : Pst) (hw : wt p ≤ 800000000) : Ev (En Tryz.prog rfl).P 127 [q0h p] (.ret (.agg (q0i (q7t [p])))) :=
 z9k p (q7t [p]) (qdu [p]) (ev_k129 [p] (by simp) (by simpa using hw))
theorem qg3 (K : Nat → Bool) (M : Mem) (t : List (List Int)) : (q0i t).map (fzc K M) = q0i t := by
 unfold q0i
 rw [List.map_map]
 rfl
theorem qhz (p : Pst) (hw : wt p ≤ 40000000) : Ev (En Tryz.prog rfl).P 117 [q0h p] (.ret (q0h (q1a p))) := by
 have c1 := qhy p (by omega)
 have c2 := zlj (q0k [p]) (n := wt p) (by simpa using q1j [p]) (by omega)
 refine Ev.of_body it_k117 (by simp) (Run.start ?_)
 unfold t_k117 q0h
 have hS := q2n
 have hL := qg3
 (have hF := True.intro; refine q01 (k:=?_); clear hF)
 refine q00 [q0h p] (he := c1) (k:=?_)
 (have hF := True.intro; refine q01 (k:=?_); clear hF)
 refine q00 [.agg (q0i (q7t [p]))] (he := c2) (k:=?_)
 unfold q1a q0h
 (have hF := True.intro; refine q01 (k:=?_); clear hF)
 exact Fin.all rfl (by simp [q0j, AVal.stb, q03, q04, fzc, q5w]) rfl
theorem qoq {q : Int → Prop} {t : List Int} (h : Turns q t) (m : Int) : odd (cnt t m) = true ↔ q m := by rw [zjy, h.mem]
theorem q7o (l : List Rn) : Turns (inR (q10 l)) (q0q l) := qcn (q1e l)
theorem qfc (l : List Rn) : (q0q l).length ≤ 2 * l.length := by
 have := q20 l
 unfold q0q
 rw [qar]
 omega
theorem z73 (p : Pst) {r : Nat} (hr : r < 16) : (q7t [p]).getD r [] = q0q ((q0k [p]).getD r []) := zk4 [p] hr
theorem z8r (p q : Pst) (r : Nat) (m : Int) : mem1 (q63 p q r) m ↔ mem1 ((q0k [p]).getD r []) m ∧ ¬ mem1 ((q0k [q]).getD r []) m := by
 unfold q63
 constructor
 ·intro h
  exact (q6o _ _ m).1 h.2.2
 ·intro h
  exact ⟨h.1.1, h.1.2.1, (q6o _ _ m).2 h⟩
theorem zb9 (p q : Pst) (hp : wt p ≤ 20000000) (hq : wt q ≤ 20000000) (r : Nat) (hr : r < 16) :
 Ev (En Tryz.prog rfl).P 166 [.sl 1 (q05 ((q7t [p]).getD r [])), .sl 1 (q05 ((q7t [q]).getD r [])), .int .i64 2] (.ret (.sl 1 (q05 (q0q (q63 p q r))))) := by
 rw [z73 p hr, z73 q hr]
 have h1 := q61 p r
 have h2 := q61 q r
 refine ev_k166 (q7o _) (q7o _) (q7o _) (by have := qfc ((q0k [p]).getD r []); omega) (by have := qfc ((q0k [q]).getD r []); omega) 2 (fun x y => x && !y) (.inr ⟨rfl, rfl⟩) fun m => ?_
 rw [Bool.and_eq_true, Bool.not_eq_true', qoq (q7o _), q2s, q2s, z8r]
 have := qoq (q7o ((q0k [q]).getD r [])) m
 rw [q2s] at this
 rw [← this]
 cases odd (cnt (q0q ((q0k [q]).getD r [])) m) <;> simp
theorem rowsT_le (h : Nat → List Rn) {n : Nat} (hh : ∀ r, (h r).length ≤ n) : TabLe (qf3 h) n := by
 refine ⟨qd1 h, fun r => ?_⟩
 by_cases hr : r < 16
 ·rw [qk6 h hr]; exact hh r
 ·rw [List.getD_eq_getElem?_getD, List.getElem?_eq_none (by rw [qd1]; omega)]; exact Nat.zero_le _
theorem z8s (p q : Pst) (r : Nat) : (q63 p q r).length ≤ wt p + wt q + 1 := by
 have h1 := q8e ((q0k [p]).getD r []) ((q0k [q]).getD r [])
 have h4 := q61 p r
 have h5 := q61 q r
 unfold q63
 omega
theorem ev_k120 (p q : Pst) (hp : wt p ≤ 20000000) (hq : wt q ≤ 20000000) : Ev (En Tryz.prog rfl).P 120 [q0h p, q0h q] (.ret (q0h (q2t p q))) := by
 have c1 := qhy p (by omega)
 have c2 := qhy q (by omega)
 have c3 := ev_k148 (q7t [p]) (q7t [q]) (qdu [p]) (qdu [q]) (q63 p q) 2 (zb9 p q hp hq)
 have c4 := zlj (qf3 (q63 p q)) (rowsT_le _ (z8s p q)) (by omega)
 have hm : q2t p q = q6d (qf3 (q63 p q)) := rfl
 rw [hm]
 refine Ev.of_body it_k120 (by simp) (Run.start ?_)
 unfold t_k120 q0h
 have hS := q2n
 have hL := qg3
 (have hF := True.intro; refine q01 (k:=?_); clear hF)
 refine q00 [q0h p] (he := c1) (k:=?_)
 (have hF := True.intro; refine q01 (k:=?_); clear hF)
 refine q00 [q0h q] (he := c2) (k:=?_)
 (have hF := True.intro; refine q01 (k:=?_); clear hF)
 refine q00 [.agg (q0i (q7t [p])), .agg (q0i (q7t [q])), .int .i64 2] (he := c3) (k:=?_)
 (have hF := True.intro; refine q01 (k:=?_); clear hF)
 refine q00 [.agg (q0i ((qf3 (q63 p q)).map q0q))] (he := c4) (k:=?_)
 unfold q0h
 (have hF := True.intro; refine q01 (k:=?_); clear hF)
 exact Fin.all rfl (by simp [q0j, AVal.stb, q03, q04, fzc, q5w]) rfl

def z3c : List SOp := [⟨some 2,.box 26 (.tmp 0),none⟩,⟨some 3,.box 26 (.tmp 1),none⟩,⟨some 4,.assign (.const (.int .i64 0)),none⟩]
instance : Live z3c := ⟨[0,1]⟩
def z3b : List SOp := [⟨some 10,.load 26 (.tmp 2),none⟩,⟨some 11,.call ⟨.value (.func 64),#[.tmp 10],#[26]⟩,none⟩,⟨some 12,.load 26 (.tmp 3),none⟩,⟨some 13,.call ⟨.value (.func 64),#[.tmp 12],#[26]⟩,none⟩,⟨some 5,.alloc 26,none⟩,⟨some 6,.alloc 26,none⟩,⟨none,.store 26 (.tmp 5) (.tmp 11),none⟩,⟨none,.store 26 (.tmp 6) (.tmp 13),none⟩]
instance : Live z3b := ⟨[2,3]⟩
def z3a : List SOp := [⟨some 14,.move (.const (.int .i64 0)),none⟩]
instance : Live z3a := ⟨[5,6]⟩
def z38 : List SOp := [⟨some 15,.binOp .lss 3 (.tmp 14) (.const (.int .i64 16)) 3,none⟩]
instance : Live z38 := ⟨[5,6,14]⟩
def z37 : List SOp := [⟨some 16,.move (.tmp 14),none⟩,⟨some 7,.assign (.tmp 16),none⟩]
instance : Live z37 := ⟨[5,6,14]⟩
def z36 : List SOp := [⟨some 8,.assign (.const (.int .i64 0)),none⟩,⟨some 9,.assign (.const (.int .i64 0)),none⟩]
instance : Live z36 := ⟨[5,6,7,14]⟩
def z35 : List SOp := [⟨some 17,.move (.tmp 7),none⟩,⟨some 18,.fieldAddr 26 (.tmp 5) 0,none⟩,⟨some 19,.load 23 (.tmp 18),none⟩,⟨some 20,.call ⟨.builtin .len,#[.tmp 19],#[23]⟩,none⟩,⟨some 21,.binOp .lss 3 (.tmp 17) (.tmp 20) 3,none⟩]
instance : Live z35 := ⟨[5,6,7,8,9,14]⟩
def z34 : List SOp := [⟨some 22,.fieldAddr 26 (.tmp 5) 0,none⟩,⟨some 23,.load 23 (.tmp 22),none⟩,⟨some 24,.move (.tmp 7),none⟩,⟨some 25,.indexAddr 23 (.tmp 23) (.tmp 24),none⟩,⟨some 26,.load 3 (.tmp 25),none⟩,⟨some 8,.assign (.tmp 26),none⟩]
instance : Live z34 := ⟨[5,6,7,9,14]⟩
def z33 : List SOp := [⟨some 27,.move (.tmp 7),none⟩,⟨some 28,.fieldAddr 26 (.tmp 6) 0,none⟩,⟨some 29,.load 23 (.tmp 28),none⟩,⟨some 30,.call ⟨.builtin .len,#[.tmp 29],#[23]⟩,none⟩,⟨some 31,.binOp .lss 3 (.tmp 27) (.tmp 30) 3,none⟩]
instance : Live z33 := ⟨[5,6,7,8,9,14]⟩
def qnh : List SOp := [⟨some 32,.fieldAddr 26 (.tmp 6) 0,none⟩,⟨some 33,.load 23 (.tmp 32),none⟩,⟨some 34,.move (.tmp 7),none⟩,⟨some 35,.indexAddr 23 (.tmp 33) (.tmp 34),none⟩,⟨some 36,.load 3 (.tmp 35),none⟩,⟨some 9,.assign (.tmp 36),none⟩]
instance : Live qnh := ⟨[5,6,7,8,14]⟩
def qng : List SOp := [⟨some 37,.move (.tmp 8),none⟩,⟨some 38,.move (.tmp 9),none⟩,⟨some 39,.binOp .neq 3 (.tmp 37) (.tmp 38) 3,none⟩]
instance : Live qng := ⟨[5,6,8,9,14]⟩
def qnf : List SOp := [⟨some 40,.move (.tmp 8),none⟩,⟨some 41,.move (.tmp 9),none⟩,⟨some 42,.call ⟨.value (.func 149),#[.tmp 40,.tmp 41],#[3,3]⟩,none⟩,⟨some 4,.assign (.tmp 42),none⟩]
instance : Live qnf := ⟨[8,9]⟩
def qne : List SOp := [⟨some 43,.binOp .add 3 (.tmp 14) (.const (.int .i64 1)) 3,none⟩,⟨some 14,.move (.tmp 43),none⟩]
instance : Live qne := ⟨[5,6,14]⟩
def qnd : List SOp := [⟨some 44,.fieldAddr 26 (.tmp 5) 1,none⟩,⟨some 45,.load 24 (.tmp 44),none⟩,⟨some 46,.fieldAddr 26 (.tmp 6) 1,none⟩,⟨some 47,.load 24 (.tmp 46),none⟩,⟨some 48,.call ⟨.value (.func 150),#[.tmp 45,.tmp 47,.func 151],#[24,24,194]⟩,none⟩,⟨some 4,.assign (.tmp 48),none⟩]
instance : Live qnd := ⟨[5,6]⟩
def qjq : SC :=
 (.seq (.ops false z38) (.seq (.cond (.tmp 15) .skip (.exit 0)) (.seq (.block 1 (.seq (.ops false z37) (.seq (.ops false z36) (.seq (.seq (.ops false z35) (.cond (.tmp 21) (.ops false z34) .skip)) (.seq (.seq (.ops false z33) (.cond (.tmp 31) (.ops false qnh) .skip)) (.seq (.ops false qng) (.cond (.tmp 39) (.seq (.ops false qnf) .ret) .skip))))))) (.ops false qne))))
def t_k123 : SC :=
 (.seq (.ops false z3c) (.seq (.ops true z3b) (.seq (.seq (.ops false z3a) (.block 0 (.loop qjq))) (.seq (.ops false qnd) .ret))))
theorem it_k123 : FnIs Tryz.prog 123 49 [.tmp 4] t_k123 := ⟨Tryz.f123, _, Tryz.func123, rfl, rfl, rfl, rfl, by kernel_rfl⟩

theorem ev_k123 (p q : Pst) (hp : wt p ≤ 50000000) (hq : wt q ≤ 50000000) : Ev (En Tryz.prog rfl).P 123 [q0h p, q0h q] (.ret (.int .i64 (cmpP p q))) := by
 refine Ev.of_body it_k123 (by simp) (Run.start ?_)
 unfold t_k123 q0h
 have c1 := qfz p (by omega)
 have c2 := qfz q (by omega)
 have h1 := q62 p
 have h2 := q62 q
 have hr : cmpP p q = q5u (qfs (q1a p)) (qfs (q1a q)) := rfl
 rw [hr]
 (have hF := True.intro; refine q01 (k:=?_); clear hF)
 refine q00 [q0h p] (he := c1) (k:=?_)
 (have hF := True.intro; refine q01 (k:=?_); clear hF)
 refine q00 [q0h q] (he := c2) (k:=?_)
 clear c1 c2 hr
 generalize q1a p = x at h1 ⊢
 generalize q1a q = y at h2 ⊢
 unfold q0h
 have hw1 : x.vec.length + x.cloud.length = wt x := rfl
 have hw2 : y.vec.length + y.cloud.length = wt y := rfl
 have e1 := q0g x.vec
 have e2 := q0g y.vec
 (have hF := (aI @e1 @e2); refine q01 (k:=?_); clear hF)
 refine Run.while (σ := Nat) (fun i => ⟨tms [(5, .ptr 5 0), (6, .ptr 6 0), (14, .int .i64 (i : Int))], mms [(5, .cells [.sl 1 (q05 x.vec), .sl 3 (q0c x.cloud)]), (6, .cells [.sl 1 (q05 y.vec), .sl 3 (q0c y.cloud)])]⟩) (fun i => i ≤ 16 ∧ ∀ j, j < i → vv x j = vv y j) (fun i => 16 - i) 0 (have hW := (aI @q03 @q04); q0f) ⟨Nat.zero_le _, fun j hj => absurd hj (Nat.not_lt_zero _)⟩ ?_
 rintro i ⟨hi, hp⟩
 unfold qjq
 by_cases hlt : i < 16
 ·have hne : vv x i ≠ vv y i → q5u (qfs x) (qfs y) = q7n (vv x i) (vv y i) := fun hn =>
   qr4 (qit x) (qit y) i _ _ _ _ (q4i x hlt) (q4i y hlt) (fun j hj => by rw [q4i x (by omega), q4i y (by omega), hp j hj]) hn
  have heq : vv x i = vv y i → ∀ j, j < i + 1 → vv x j = vv y j := fun he j hj => by
   by_cases e : j = i
   ·rw [e]; exact he
   ·exact hp j (by omega)
  have k1 := qhx (vv x i) (vv y i)
  unfold vv at hne heq k1
  by_cases hx : i < x.vec.length
  ·have g1 : (q05 x.vec)[i]? = some (.int .i64 (q1o x.vec i)) := q0y (by unfold q1o; rw [List.getD_eq_getElem?_getD, List.getElem?_eq_getElem hx]; rfl)
   simp only [if_pos hx] at hne heq k1
   by_cases hy : i < y.vec.length
   ·have g2 : (q05 y.vec)[i]? = some (.int .i64 (q1o y.vec i)) := q0y (by unfold q1o; rw [List.getD_eq_getElem?_getD, List.getElem?_eq_getElem hy]; rfl)
    simp only [if_pos hy] at hne heq k1
    (focus (have hF := (aI (aI @e1 @e2) (aI @g1 @g2)); (repeat' (first | refine go1 (k:=?_) | with_reducible refine Ny.of ?_ ?_ | (refine Hyp.of ?_; intro hc; (try simp only [hc]); (try simp only [Bh] at hc)))); all_goals clear hF))
    ·rw [hne hc]
     refine q00 [.int .i64 (q1o x.vec i), .int .i64 (q1o y.vec i)] (he := k1) (k:=?_)
     (have hF := True.intro; refine q01 (k:=?_); clear hF)
     exact Fin.tmp' rfl rfl
    ·have h := heq hc
     (refine Fin.nextW (i + 1) ?_ (have hW := (aI @q03 @q04); q0f); (try dsimp only))
     exact ⟨⟨hlt, h⟩, by omega⟩
   ·simp only [if_neg hy] at hne heq k1
    (focus (have hF := (aI @e1 (aI @e2 @g1)); (repeat' (first | refine go1 (k:=?_) | with_reducible refine Ny.of ?_ ?_ | (refine Hyp.of ?_; intro hc; (try simp only [hc]); (try simp only [Bh] at hc)))); all_goals clear hF))
    ·rw [hne hc]
     refine q00 [.int .i64 (q1o x.vec i), .int .i64 0] (he := k1) (k:=?_)
     (have hF := True.intro; refine q01 (k:=?_); clear hF)
     exact Fin.tmp' rfl rfl
    ·have h := heq hc
     (refine Fin.nextW (i + 1) ?_ (have hW := (aI @q03 @q04); q0f); (try dsimp only))
     exact ⟨⟨hlt, h⟩, by omega⟩
  ·simp only [if_neg hx] at hne heq k1
   by_cases hy : i < y.vec.length
   ·have g2 : (q05 y.vec)[i]? = some (.int .i64 (q1o y.vec i)) := q0y (by unfold q1o; rw [List.getD_eq_getElem?_getD, List.getElem?_eq_getElem hy]; rfl)
    simp only [if_pos hy] at hne heq k1
    (focus (have hF := (aI @e1 (aI @e2 @g2)); (repeat' (first | refine go1 (k:=?_) | with_reducible refine Ny.of ?_ ?_ | (refine Hyp.of ?_; intro hc; (try simp only [hc]); (try simp only [Bh] at hc)))); all_goals clear hF))
    ·rw [hne hc]
     refine q00 [.int .i64 0, .int .i64 (q1o y.vec i)] (he := k1) (k:=?_)
     (have hF := True.intro; refine q01 (k:=?_); clear hF)
     exact Fin.tmp' rfl rfl
    ·have h := heq hc
     (refine Fin.nextW (i + 1) ?_ (have hW := (aI @q03 @q04); q0f); (try dsimp only))
     exact ⟨⟨hlt, h⟩, by omega⟩
   ·simp only [if_neg hy] at hne heq k1
    (have hF := (aI @e1 @e2); refine q01 (k:=?_); clear hF)
    have h := heq trivial
    (refine Fin.nextW (i + 1) ?_ (have hW := (aI @q03 @q04); q0f); (try dsimp only))
    exact ⟨⟨hlt, h⟩, by omega⟩
 ·have hv : qit x = qit y := by
   unfold qit
   exact List.map_congr_left fun j hj => hp j (by rw [List.mem_range] at hj; omega)
  have k2 := q8v x.cloud y.cloud (by omega) (by omega)
  have hk : q5u (qfs x) (qfs y) = qil x.cloud y.cloud := by
   unfold qfs
   rw [hv, qhk, qen]
  rw [hk]
  (have hF := (aI @e1 @e2); refine q01 (k:=?_); clear hF)
  refine q00 [.sl 3 (q0c x.cloud), .sl 3 (q0c y.cloud), .fn 151 []] (he := k2) (k:=?_)
  (have hF := (aI @e1 @e2); refine q01 (k:=?_); clear hF)
  exact Fin.tmp' rfl rfl

theorem zme {q : Int → Prop} (h : ∀ n, ¬ q n) : q9g q = 0 := by
 classical
 rw [q6a]
 exact List.countP_eq_zero.2 fun i _ => by simp [h]
theorem card_one {k : Int} (h1 : 1 ≤ k) (h2 : k ≤ 1000000000) : q9g (fun n => n = k) = 1 := by
 have h := z7v h1 (Int.le_refl k) h2
 have : q9g (fun n => k ≤ n ∧ n ≤ k) = q9g (fun n => n = k) := q6x fun n _ _ => by omega
 omega
theorem qgb {q : Nat → Int → Prop} (h : ∀ r n, ¬ q r n) : ∀ m, qbw q m = 0
 | 0 => rfl
 | m + 1 => by
  show qbw q m + q9g (q m) = 0
  rw [qgb h m, zme (h m)]

theorem qbc {a b : Bool} (h : a = true ↔ b = true) : a = b := by cases a <;> cases b <;> simp_all
theorem card_pos {q : Int → Prop} {k : Int} (h1 : 1 ≤ k) (h2 : k ≤ 1000000000) (h : q k) : 1 ≤ q9g q := by
 have e := zmf q (fun n => n = k)
 have : q9g (fun n => q n ∧ n = k) = q9g (fun n => n = k) := q6x fun n _ _ => ⟨fun x => x.2, fun x => ⟨x ▸ h, x⟩⟩
 rw [this, card_one h1 h2] at e
 omega
theorem qes {q : Nat → Int → Prop} {r : Nat} {k : Int} (h1 : 1 ≤ k) (h2 : k ≤ 1000000000) (h : q r k) : ∀ {m : Nat}, r < m → 1 ≤ qbw q m
 | 0, hm => by omega
 | m + 1, hm => by
  show 1 ≤ qbw q m + q9g (q m)
  by_cases e : r = m
  ·subst e
   have := card_pos h1 h2 h
   omega
  ·have := qes h1 h2 h (m := m) (by omega)
   omega

theorem zay (f a b : Nat → Nat) (c : Nat) (h : ∀ r, f r ≤ a r + b r + c) : ∀ m, ((List.range m).map f).sum ≤ ((List.range m).map a).sum + ((List.range m).map b).sum + m * c
 | 0 => by simp
 | m + 1 => by
  have ih := zay f a b c h m
  have := h m
  rw [List.range_succ, List.map_append, List.map_append, List.map_append, List.sum_append, List.sum_append, List.sum_append, Nat.succ_mul]
  simp only [List.map_cons, List.map_nil, List.sum_cons, List.sum_nil]
  omega
theorem rows_wt (p q : Pst) (h : Nat → List Rn) (c : Nat) (hh : ∀ r, (h r).length ≤ ((q0k [p]).getD r []).length + ((q0k [q]).getD r []).length + c) : wt (q6d ((List.range 16).map h)) ≤ 16 + wt p + wt q + 16 * c := by
 have h1 := qdi (t := (List.range 16).map h) (by simp)
 have h2 := zay (fun r => (h r).length) (fun r => ((q0k [p]).getD r []).length) (fun r => ((q0k [q]).getD r []).length) c hh 16
 have h3 := qaw (q0k [p])
 have h4 := qaw (q0k [q])
 have h5 := qco [p]
 have h6 := qco [q]
 rw [(q1j [p]).1] at h3
 rw [(q1j [q]).1] at h4
 simp only [List.map_cons, List.map_nil, List.sum_cons, List.sum_nil] at h5 h6
 have h7 : tot ((List.range 16).map h) = ((List.range 16).map fun r => (h r).length).sum := by
  unfold tot
  rw [List.map_map]
  rfl
 omega
theorem qdq (p q : Pst) : wt (q2t p q) ≤ 32 + wt p + wt q := by
 have := rows_wt p q (q63 p q) 1 fun r => q8e _ _
 unfold q2t
 omega

def z32 : List SOp := [⟨some 1,.box 26 (.tmp 0),none⟩,⟨some 2,.assign (.const (.int .i64 0)),none⟩]
instance : Live z32 := ⟨[0]⟩
def z31 : List SOp := [⟨some 7,.load 26 (.tmp 1),none⟩,⟨some 8,.call ⟨.value (.func 127),#[.tmp 7],#[26]⟩,none⟩,⟨some 3,.alloc 168,none⟩,⟨none,.store 168 (.tmp 3) (.tmp 8),none⟩]
instance : Live z31 := ⟨[1]⟩
def z30 : List SOp := [⟨some 4,.assign (.const (.int .i64 0)),none⟩]
instance : Live z30 := ⟨[3]⟩
def z2z : List SOp := [⟨some 5,.assign (.const (.int .i64 0)),none⟩]
instance : Live z2z := ⟨[3,4]⟩
def z2y : List SOp := [⟨some 9,.move (.tmp 5),none⟩,⟨some 10,.binOp .lss 3 (.tmp 9) (.const (.int .i64 16)) 3,none⟩]
instance : Live z2y := ⟨[3,4,5]⟩
def z2x : List SOp := [⟨some 6,.assign (.const (.int .i64 0)),none⟩]
instance : Live z2x := ⟨[3,4,5]⟩
def z2w : List SOp := [⟨some 13,.move (.tmp 6),none⟩,⟨some 14,.binOp .add 3 (.tmp 13) (.const (.int .i64 1)) 3,none⟩,⟨some 15,.move (.tmp 5),none⟩,⟨some 16,.fieldAddr 168 (.tmp 3) 0,none⟩,⟨some 17,.indexAddr 166 (.tmp 16) (.tmp 15),none⟩,⟨some 18,.load 23 (.tmp 17),none⟩,⟨some 19,.call ⟨.builtin .len,#[.tmp 18],#[23]⟩,none⟩,⟨some 20,.binOp .lss 3 (.tmp 14) (.tmp 19) 3,none⟩]
instance : Live z2w := ⟨[3,4,5,6]⟩
def z2v : List SOp := [⟨some 23,.move (.tmp 4),none⟩,⟨some 24,.move (.tmp 5),none⟩,⟨some 25,.fieldAddr 168 (.tmp 3) 0,none⟩,⟨some 26,.indexAddr 166 (.tmp 25) (.tmp 24),none⟩,⟨some 27,.load 23 (.tmp 26),none⟩,⟨some 28,.move (.tmp 6),none⟩,⟨some 29,.binOp .add 3 (.tmp 28) (.const (.int .i64 1)) 3,none⟩,⟨some 30,.indexAddr 23 (.tmp 27) (.tmp 29),none⟩,⟨some 31,.load 3 (.tmp 30),none⟩,⟨some 32,.move (.tmp 5),none⟩,⟨some 33,.fieldAddr 168 (.tmp 3) 0,none⟩,⟨some 34,.indexAddr 166 (.tmp 33) (.tmp 32),none⟩,⟨some 35,.load 23 (.tmp 34),none⟩,⟨some 36,.move (.tmp 6),none⟩,⟨some 37,.indexAddr 23 (.tmp 35) (.tmp 36),none⟩,⟨some 38,.load 3 (.tmp 37),none⟩,⟨some 39,.binOp .sub 3 (.tmp 31) (.tmp 38) 3,none⟩,⟨some 40,.binOp .add 3 (.tmp 23) (.tmp 39) 3,none⟩,⟨some 4,.assign (.tmp 40),none⟩]
instance : Live z2v := ⟨[3,4,5,6]⟩
def z2u : List SOp := [⟨some 21,.move (.tmp 6),none⟩,⟨some 22,.binOp .add 3 (.tmp 21) (.const (.int .i64 2)) 3,none⟩,⟨some 6,.assign (.tmp 22),none⟩]
instance : Live z2u := ⟨[3,4,5,6]⟩
def qnc : List SOp := [⟨some 11,.move (.tmp 5),none⟩,⟨some 12,.binOp .add 3 (.tmp 11) (.const (.int .i64 1)) 3,none⟩,⟨some 5,.assign (.tmp 12),none⟩]
instance : Live qnc := ⟨[3,4,5]⟩
def qnb : List SOp := [⟨some 41,.move (.tmp 4),none⟩,⟨some 2,.assign (.tmp 41),none⟩]
instance : Live qnb := ⟨[4]⟩
def qjo : SC :=
 (.seq (.seq (.ops false z2w) (.cond (.tmp 20) .skip (.exit 2))) (.seq (.block 3 (.ops true z2v)) (.ops false z2u)))
def qjp : SC :=
 (.seq (.seq (.ops false z2y) (.cond (.tmp 10) .skip (.exit 0))) (.seq (.block 1 (.seq (.ops false z2x) (.block 2 (.loop qjo)))) (.ops false qnc)))
def t_k126 : SC :=
 (.seq (.ops false z32) (.seq (.ops false z31) (.seq (.ops false z30) (.seq (.seq (.ops false z2z) (.block 0 (.loop qjp))) (.seq (.ops false qnb) .ret)))))
theorem it_k126 : FnIs Tryz.prog 126 42 [.tmp 2] t_k126 := ⟨Tryz.f126, _, Tryz.func126, rfl, rfl, rfl, rfl, by kernel_rfl⟩

def zcw : List SOp := [⟨some 1,.box 26 (.tmp 0),none⟩,⟨some 2,.assign (.const (.bool false)),none⟩]
instance : Live zcw := ⟨[0]⟩
def zcv : List SOp := [⟨some 3,.load 26 (.tmp 1),none⟩,⟨some 4,.call ⟨.value (.func 126),#[.tmp 3],#[26]⟩,none⟩,⟨some 5,.binOp .eql 3 (.tmp 4) (.const (.int .i64 0)) 3,none⟩,⟨some 2,.assign (.tmp 5),none⟩]
instance : Live zcv := ⟨[1]⟩
def t_k76 : SC :=
 (.seq (.ops false zcw) (.seq (.ops false zcv) .ret))
theorem it_k76 : FnIs Tryz.prog 76 6 [.tmp 2] t_k76 := ⟨Tryz.f76, _, Tryz.func76, rfl, rfl, rfl, rfl, by kernel_rfl⟩

def zd8 : List SOp := [⟨some 2,.box 26 (.tmp 0),none⟩,⟨some 3,.box 26 (.tmp 1),none⟩,⟨some 4,.assign (.const (.bool false)),none⟩]
instance : Live zd8 := ⟨[0,1]⟩
def zd7 : List SOp := [⟨some 5,.load 26 (.tmp 2),none⟩,⟨some 6,.load 26 (.tmp 3),none⟩,⟨some 7,.call ⟨.value (.func 120),#[.tmp 5,.tmp 6],#[26,26]⟩,none⟩,⟨some 8,.call ⟨.value (.func 76),#[.tmp 7],#[26]⟩,none⟩,⟨some 4,.assign (.tmp 8),none⟩]
instance : Live zd7 := ⟨[2,3]⟩
def t_k70 : SC :=
 (.seq (.ops false zd8) (.seq (.ops false zd7) .ret))
theorem it_k70 : FnIs Tryz.prog 70 9 [.tmp 4] t_k70 := ⟨Tryz.f70, _, Tryz.func70, rfl, rfl, rfl, rfl, by kernel_rfl⟩

def z0l : List SOp := [⟨some 4,.assign (.const (.int .i64 0)),none⟩]
instance : Live z0l := ⟨[0,1]⟩
def z0k : List SOp := [⟨some 5,.move (.tmp 0),none⟩,⟨some 6,.move (.tmp 1),none⟩,⟨some 7,.binOp .lss 3 (.tmp 5) (.tmp 6) 3,none⟩]
instance : Live z0k := ⟨[0,1]⟩
def z0j : List SOp := [⟨some 4,.assign (.const (.int .i64 (-1))),none⟩]
instance : Live z0j := ⟨[]⟩
def z0i : List SOp := [⟨some 8,.move (.tmp 0),none⟩,⟨some 9,.move (.tmp 1),none⟩,⟨some 10,.binOp .gtr 3 (.tmp 8) (.tmp 9) 3,none⟩]
instance : Live z0i := ⟨[0,1]⟩
def z0h : List SOp := [⟨some 4,.assign (.const (.int .i64 1)),none⟩]
instance : Live z0h := ⟨[]⟩
def z0g : List SOp := [⟨some 4,.assign (.const (.int .i64 0)),none⟩]
instance : Live z0g := ⟨[]⟩
def t_k147 : SC :=
 (.seq (.ops false z0l) (.seq (.seq (.ops false z0k) (.cond (.tmp 7) (.seq (.ops false z0j) .ret) .skip)) (.seq (.seq (.ops false z0i) (.cond (.tmp 10) (.seq (.ops false z0h) .ret) .skip)) (.seq (.ops false z0g) .ret))))
theorem it_k147 : FnIs Tryz.prog 147 11 [.tmp 4] t_k147 := ⟨Tryz.f147, _, Tryz.func147, rfl, rfl, rfl, rfl, by kernel_rfl⟩

def z3t : List SOp := [⟨some 2,.box 26 (.tmp 0),none⟩,⟨some 3,.box 26 (.tmp 1),none⟩,⟨some 4,.assign (.const (.int .i64 0)),none⟩]
instance : Live z3t := ⟨[0,1]⟩
def z3s : List SOp := [⟨some 11,.load 26 (.tmp 2),none⟩,⟨some 12,.call ⟨.value (.func 117),#[.tmp 11],#[26]⟩,none⟩,⟨none,.store 26 (.tmp 2) (.tmp 12),none⟩]
instance : Live z3s := ⟨[2,3]⟩
def z3r : List SOp := [⟨some 13,.load 26 (.tmp 3),none⟩,⟨some 14,.call ⟨.value (.func 117),#[.tmp 13],#[26]⟩,none⟩,⟨none,.store 26 (.tmp 3) (.tmp 14),none⟩]
instance : Live z3r := ⟨[2,3]⟩
def z3q : List SOp := [⟨some 5,.assign (.const (.int .i64 0)),none⟩]
instance : Live z3q := ⟨[2,3]⟩
def z3p : List SOp := [⟨some 15,.move (.tmp 5),none⟩,⟨some 16,.binOp .lss 3 (.tmp 15) (.const (.int .i64 16)) 3,none⟩]
instance : Live z3p := ⟨[2,3,5]⟩
def z3o : List SOp := [⟨some 6,.assign (.const (.int .i64 0)),none⟩,⟨some 7,.assign (.const (.int .i64 0)),none⟩]
instance : Live z3o := ⟨[2,3,5]⟩
def z3n : List SOp := [⟨some 19,.move (.tmp 5),none⟩,⟨some 20,.fieldAddr 26 (.tmp 2) 0,none⟩,⟨some 21,.load 23 (.tmp 20),none⟩,⟨some 22,.call ⟨.builtin .len,#[.tmp 21],#[23]⟩,none⟩,⟨some 23,.binOp .lss 3 (.tmp 19) (.tmp 22) 3,none⟩]
instance : Live z3n := ⟨[2,3,5,6,7]⟩
def z3m : List SOp := [⟨some 24,.fieldAddr 26 (.tmp 2) 0,none⟩,⟨some 25,.load 23 (.tmp 24),none⟩,⟨some 26,.move (.tmp 5),none⟩,⟨some 27,.indexAddr 23 (.tmp 25) (.tmp 26),none⟩,⟨some 28,.load 3 (.tmp 27),none⟩,⟨some 6,.assign (.tmp 28),none⟩]
instance : Live z3m := ⟨[2,3,5,7]⟩
def z3l : List SOp := [⟨some 29,.move (.tmp 5),none⟩,⟨some 30,.fieldAddr 26 (.tmp 3) 0,none⟩,⟨some 31,.load 23 (.tmp 30),none⟩,⟨some 32,.call ⟨.builtin .len,#[.tmp 31],#[23]⟩,none⟩,⟨some 33,.binOp .lss 3 (.tmp 29) (.tmp 32) 3,none⟩]
instance : Live z3l := ⟨[2,3,5,6,7]⟩
def qnv : List SOp := [⟨some 34,.fieldAddr 26 (.tmp 3) 0,none⟩,⟨some 35,.load 23 (.tmp 34),none⟩,⟨some 36,.move (.tmp 5),none⟩,⟨some 37,.indexAddr 23 (.tmp 35) (.tmp 36),none⟩,⟨some 38,.load 3 (.tmp 37),none⟩,⟨some 7,.assign (.tmp 38),none⟩]
instance : Live qnv := ⟨[2,3,5,6]⟩
def qnu : List SOp := [⟨some 39,.move (.tmp 6),none⟩,⟨some 40,.move (.tmp 7),none⟩,⟨some 41,.binOp .neq 3 (.tmp 39) (.tmp 40) 3,none⟩]
instance : Live qnu := ⟨[2,3,5,6,7]⟩
def qnt : List SOp := [⟨some 42,.move (.tmp 6),none⟩,⟨some 43,.move (.tmp 7),none⟩,⟨some 44,.call ⟨.value (.func 147),#[.tmp 42,.tmp 43],#[3,3]⟩,none⟩,⟨some 4,.assign (.tmp 44),none⟩]
instance : Live qnt := ⟨[6,7]⟩
def qns : List SOp := [⟨some 17,.move (.tmp 5),none⟩,⟨some 18,.binOp .add 3 (.tmp 17) (.const (.int .i64 1)) 3,none⟩,⟨some 5,.assign (.tmp 18),none⟩]
instance : Live qns := ⟨[2,3,5]⟩
def qnr : List SOp := [⟨some 8,.assign (.const (.int .i64 0)),none⟩]
instance : Live qnr := ⟨[2,3]⟩
def qnq : List SOp := [⟨some 45,.move (.tmp 8),none⟩,⟨some 46,.fieldAddr 26 (.tmp 2) 1,none⟩,⟨some 47,.load 24 (.tmp 46),none⟩,⟨some 48,.call ⟨.builtin .len,#[.tmp 47],#[24]⟩,none⟩,⟨some 49,.binOp .lss 3 (.tmp 45) (.tmp 48) 3,none⟩,⟨some 50,.move (.tmp 49),none⟩,⟨some 51,.move (.tmp 8),some ((some 50),true)⟩,⟨some 52,.fieldAddr 26 (.tmp 3) 1,some ((some 50),true)⟩,⟨some 53,.load 24 (.tmp 52),some ((some 50),true)⟩,⟨some 54,.call ⟨.builtin .len,#[.tmp 53],#[24]⟩,some ((some 50),true)⟩,⟨some 55,.binOp .lss 3 (.tmp 51) (.tmp 54) 3,some ((some 50),true)⟩,⟨some 56,.pick (.tmp 50) (.tmp 55) (.const (.bool false)),none⟩]
instance : Live qnq := ⟨[2,3,8]⟩
def qdf : List SOp := [⟨some 59,.fieldAddr 26 (.tmp 2) 1,none⟩,⟨some 60,.load 24 (.tmp 59),none⟩,⟨some 61,.move (.tmp 8),none⟩,⟨some 62,.indexAddr 24 (.tmp 60) (.tmp 61),none⟩,⟨some 63,.load 127 (.tmp 62),none⟩,⟨some 64,.fieldAddr 26 (.tmp 3) 1,none⟩,⟨some 65,.load 24 (.tmp 64),none⟩,⟨some 66,.move (.tmp 8),none⟩,⟨some 67,.indexAddr 24 (.tmp 65) (.tmp 66),none⟩,⟨some 68,.load 127 (.tmp 67),none⟩,⟨some 9,.alloc 127,none⟩,⟨some 10,.alloc 127,none⟩,⟨none,.store 127 (.tmp 9) (.tmp 63),none⟩,⟨none,.store 127 (.tmp 10) (.tmp 68),none⟩]
instance : Live qdf := ⟨[2,3,8]⟩
instance : Rd qdf := ⟨fun j => j == 2 || j == 3⟩
def qnp : List SOp := [⟨some 69,.fieldAddr 127 (.tmp 9) 0,none⟩,⟨some 70,.load 3 (.tmp 69),none⟩,⟨some 71,.fieldAddr 127 (.tmp 10) 0,none⟩,⟨some 72,.load 3 (.tmp 71),none⟩,⟨some 73,.binOp .neq 3 (.tmp 70) (.tmp 72) 3,none⟩]
instance : Live qnp := ⟨[2,3,8,9,10]⟩
def qno : List SOp := [⟨some 74,.fieldAddr 127 (.tmp 9) 0,none⟩,⟨some 75,.load 3 (.tmp 74),none⟩,⟨some 76,.fieldAddr 127 (.tmp 10) 0,none⟩,⟨some 77,.load 3 (.tmp 76),none⟩,⟨some 78,.call ⟨.value (.func 147),#[.tmp 75,.tmp 77],#[3,3]⟩,none⟩,⟨some 4,.assign (.tmp 78),none⟩]
instance : Live qno := ⟨[9,10]⟩
def qnn : List SOp := [⟨some 79,.fieldAddr 127 (.tmp 9) 1,none⟩,⟨some 80,.load 3 (.tmp 79),none⟩,⟨some 81,.fieldAddr 127 (.tmp 10) 1,none⟩,⟨some 82,.load 3 (.tmp 81),none⟩,⟨some 83,.binOp .neq 3 (.tmp 80) (.tmp 82) 3,none⟩]
instance : Live qnn := ⟨[2,3,8,9,10]⟩
def qnm : List SOp := [⟨some 84,.fieldAddr 127 (.tmp 9) 1,none⟩,⟨some 85,.load 3 (.tmp 84),none⟩,⟨some 86,.fieldAddr 127 (.tmp 10) 1,none⟩,⟨some 87,.load 3 (.tmp 86),none⟩,⟨some 88,.call ⟨.value (.func 147),#[.tmp 85,.tmp 87],#[3,3]⟩,none⟩,⟨some 4,.assign (.tmp 88),none⟩]
instance : Live qnm := ⟨[9,10]⟩
def qnl : List SOp := [⟨some 89,.fieldAddr 127 (.tmp 9) 2,none⟩,⟨some 90,.load 3 (.tmp 89),none⟩,⟨some 91,.fieldAddr 127 (.tmp 10) 2,none⟩,⟨some 92,.load 3 (.tmp 91),none⟩,⟨some 93,.binOp .neq 3 (.tmp 90) (.tmp 92) 3,none⟩]
instance : Live qnl := ⟨[2,3,8,9,10]⟩
def qnk : List SOp := [⟨some 94,.fieldAddr 127 (.tmp 9) 2,none⟩,⟨some 95,.load 3 (.tmp 94),none⟩,⟨some 96,.fieldAddr 127 (.tmp 10) 2,none⟩,⟨some 97,.load 3 (.tmp 96),none⟩,⟨some 98,.call ⟨.value (.func 147),#[.tmp 95,.tmp 97],#[3,3]⟩,none⟩,⟨some 4,.assign (.tmp 98),none⟩]
instance : Live qnk := ⟨[9,10]⟩
def qnj : List SOp := [⟨some 57,.move (.tmp 8),none⟩,⟨some 58,.binOp .add 3 (.tmp 57) (.const (.int .i64 1)) 3,none⟩,⟨some 8,.assign (.tmp 58),none⟩]
instance : Live qnj := ⟨[2,3,8]⟩
def qni : List SOp := [⟨some 99,.fieldAddr 26 (.tmp 2) 1,none⟩,⟨some 100,.load 24 (.tmp 99),none⟩,⟨some 101,.call ⟨.builtin .len,#[.tmp 100],#[24]⟩,none⟩,⟨some 102,.fieldAddr 26 (.tmp 3) 1,none⟩,⟨some 103,.load 24 (.tmp 102),none⟩,⟨some 104,.call ⟨.builtin .len,#[.tmp 103],#[24]⟩,none⟩,⟨some 105,.call ⟨.value (.func 147),#[.tmp 101,.tmp 104],#[3,3]⟩,none⟩,⟨some 4,.assign (.tmp 105),none⟩]
instance : Live qni := ⟨[2,3]⟩
def qjt : SC :=
 (.seq (.seq (.ops false z3p) (.cond (.tmp 16) .skip (.exit 0))) (.seq (.block 1 (.seq (.ops false z3o) (.seq (.seq (.ops false z3n) (.cond (.tmp 23) (.ops false z3m) .skip)) (.seq (.seq (.ops false z3l) (.cond (.tmp 33) (.ops false qnv) .skip)) (.seq (.ops false qnu) (.cond (.tmp 41) (.seq (.ops false qnt) .ret) .skip)))))) (.ops false qns)))
def qjs : SC :=
 (.seq (.seq (.ops false qnq) (.cond (.tmp 56) .skip (.exit 2))) (.seq (.block 3 (.seq (.opsW [] qdf) (.seq (.seq (.ops false qnp) (.cond (.tmp 73) (.seq (.ops false qno) .ret) .skip)) (.seq (.seq (.ops false qnn) (.cond (.tmp 83) (.seq (.ops false qnm) .ret) .skip)) (.seq (.ops false qnl) (.cond (.tmp 93) (.seq (.ops false qnk) .ret) .skip)))))) (.ops false qnj)))
def t_k119 : SC :=
 (.seq (.ops false z3t) (.seq (.ops false z3s) (.seq (.ops false z3r) (.seq (.seq (.ops false z3q) (.block 0 (.loop qjt))) (.seq (.seq (.ops false qnr) (.block 2 (.loop qjs))) (.seq (.ops false qni) .ret))))))
theorem it_k119 : FnIs Tryz.prog 119 106 [.tmp 4] t_k119 := ⟨Tryz.f119, _, Tryz.func119, rfl, rfl, rfl, rfl, by kernel_rfl⟩


theorem ev_k126 (p : Pst) (hw : wt p ≤ 50000000) : Ev (En Tryz.prog rfl).P 126 [q0h p] (.ret (.int .i64 (q3i p))) := by
 have c1 := qhy p (by omega)
 refine Ev.of_body it_k126 (by simp) (Run.start ?_)
 unfold t_k126 q0h
 have ht : TabLe (q0k [p]) (wt p) := by simpa using q1j [p]
 have hS := q2n
 have hm : q7t [p] = (q0k [p]).map q0q := rfl
 have hp : q3i p = q28 (q0k [p]) 16 := rfl
 rw [hm] at c1
 rw [hp]
 have h16 : (q0i ((q0k [p]).map q0q)).length = 16 := by simp [q0i, ht.1]
 have hone := q4g ((q0k [p]).map q0q)
 have hst := q2n ((q0k [p]).map q0q)
 (have hF := True.intro; refine q01 (k:=?_); clear hF)
 refine q00 [q0h p] (he := c1) (k:=?_)
 clear c1 hm hp
 generalize q0k [p] = t at ht h16 hone hst ⊢
 (have hF := (aI @h16 @hone); refine q01 (k:=?_); clear hF)
 refine Run.while (σ := Nat) (fun r => ⟨tms [(3, .ptr 3 0), (4, .int .i64 (q28 t r)), (5, .int .i64 (r : Int))], mms [(3, .cells (q0i (t.map q0q)))]⟩)
  (fun r => r ≤ 16) (fun r => 16 - r) 0 (have hW := @hst; q0f) (Nat.zero_le _) ?_
 intro r hr
 unfold qjp
 by_cases hlt : r < 16
 ·have hrt : r < t.length := by rw [ht.1]; exact hlt
  have hq := ht.2 r
  have g1 : (q0i (t.map q0q))[r]? = some (.sl 1 (q05 (q3z (q10 (t.getD r []))))) := by
   rw [q8j (by rw [List.length_map]; exact hrt)]
   simp [List.getD_eq_getElem?_getD, hrt, q0q]
  have hml := q20 (t.getD r [])
  have hcan := q1e (t.getD r [])
  have hb := q73 ht r
  have hr16 : (r : Int) * (1000000000 * (wt p : Int)) ≤ 16 * (1000000000 * (wt p : Int)) := Int.mul_le_mul_of_nonneg_right (by omega) (by omega)
  have hnx := q60 t r
  unfold qf2 at hnx
  generalize q10 (t.getD r []) = m at g1 hml hcan hnx
  have g2 : (q05 (q3z m)).length = 2 * m.length := by rw [q0g, qar]
  (have hF := (aI @h16 @hone); refine q01 (k:=?_); clear hF)
  refine Run.while (σ := Nat) (fun c => ⟨tms [(3, .ptr 3 0), (4, .int .i64 ((m.take c).foldl q1i (q28 t r))), (5, .int .i64 (r : Int)), (6, .int .i64 ((2 * c : Nat) : Int))], mms [(3, .cells (q0i (t.map q0q)))]⟩)
   (fun c => c ≤ m.length) (fun c => m.length - c) 0 (have hW := @hst; q0f) (Nat.zero_le _) ?_
  intro c hc
  unfold qjo
  by_cases hcl : c < m.length
  ·obtain ⟨x, hx⟩ : ∃ x, m[c]? = some x := ⟨m[c], by simp [hcl]⟩
   have ⟨k1, k2⟩ := qs9 hx
   have k1' : (q05 (q3z m))[2 * c]? = some (.int .i64 x.1) := q0y k1
   have k2' : (q05 (q3z m))[2 * c + 1]? = some (.int .i64 (x.2 + 1)) := q0y k2
   have hxr := hcan.2 x (List.mem_of_getElem? hx)
   unfold okR at hxr
   have e8 : ((2 * c : Nat) : Int) + 1 = ((2 * c + 1 : Nat) : Int) := by omega
   have e9 : ((2 * c : Nat) : Int) + 2 = ((2 * (c + 1) : Nat) : Int) := by omega
   have hf : (m.take (c + 1)).foldl q1i (q28 t r) = (m.take c).foldl q1i (q28 t r) + (x.2 + 1 - x.1) := by
    rw [q34 q1i _ m hx]
    unfold q1i
    omega
   have hb2 := q98 (m := m.take c) (fun y hy => by have := hcan.2 y (List.mem_of_mem_take hy); unfold okR at this; omega) (q28 t r)
   have hb3 : (m.take c).length ≤ m.length := by rw [List.length_take]; omega
   generalize (m.take c).foldl q1i (q28 t r) = a at hf hb2 ⊢
   (have hF := (aI (aI (aI @h16 @hone) (aI @g1 @g2)) (aI (aI @k1' @k2') (aI @e8 @e9))); refine q01 (k:=?_); clear hF)
   (refine Fin.nextW (c + 1) ?_ (have hW := (aI @hst @hf); q0f); (try dsimp only))
   omega
  ·have hce : (m.take c).foldl q1i (q28 t r) = q28 t (r + 1) := by
    rw [show c = m.length by omega, List.take_length, q8w, hnx]
   rw [hce]
   (have hF := (aI (aI @h16 @hone) (aI @g1 @g2)); refine q01 (k:=?_); clear hF)
   (refine Fin.nextW (r + 1) ?_ (have hW := @hst; q0f); (try dsimp only))
   omega
 ·rw [show r = 16 by omega]
  (have hF := @h16; refine q01 (k:=?_); clear hF)
  exact Fin.tmp' rfl rfl
theorem ev_k76 (p : Pst) (hp : wt p ≤ 50000000) : Ev (En Tryz.prog rfl).P 76 [q0h p] (.ret (.bool (decide (q3i p = 0)))) := by
 refine Ev.of_body it_k76 (by simp) (Run.start ?_)
 unfold t_k76 q0h
 (have hF := True.intro; refine q01 (k:=?_); clear hF)
 refine q00 [q0h p] (he := ev_k126 p hp) (k:=?_)
 (have hF := True.intro; refine q01 (k:=?_); clear hF)
 exact Fin.tmp' rfl rfl
theorem qqe (p q : Pst) : decide (q3i (q2t p q) = 0) = q0n p q := by
 refine qbc ?_
 rw [decide_eq_true_eq, q2d, qfh]
 constructor
 ·intro h r hr n hn
  refine Classical.byContradiction fun h' => ?_
  have hin := (q7s p q hr n).2 ⟨hn, h'⟩
  have := qes hin.2.1 hin.2.2.1 hin hr
  omega
 ·intro h
  have := qgb (q := inP (q2t p q)) (fun r n hh => by
   have := (q7s p q hh.1 n).1 hh
   exact this.2 (h r hh.1 n this.1)) 16
  omega
theorem ev_k70 (p q : Pst) (hp : wt p ≤ 10000000) (hq : wt q ≤ 10000000) : Ev (En Tryz.prog rfl).P 70 [q0h p, q0h q] (.ret (.bool (q0n p q))) := by
 have w := qdq p q
 have c1 := ev_k120 p q (by omega) (by omega)
 have c2 := ev_k76 (q2t p q) (by omega)
 rw [qqe] at c2
 refine Ev.of_body it_k70 (by simp) (Run.start ?_)
 unfold t_k70 q0h
 (have hF := True.intro; refine q01 (k:=?_); clear hF)
 refine q00 [q0h p, q0h q] (he := c1) (k:=?_)
 (have hF := True.intro; refine q01 (k:=?_); clear hF)
 refine q00 [q0h (q2t p q)] (he := c2) (k:=?_)
 (have hF := True.intro; refine q01 (k:=?_); clear hF)
 exact Fin.tmp' rfl rfl
theorem qec (a b : Int) : Ev (En Tryz.prog rfl).P 147 [.int .i64 a, .int .i64 b] (.ret (.int .i64 (q7n a b))) := by
 refine Ev.of_body it_k147 (by simp) (Run.start ?_)
 unfold t_k147
 by_cases h1 : a < b
 ·rw [show q7n a b = -1 from if_pos h1]
  (have hF := True.intro; refine q01 (k:=?_); clear hF)
  exact Fin.tmp' rfl rfl
 ·by_cases h2 : b < a
  ·rw [show q7n a b = 1 by unfold q7n; rw [if_neg h1, if_pos h2]]
   (have hF := True.intro; refine q01 (k:=?_); clear hF)
   exact Fin.tmp' rfl rfl
  ·rw [show q7n a b = 0 by unfold q7n; rw [if_neg h1, if_neg h2]]
   (have hF := True.intro; refine q01 (k:=?_); clear hF)
   exact Fin.tmp' rfl rfl

theorem cmpS_def (s t : Sn) : cmpS s t = if q7n s.1 t.1 = 0 then (if q7n s.2.1 t.2.1 = 0 then q7n s.2.2 t.2.2 else q7n s.2.1 t.2.1) else q7n s.1 t.1 := by
 unfold cmpS
 simp only [orI]
 split
 ·split
  ·split
   ·rename_i h; exact h.symm
   ·rfl
  ·rfl
 ·rfl
theorem q6v {a b : Int} : q7n a b = 0 ↔ a = b := by
 unfold q7n
 split
 ·constructor
  ·intro h; simp at h
  ·intro h; omega
 ·split
  ·constructor
   ·intro h; simp at h
   ·intro h; omega
  ·constructor
   ·intro _; omega
   ·intro _; rfl
theorem ev_k119 (p q : Pst) (hp : wt p ≤ 30000000) (hq : wt q ≤ 30000000) : Ev (En Tryz.prog rfl).P 119 [q0h p, q0h q] (.ret (.int .i64 (cmpP p q))) := by
 refine Ev.of_body it_k119 (by simp) (Run.start ?_)
 unfold t_k119 q0h
 have c1 := qhz p (by omega)
 have c2 := qhz q (by omega)
 have h1 := q62 p
 have h2 := q62 q
 have hr : cmpP p q = q5u (qfs (q1a p)) (qfs (q1a q)) := rfl
 rw [hr]
 (have hF := True.intro; refine q01 (k:=?_); clear hF)
 refine q00 [q0h p] (he := c1) (k:=?_)
 unfold q0h
 (have hF := True.intro; refine q01 (k:=?_); clear hF)
 refine q00 [q0h q] (he := c2) (k:=?_)
 clear c1 c2 hr
 generalize q1a p = x at h1 ⊢
 generalize q1a q = y at h2 ⊢
 unfold q0h
 have hw1 : x.vec.length + x.cloud.length = wt x := rfl
 have hw2 : y.vec.length + y.cloud.length = wt y := rfl
 have e1 := q0g x.vec
 have e2 := q0g y.vec
 have e3 := q1h x.cloud
 have e4 := q1h y.cloud
 (have hF := (aI @e1 @e2); refine q01 (k:=?_); clear hF)
 refine Run.while (σ := Nat) (fun i => ⟨tms [(2, .ptr 2 0), (3, .ptr 3 0), (5, .int .i64 (i : Int))], mms [(2, .cells [.sl 1 (q05 x.vec), .sl 3 (q0c x.cloud)]), (3, .cells [.sl 1 (q05 y.vec), .sl 3 (q0c y.cloud)])]⟩) (fun i => i ≤ 16 ∧ ∀ j, j < i → vv x j = vv y j) (fun i => 16 - i) 0 (have hW := (aI @q03 @q04); q0f) ⟨Nat.zero_le _, fun j hj => absurd hj (Nat.not_lt_zero _)⟩ ?_
 rintro i ⟨hi, hp⟩
 unfold qjt
 by_cases hlt : i < 16
 ·have hne : vv x i ≠ vv y i → q5u (qfs x) (qfs y) = q7n (vv x i) (vv y i) := fun hn =>
   qr4 (qit x) (qit y) i _ _ _ _ (q4i x hlt) (q4i y hlt) (fun j hj => by rw [q4i x (by omega), q4i y (by omega), hp j hj]) hn
  have heq : vv x i = vv y i → ∀ j, j < i + 1 → vv x j = vv y j := fun he j hj => by
   by_cases e : j = i
   ·rw [e]; exact he
   ·exact hp j (by omega)
  have k1 := qec (vv x i) (vv y i)
  unfold vv at hne heq k1
  by_cases hx : i < x.vec.length
  ·have g1 : (q05 x.vec)[i]? = some (.int .i64 (q1o x.vec i)) := q0y (by unfold q1o; rw [List.getD_eq_getElem?_getD, List.getElem?_eq_getElem hx]; rfl)
   simp only [if_pos hx] at hne heq k1
   by_cases hy : i < y.vec.length
   ·have g2 : (q05 y.vec)[i]? = some (.int .i64 (q1o y.vec i)) := q0y (by unfold q1o; rw [List.getD_eq_getElem?_getD, List.getElem?_eq_getElem hy]; rfl)
    simp only [if_pos hy] at hne heq k1
    (focus (have hF := (aI (aI @e1 @e2) (aI @g1 @g2)); (repeat' (first | refine go1 (k:=?_) | with_reducible refine Ny.of ?_ ?_ | (refine Hyp.of ?_; intro hc; (try simp only [hc]); (try simp only [Bh] at hc)))); all_goals clear hF))
    ·rw [hne hc]
     refine q00 [.int .i64 (q1o x.vec i), .int .i64 (q1o y.vec i)] (he := k1) (k:=?_)
     (have hF := True.intro; refine q01 (k:=?_); clear hF)
     exact Fin.tmp' rfl rfl
    ·have h := heq hc
     (refine Fin.nextW (i + 1) ?_ (have hW := (aI @q03 @q04); q0f); (try dsimp only))
     exact ⟨⟨hlt, h⟩, by omega⟩
   ·simp only [if_neg hy] at hne heq k1
    (focus (have hF := (aI @e1 (aI @e2 @g1)); (repeat' (first | refine go1 (k:=?_) | with_reducible refine Ny.of ?_ ?_ | (refine Hyp.of ?_; intro hc; (try simp only [hc]); (try simp only [Bh] at hc)))); all_goals clear hF))
    ·rw [hne hc]
     refine q00 [.int .i64 (q1o x.vec i), .int .i64 0] (he := k1) (k:=?_)
     (have hF := True.intro; refine q01 (k:=?_); clear hF)
     exact Fin.tmp' rfl rfl
    ·have h := heq hc
     (refine Fin.nextW (i + 1) ?_ (have hW := (aI @q03 @q04); q0f); (try dsimp only))
     exact ⟨⟨hlt, h⟩, by omega⟩
  ·simp only [if_neg hx] at hne heq k1
   by_cases hy : i < y.vec.length
   ·have g2 : (q05 y.vec)[i]? = some (.int .i64 (q1o y.vec i)) := q0y (by unfold q1o; rw [List.getD_eq_getElem?_getD, List.getElem?_eq_getElem hy]; rfl)
    simp only [if_pos hy] at hne heq k1
    (focus (have hF := (aI @e1 (aI @e2 @g2)); (repeat' (first | refine go1 (k:=?_) | with_reducible refine Ny.of ?_ ?_ | (refine Hyp.of ?_; intro hc; (try simp only [hc]); (try simp only [Bh] at hc)))); all_goals clear hF))
    ·rw [hne hc]
     refine q00 [.int .i64 0, .int .i64 (q1o y.vec i)] (he := k1) (k:=?_)
     (have hF := True.intro; refine q01 (k:=?_); clear hF)
     exact Fin.tmp' rfl rfl
    ·have h := heq hc
     (refine Fin.nextW (i + 1) ?_ (have hW := (aI @q03 @q04); q0f); (try dsimp only))
     exact ⟨⟨hlt, h⟩, by omega⟩
   ·simp only [if_neg hy] at hne heq k1
    (have hF := (aI @e1 @e2); refine q01 (k:=?_); clear hF)
    have h := heq trivial
    (refine Fin.nextW (i + 1) ?_ (have hW := (aI @q03 @q04); q0f); (try dsimp only))
    exact ⟨⟨hlt, h⟩, by omega⟩
 ·have hv : qit x = qit y := by
   unfold qit
   exact List.map_congr_left fun j hj => hp j (by rw [List.mem_range] at hj; omega)
  have hk : q5u (qfs x) (qfs y) = qil x.cloud y.cloud := by
   unfold qfs
   rw [hv, qhk, qen]
  rw [hk]
  (have hF := (aI @e1 @e2); refine q01 (k:=?_); clear hF)
  refine Run.while (σ := Nat) (fun i => ⟨tms [(2, .ptr 2 0), (3, .ptr 3 0), (8, .int .i64 (i : Int))], mms [(2, .cells [.sl 1 (q05 x.vec), .sl 3 (q0c x.cloud)]), (3, .cells [.sl 1 (q05 y.vec), .sl 3 (q0c y.cloud)])]⟩) (fun i => i ≤ x.cloud.length ∧ i ≤ y.cloud.length ∧ qil (x.cloud.drop i) (y.cloud.drop i) = qil x.cloud y.cloud) (fun i => x.cloud.length - i) 0 (have hW := (aI @q03 @q04); q0f) ⟨Nat.zero_le _, Nat.zero_le _, by rw [List.drop_zero, List.drop_zero]⟩ ?_
  clear hlt hi hp
  rintro i ⟨hi, hi2, hp⟩
  unfold qjs
  by_cases hlt : i < x.cloud.length ∧ i < y.cloud.length
  ·obtain ⟨hla, hlb⟩ := hlt
   obtain ⟨s, hs⟩ : ∃ s, x.cloud[i]? = some s := ⟨x.cloud[i], by simp [hla]⟩
   obtain ⟨t, ht⟩ : ∃ t, y.cloud[i]? = some t := ⟨y.cloud[i], by simp [hlb]⟩
   have g1 := q2h hs
   have g2 := q2h ht
   obtain ⟨_, hxa⟩ := List.getElem?_eq_some_iff.1 hs
   obtain ⟨_, hyb⟩ := List.getElem?_eq_some_iff.1 ht
   have hd : qil x.cloud y.cloud = if cmpS s t = 0 then qil (x.cloud.drop (i + 1)) (y.cloud.drop (i + 1)) else cmpS s t := by
    rw [← hp, List.drop_eq_getElem_cons hla, List.drop_eq_getElem_cons hlb, hxa, hyb]
    rfl
   rw [cmpS_def] at hd
   have k1 := qec s.1 t.1
   have k2 := qec s.2.1 t.2.1
   have k3 := qec s.2.2 t.2.2
   unfold qro at g1 g2
   by_cases q1 : s.1 = t.1
   ·rw [if_pos (q6v.2 q1)] at hd
    by_cases q2 : s.2.1 = t.2.1
    ·rw [if_pos (q6v.2 q2)] at hd
     by_cases q3 : s.2.2 = t.2.2
     ·rw [if_pos (q6v.2 q3)] at hd
      (have hF := (aI (aI (aI @e1 @e2) (aI @e3 @e4)) (aI (aI @g1 @g2) (aI @q1 (aI @q2 @q3)))); refine run2 (k:=?_); clear hF)
      (refine Fin.nextW (i + 1) ?_ (have hW := (aI @q03 @q04); q0f); (try dsimp only))
      exact ⟨⟨hla, hlb, hd.symm⟩, by omega⟩
     ·rw [if_neg (fun h => q3 (q6v.1 h))] at hd
      rw [hd]
      (have hF := (aI (aI (aI @e1 @e2) (aI @e3 @e4)) (aI (aI @g1 @g2) (aI @q1 (aI @q2 @q3)))); refine run2 (k:=?_); clear hF)
      refine q00 [.int .i64 s.2.2, .int .i64 t.2.2] (he := k3) (k:=?_)
      (have hF := True.intro; refine q01 (k:=?_); clear hF)
      exact Fin.tmp' rfl rfl
    ·have hd2 : ¬ q7n s.2.1 t.2.1 = 0 := fun h => q2 (q6v.1 h)
     rw [if_neg hd2, if_neg hd2] at hd
     rw [hd]
     (have hF := (aI (aI (aI @e1 @e2) (aI @e3 @e4)) (aI (aI @g1 @g2) (aI @q1 @q2))); refine run2 (k:=?_); clear hF)
     refine q00 [.int .i64 s.2.1, .int .i64 t.2.1] (he := k2) (k:=?_)
     (have hF := True.intro; refine q01 (k:=?_); clear hF)
     exact Fin.tmp' rfl rfl
   ·have hd2 : ¬ q7n s.1 t.1 = 0 := fun h => q1 (q6v.1 h)
    rw [if_neg hd2, if_neg hd2] at hd
    rw [hd]
    (have hF := (aI (aI @e1 (aI @e2 @e3)) (aI (aI @e4 @g1) (aI @g2 @q1))); refine run2 (k:=?_); clear hF)
    refine q00 [.int .i64 s.1, .int .i64 t.1] (he := k1) (k:=?_)
    (have hF := True.intro; refine q01 (k:=?_); clear hF)
    exact Fin.tmp' rfl rfl
  ·have hd : qil x.cloud y.cloud = q7n (x.cloud.length : Int) (y.cloud.length : Int) := by
    rw [← hp]
    by_cases ha : i < x.cloud.length
    ·have hb : ¬ i < y.cloud.length := fun h => hlt ⟨ha, h⟩
     rw [List.drop_eq_getElem_cons ha, List.drop_eq_nil_of_le (show y.cloud.length ≤ i by omega)]
     unfold q7n
     rw [if_neg (by omega), if_pos (by omega)]
     rfl
    ·by_cases hb : i < y.cloud.length
     ·rw [List.drop_eq_nil_of_le (show x.cloud.length ≤ i by omega), List.drop_eq_getElem_cons hb]
      unfold q7n
      rw [if_pos (by omega)]
      rfl
     ·rw [List.drop_eq_nil_of_le (show x.cloud.length ≤ i by omega), List.drop_eq_nil_of_le (show y.cloud.length ≤ i by omega)]
      unfold q7n
      rw [if_neg (by omega), if_neg (by omega)]
      rfl
   rw [hd]
   have k1 := qec (x.cloud.length : Int) (y.cloud.length : Int)
   by_cases ha : i < x.cloud.length
   ·have hb : ¬ i < y.cloud.length := fun h => hlt ⟨ha, h⟩
    (have hF := (aI (aI @e1 @e2) (aI @e3 @e4)); refine q01 (k:=?_); clear hF)
    refine q00 [.int .i64 (x.cloud.length : Int), .int .i64 (y.cloud.length : Int)] (he := k1) (k:=?_)
    (have hF := True.intro; refine q01 (k:=?_); clear hF)
    exact Fin.tmp' rfl rfl
   ·(have hF := (aI (aI @e1 @e2) (aI @e3 @e4)); refine q01 (k:=?_); clear hF)
    refine q00 [.int .i64 (x.cloud.length : Int), .int .i64 (y.cloud.length : Int)] (he := k1) (k:=?_)
    (have hF := True.intro; refine q01 (k:=?_); clear hF)
    exact Fin.tmp' rfl rfl

def qyh : List SOp := [⟨some 4,.assign (.const (.int .i64 0)),none⟩]
instance : Live qyh := ⟨[0,1]⟩
def qyg : List SOp := [⟨some 5,.move (.tmp 0),none⟩,⟨some 6,.move (.tmp 1),none⟩,⟨some 7,.call ⟨.value (.func 173),#[.tmp 5,.tmp 6],#[9,9]⟩,none⟩,⟨some 4,.assign (.tmp 7),none⟩]
instance : Live qyg := ⟨[0,1]⟩
def t_k159 : SC :=
 (.seq (.ops false qyh) (.seq (.ops false qyg) .ret))
theorem it_k159 : FnIs Tryz.prog 159 8 [.tmp 4] t_k159 := ⟨Tryz.f159, _, Tryz.func159, rfl, rfl, rfl, rfl, by kernel_rfl⟩

def z1g : List SOp := [⟨some 4,.assign (.const (.int .i64 0)),none⟩]
instance : Live z1g := ⟨[0,1]⟩
def z1f : List SOp := [⟨some 5,.move (.tmp 0),none⟩,⟨some 6,.move (.tmp 1),none⟩,⟨some 7,.call ⟨.value (.func 159),#[.tmp 5,.tmp 6],#[9,9]⟩,none⟩,⟨some 4,.assign (.tmp 7),none⟩]
instance : Live z1f := ⟨[0,1]⟩
def t_k138 : SC :=
 (.seq (.ops false z1g) (.seq (.ops false z1f) .ret))
theorem it_k138 : FnIs Tryz.prog 138 8 [.tmp 4] t_k138 := ⟨Tryz.f138, _, Tryz.func138, rfl, rfl, rfl, rfl, by kernel_rfl⟩

def z5q : List SOp := [⟨some 2,.box 91 (.tmp 0),none⟩,⟨some 3,.box 91 (.tmp 1),none⟩,⟨some 4,.assign (.const (.int .i64 0)),none⟩]
instance : Live z5q := ⟨[0,1]⟩
def z5p : List SOp := [⟨some 6,.fieldAddr 91 (.tmp 2) 0,none⟩,⟨some 7,.load 9 (.tmp 6),none⟩,⟨some 8,.fieldAddr 91 (.tmp 3) 0,none⟩,⟨some 9,.load 9 (.tmp 8),none⟩,⟨some 10,.call ⟨.value (.func 138),#[.tmp 7,.tmp 9],#[9,9]⟩,none⟩,⟨some 5,.assign (.tmp 10),none⟩]
instance : Live z5p := ⟨[2,3]⟩
def z5o : List SOp := [⟨some 11,.move (.tmp 5),none⟩,⟨some 12,.binOp .neq 3 (.tmp 11) (.const (.int .i64 0)) 3,none⟩]
instance : Live z5o := ⟨[2,3,5]⟩
def z5n : List SOp := [⟨some 13,.move (.tmp 5),none⟩,⟨some 4,.assign (.tmp 13),none⟩]
instance : Live z5n := ⟨[5]⟩
def z5m : List SOp := [⟨some 14,.fieldAddr 91 (.tmp 2) 1,none⟩,⟨some 15,.load 26 (.tmp 14),none⟩,⟨some 16,.fieldAddr 91 (.tmp 3) 1,none⟩,⟨some 17,.load 26 (.tmp 16),none⟩,⟨some 18,.call ⟨.value (.func 123),#[.tmp 15,.tmp 17],#[26,26]⟩,none⟩,⟨some 4,.assign (.tmp 18),none⟩]
instance : Live z5m := ⟨[2,3]⟩
def t_k106 : SC :=
 (.seq (.ops false z5q) (.seq (.seq (.ops false z5p) (.seq (.ops false z5o) (.cond (.tmp 12) (.seq (.ops false z5n) .ret) .skip))) (.seq (.ops false z5m) .ret)))
theorem it_k106 : FnIs Tryz.prog 106 19 [.tmp 4] t_k106 := ⟨Tryz.f106, _, Tryz.func106, rfl, rfl, rfl, rfl, by kernel_rfl⟩

def z5w : List SOp := [⟨some 1,.box 91 (.tmp 0),none⟩,⟨some 2,.assign (.const (.int .i64 0)),none⟩]
instance : Live z5w := ⟨[0]⟩
def z5v : List SOp := [⟨some 3,.fieldAddr 91 (.tmp 1) 0,none⟩,⟨some 4,.load 9 (.tmp 3),none⟩,⟨some 5,.binOp .neq 9 (.tmp 4) (.const (.string ⟨#[]⟩)) 9,none⟩,⟨some 6,.move (.tmp 5),none⟩,⟨some 7,.fieldAddr 91 (.tmp 1) 0,some ((some 6),true)⟩,⟨some 8,.load 9 (.tmp 7),some ((some 6),true)⟩,⟨some 9,.call ⟨.value (.func 137),#[.tmp 8],#[9]⟩,some ((some 6),true)⟩,⟨some 10,.unOp .not 4 (.tmp 9),some ((some 6),true)⟩,⟨some 11,.pick (.tmp 6) (.tmp 10) (.const (.bool false)),none⟩]
instance : Live z5v := ⟨[1]⟩
def z5u : List SOp := [⟨some 2,.assign (.const (.int .i64 5)),none⟩]
instance : Live z5u := ⟨[]⟩
def z5t : List SOp := [⟨some 12,.fieldAddr 91 (.tmp 1) 1,none⟩,⟨some 13,.load 26 (.tmp 12),none⟩,⟨some 14,.call ⟨.value (.func 54),#[.tmp 13],#[26]⟩,none⟩,⟨some 15,.unOp .not 4 (.tmp 14),none⟩,⟨some 16,.move (.tmp 15),none⟩,⟨some 17,.fieldAddr 91 (.tmp 1) 1,some ((some 16),false)⟩,⟨some 18,.load 26 (.tmp 17),some ((some 16),false)⟩,⟨some 19,.call ⟨.value (.func 92),#[.tmp 18],#[26]⟩,some ((some 16),false)⟩,⟨some 20,.pick (.tmp 16) (.const (.bool true)) (.tmp 19),none⟩]
instance : Live z5t := ⟨[1]⟩
def z5s : List SOp := [⟨some 2,.assign (.const (.int .i64 1)),none⟩]
instance : Live z5s := ⟨[]⟩
def z5r : List SOp := [⟨some 2,.assign (.const (.int .i64 0)),none⟩]
instance : Live z5r := ⟨[]⟩
def t_k105 : SC :=
 (.seq (.ops false z5w) (.seq (.seq (.ops false z5v) (.cond (.tmp 11) (.seq (.ops false z5u) .ret) .skip)) (.seq (.seq (.ops false z5t) (.cond (.tmp 20) (.seq (.ops false z5s) .ret) .skip)) (.seq (.ops false z5r) .ret))))
theorem it_k105 : FnIs Tryz.prog 105 21 [.tmp 2] t_k105 := ⟨Tryz.f105, _, Tryz.func105, rfl, rfl, rfl, rfl, by kernel_rfl⟩

def zg4 : List SOp := [⟨some 2,.assign (.const (.int .i64 0)),none⟩]
instance : Live zg4 := ⟨[0]⟩
def zg3 : List SOp := [⟨some 5,.move (.tmp 0),none⟩,⟨some 6,.call ⟨.builtin .len,#[.tmp 5],#[27]⟩,none⟩,⟨some 7,.move (.const (.int .i64 0)),none⟩]
instance : Live zg3 := ⟨[0]⟩
def zg2 : List SOp := [⟨some 8,.binOp .lss 3 (.tmp 7) (.tmp 6) 3,none⟩]
instance : Live zg2 := ⟨[0,5,6,7]⟩
def zg1 : List SOp := [⟨some 9,.move (.tmp 7),none⟩,⟨some 10,.indexAddr 27 (.tmp 5) (.tmp 7),none⟩,⟨some 11,.load 91 (.tmp 10),none⟩,⟨some 4,.alloc 91,none⟩,⟨some 3,.assign (.tmp 9),none⟩,⟨none,.store 91 (.tmp 4) (.tmp 11),none⟩]
instance : Live zg1 := ⟨[0,5,6,7]⟩
def zg0 : List SOp := [⟨some 12,.load 91 (.tmp 4),none⟩,⟨some 13,.call ⟨.value (.func 105),#[.tmp 12],#[91]⟩,none⟩,⟨some 14,.binOp .neq 32 (.tmp 13) (.const (.int .i64 0)) 32,none⟩,⟨some 15,.move (.tmp 14),none⟩,⟨some 16,.move (.tmp 3),some ((some 15),false)⟩,⟨some 17,.binOp .gtr 3 (.tmp 16) (.const (.int .i64 0)) 3,some ((some 15),false)⟩,⟨some 18,.move (.tmp 17),some ((some 15),false)⟩,⟨some 19,.move (.tmp 0),some ((some 18),true)⟩,⟨some 20,.move (.tmp 3),some ((some 18),true)⟩,⟨some 21,.binOp .sub 3 (.tmp 20) (.const (.int .i64 1)) 3,some ((some 18),true)⟩,⟨some 22,.indexAddr 27 (.tmp 19) (.tmp 21),some ((some 18),true)⟩,⟨some 23,.load 91 (.tmp 22),some ((some 18),true)⟩,⟨some 24,.load 91 (.tmp 4),some ((some 18),true)⟩,⟨some 25,.call ⟨.value (.func 106),#[.tmp 23,.tmp 24],#[91,91]⟩,some ((some 18),true)⟩,⟨some 26,.binOp .geq 3 (.tmp 25) (.const (.int .i64 0)) 3,some ((some 18),true)⟩,⟨some 27,.pick (.tmp 18) (.tmp 26) (.const (.bool false)),some ((some 15),false)⟩,⟨some 28,.pick (.tmp 15) (.const (.bool true)) (.tmp 27),none⟩]
instance : Live zg0 := ⟨[0,3,4,5,6,7]⟩
def zfz : List SOp := [⟨some 2,.assign (.const (.int .i64 1)),none⟩]
instance : Live zfz := ⟨[]⟩
def zfy : List SOp := [⟨some 29,.binOp .add 3 (.tmp 7) (.const (.int .i64 1)) 3,none⟩,⟨some 7,.move (.tmp 29),none⟩]
instance : Live zfy := ⟨[0,5,6,7]⟩
def zfx : List SOp := [⟨some 2,.assign (.const (.int .i64 0)),none⟩]
instance : Live zfx := ⟨[]⟩
def qso : SC :=
 (.seq (.ops false zg2) (.seq (.cond (.tmp 8) .skip (.exit 0)) (.seq (.block 1 (.seq (.ops false zg1) (.seq (.ops true zg0) (.cond (.tmp 28) (.seq (.ops false zfz) .ret) .skip)))) (.ops false zfy))))
def t_k55 : SC :=
 (.seq (.ops false zg4) (.seq (.seq (.ops false zg3) (.block 0 (.loop qso))) (.seq (.ops false zfx) .ret)))
theorem it_k55 : FnIs Tryz.prog 55 30 [.tmp 2] t_k55 := ⟨Tryz.f55, _, Tryz.func55, rfl, rfl, rfl, rfl, by kernel_rfl⟩

def z6q : List SOp := [⟨some 1,.box 62 (.tmp 0),none⟩,⟨some 2,.assign (.const (.int .i64 0)),none⟩]
instance : Live z6q := ⟨[0]⟩
def z6p : List SOp := [⟨some 4,.fieldAddr 62 (.tmp 1) 0,none⟩,⟨some 5,.fieldAddr 41 (.tmp 4) 0,none⟩,⟨some 6,.load 3 (.tmp 5),none⟩,⟨some 7,.binOp .lss 3 (.tmp 6) (.const (.int .i64 0)) 3,none⟩,⟨some 8,.move (.tmp 7),none⟩,⟨some 9,.fieldAddr 62 (.tmp 1) 0,some ((some 8),false)⟩,⟨some 10,.fieldAddr 41 (.tmp 9) 0,some ((some 8),false)⟩,⟨some 11,.load 3 (.tmp 10),some ((some 8),false)⟩,⟨some 12,.binOp .geq 3 (.tmp 11) (.const (.int .i64 16)) 3,some ((some 8),false)⟩,⟨some 13,.pick (.tmp 8) (.const (.bool true)) (.tmp 12),none⟩,⟨some 3,.assign (.tmp 13),none⟩]
instance : Live z6p := ⟨[1]⟩
def z6o : List SOp := [⟨some 2,.assign (.const (.int .i64 3)),none⟩]
instance : Live z6o := ⟨[]⟩
def z6n : List SOp := [⟨some 15,.fieldAddr 62 (.tmp 1) 0,none⟩,⟨some 16,.fieldAddr 41 (.tmp 15) 1,none⟩,⟨some 17,.load 3 (.tmp 16),none⟩,⟨some 18,.binOp .lss 3 (.tmp 17) (.const (.int .i64 1)) 3,none⟩,⟨some 19,.move (.tmp 18),none⟩,⟨some 20,.fieldAddr 62 (.tmp 1) 0,some ((some 19),false)⟩,⟨some 21,.fieldAddr 41 (.tmp 20) 1,some ((some 19),false)⟩,⟨some 22,.load 3 (.tmp 21),some ((some 19),false)⟩,⟨some 23,.binOp .gtr 3 (.tmp 22) (.const (.int .i64 1000000000)) 3,some ((some 19),false)⟩,⟨some 24,.pick (.tmp 19) (.const (.bool true)) (.tmp 23),none⟩,⟨some 14,.assign (.tmp 24),none⟩]
instance : Live z6n := ⟨[1]⟩
def z6m : List SOp := [⟨some 2,.assign (.const (.int .i64 2)),none⟩]
instance : Live z6m := ⟨[]⟩
def z6l : List SOp := [⟨some 26,.fieldAddr 62 (.tmp 1) 1,none⟩,⟨some 27,.load 9 (.tmp 26),none⟩,⟨some 28,.call ⟨.value (.func 137),#[.tmp 27],#[9]⟩,none⟩,⟨some 29,.unOp .not 4 (.tmp 28),none⟩,⟨some 25,.assign (.tmp 29),none⟩]
instance : Live z6l := ⟨[1]⟩
def z6k : List SOp := [⟨some 2,.assign (.const (.int .i64 5)),none⟩]
instance : Live z6k := ⟨[]⟩
def z6j : List SOp := [⟨some 31,.fieldAddr 62 (.tmp 1) 2,none⟩,⟨some 32,.load 3 (.tmp 31),none⟩,⟨some 33,.binOp .lss 3 (.tmp 32) (.const (.int .i64 1)) 3,none⟩,⟨some 34,.move (.tmp 33),none⟩,⟨some 35,.fieldAddr 62 (.tmp 1) 2,some ((some 34),false)⟩,⟨some 36,.load 3 (.tmp 35),some ((some 34),false)⟩,⟨some 37,.binOp .gtr 3 (.tmp 36) (.const (.int .i64 1000000)) 3,some ((some 34),false)⟩,⟨some 38,.pick (.tmp 34) (.const (.bool true)) (.tmp 37),none⟩,⟨some 30,.assign (.tmp 38),none⟩]
instance : Live z6j := ⟨[1]⟩
def z6i : List SOp := [⟨some 2,.assign (.const (.int .i64 6)),none⟩]
instance : Live z6i := ⟨[]⟩
def qom : List SOp := [⟨some 2,.assign (.const (.int .i64 0)),none⟩]
instance : Live qom := ⟨[]⟩
def t_k101 : SC :=
 (.seq (.ops false z6q) (.seq (.block 0 (.seq (.ops false z6p) (.cond (.tmp 3) (.seq (.ops false z6o) .ret) (.seq (.ops false z6n) (.cond (.tmp 14) (.seq (.ops false z6m) .ret) (.seq (.ops false z6l) (.cond (.tmp 25) (.seq (.ops false z6k) .ret) (.seq (.ops false z6j) (.cond (.tmp 30) (.seq (.ops false z6i) .ret) .skip))))))))) (.seq (.ops false qom) .ret)))
theorem it_k101 : FnIs Tryz.prog 101 39 [.tmp 2] t_k101 := ⟨Tryz.f101, _, Tryz.func101, rfl, rfl, rfl, rfl, by kernel_rfl⟩

def z6h : List SOp := [⟨some 2,.box 41 (.tmp 0),none⟩,⟨some 3,.box 41 (.tmp 1),none⟩,⟨some 4,.assign (.const (.bool false)),none⟩]
instance : Live z6h := ⟨[0,1]⟩
def z6g : List SOp := [⟨some 5,.fieldAddr 41 (.tmp 2) 0,none⟩,⟨some 6,.load 3 (.tmp 5),none⟩,⟨some 7,.fieldAddr 41 (.tmp 3) 0,none⟩,⟨some 8,.load 3 (.tmp 7),none⟩,⟨some 9,.binOp .lss 3 (.tmp 6) (.tmp 8) 3,none⟩,⟨some 10,.move (.tmp 9),none⟩,⟨some 11,.fieldAddr 41 (.tmp 2) 0,some ((some 10),false)⟩,⟨some 12,.load 3 (.tmp 11),some ((some 10),false)⟩,⟨some 13,.fieldAddr 41 (.tmp 3) 0,some ((some 10),false)⟩,⟨some 14,.load 3 (.tmp 13),some ((some 10),false)⟩,⟨some 15,.binOp .eql 3 (.tmp 12) (.tmp 14) 3,some ((some 10),false)⟩,⟨some 16,.move (.tmp 15),some ((some 10),false)⟩,⟨some 17,.fieldAddr 41 (.tmp 2) 1,some ((some 16),true)⟩,⟨some 18,.load 3 (.tmp 17),some ((some 16),true)⟩,⟨some 19,.fieldAddr 41 (.tmp 3) 1,some ((some 16),true)⟩,⟨some 20,.load 3 (.tmp 19),some ((some 16),true)⟩,⟨some 21,.binOp .lss 3 (.tmp 18) (.tmp 20) 3,some ((some 16),true)⟩,⟨some 22,.pick (.tmp 16) (.tmp 21) (.const (.bool false)),some ((some 10),false)⟩,⟨some 23,.pick (.tmp 10) (.const (.bool true)) (.tmp 22),none⟩,⟨some 4,.assign (.tmp 23),none⟩]
instance : Live z6g := ⟨[2,3]⟩
def t_k102 : SC :=
 (.seq (.ops false z6h) (.seq (.ops false z6g) .ret))
theorem it_k102 : FnIs Tryz.prog 102 24 [.tmp 4] t_k102 := ⟨Tryz.f102, _, Tryz.func102, rfl, rfl, rfl, rfl, by kernel_rfl⟩

def zgf : List SOp := [⟨some 2,.assign (.const (.int .i64 0)),none⟩]
instance : Live zgf := ⟨[0]⟩
def zge : List SOp := [⟨some 5,.move (.tmp 0),none⟩,⟨some 6,.call ⟨.builtin .len,#[.tmp 5],#[22]⟩,none⟩,⟨some 7,.move (.const (.int .i64 0)),none⟩]
instance : Live zge := ⟨[0]⟩
def zgd : List SOp := [⟨some 8,.binOp .lss 3 (.tmp 7) (.tmp 6) 3,none⟩]
instance : Live zgd := ⟨[0,5,6,7]⟩
def zgc : List SOp := [⟨some 9,.move (.tmp 7),none⟩,⟨some 10,.indexAddr 22 (.tmp 5) (.tmp 7),none⟩,⟨some 11,.load 62 (.tmp 10),none⟩,⟨some 4,.alloc 62,none⟩,⟨some 3,.assign (.tmp 9),none⟩,⟨none,.store 62 (.tmp 4) (.tmp 11),none⟩]
instance : Live zgc := ⟨[0,5,6,7]⟩
def zgb : List SOp := [⟨some 12,.load 62 (.tmp 4),none⟩,⟨some 13,.call ⟨.value (.func 101),#[.tmp 12],#[62]⟩,none⟩,⟨some 14,.binOp .neq 32 (.tmp 13) (.const (.int .i64 0)) 32,none⟩,⟨some 15,.move (.tmp 14),none⟩,⟨some 16,.move (.tmp 3),some ((some 15),false)⟩,⟨some 17,.binOp .gtr 3 (.tmp 16) (.const (.int .i64 0)) 3,some ((some 15),false)⟩,⟨some 18,.move (.tmp 17),some ((some 15),false)⟩,⟨some 19,.move (.tmp 0),some ((some 18),true)⟩,⟨some 20,.move (.tmp 3),some ((some 18),true)⟩,⟨some 21,.binOp .sub 3 (.tmp 20) (.const (.int .i64 1)) 3,some ((some 18),true)⟩,⟨some 22,.indexAddr 22 (.tmp 19) (.tmp 21),some ((some 18),true)⟩,⟨some 23,.fieldAddr 62 (.tmp 22) 0,some ((some 18),true)⟩,⟨some 24,.load 41 (.tmp 23),some ((some 18),true)⟩,⟨some 25,.fieldAddr 62 (.tmp 4) 0,some ((some 18),true)⟩,⟨some 26,.load 41 (.tmp 25),some ((some 18),true)⟩,⟨some 27,.call ⟨.value (.func 102),#[.tmp 24,.tmp 26],#[41,41]⟩,some ((some 18),true)⟩,⟨some 28,.unOp .not 4 (.tmp 27),some ((some 18),true)⟩,⟨some 29,.pick (.tmp 18) (.tmp 28) (.const (.bool false)),some ((some 15),false)⟩,⟨some 30,.pick (.tmp 15) (.const (.bool true)) (.tmp 29),none⟩]
instance : Live zgb := ⟨[0,3,4,5,6,7]⟩
def zga : List SOp := [⟨some 2,.assign (.const (.int .i64 1)),none⟩]
instance : Live zga := ⟨[]⟩
def zg9 : List SOp := [⟨some 31,.binOp .add 3 (.tmp 7) (.const (.int .i64 1)) 3,none⟩,⟨some 7,.move (.tmp 31),none⟩]
instance : Live zg9 := ⟨[0,5,6,7]⟩
def zg8 : List SOp := [⟨some 2,.assign (.const (.int .i64 0)),none⟩]
instance : Live zg8 := ⟨[]⟩
def qsp : SC :=
 (.seq (.ops false zgd) (.seq (.cond (.tmp 8) .skip (.exit 0)) (.seq (.block 1 (.seq (.ops false zgc) (.seq (.ops true zgb) (.cond (.tmp 30) (.seq (.ops false zga) .ret) .skip)))) (.ops false zg9))))
def t_k53 : SC :=
 (.seq (.ops false zgf) (.seq (.seq (.ops false zge) (.block 0 (.loop qsp))) (.seq (.ops false zg8) .ret)))
theorem it_k53 : FnIs Tryz.prog 53 32 [.tmp 2] t_k53 := ⟨Tryz.f53, _, Tryz.func53, rfl, rfl, rfl, rfl, by kernel_rfl⟩

def z4w : List SOp := [⟨some 1,.box 41 (.tmp 0),none⟩,⟨some 2,.assign (.const (.bool false)),none⟩]
instance : Live z4w := ⟨[0]⟩
def z4v : List SOp := [⟨some 3,.fieldAddr 41 (.tmp 1) 0,none⟩,⟨some 4,.load 3 (.tmp 3),none⟩,⟨some 5,.binOp .geq 3 (.tmp 4) (.const (.int .i64 0)) 3,none⟩,⟨some 6,.move (.tmp 5),none⟩,⟨some 7,.fieldAddr 41 (.tmp 1) 0,some ((some 6),true)⟩,⟨some 8,.load 3 (.tmp 7),some ((some 6),true)⟩,⟨some 9,.binOp .lss 3 (.tmp 8) (.const (.int .i64 16)) 3,some ((some 6),true)⟩,⟨some 10,.pick (.tmp 6) (.tmp 9) (.const (.bool false)),none⟩,⟨some 11,.move (.tmp 10),none⟩,⟨some 12,.fieldAddr 41 (.tmp 1) 1,some ((some 11),true)⟩,⟨some 13,.load 3 (.tmp 12),some ((some 11),true)⟩,⟨some 14,.binOp .geq 3 (.tmp 13) (.const (.int .i64 1)) 3,some ((some 11),true)⟩,⟨some 15,.pick (.tmp 11) (.tmp 14) (.const (.bool false)),none⟩,⟨some 16,.move (.tmp 15),none⟩,⟨some 17,.fieldAddr 41 (.tmp 1) 1,some ((some 16),true)⟩,⟨some 18,.load 3 (.tmp 17),some ((some 16),true)⟩,⟨some 19,.binOp .leq 3 (.tmp 18) (.const (.int .i64 1000000000)) 3,some ((some 16),true)⟩,⟨some 20,.pick (.tmp 16) (.tmp 19) (.const (.bool false)),none⟩,⟨some 2,.assign (.tmp 20),none⟩]
instance : Live z4v := ⟨[1]⟩
def t_k111 : SC :=
 (.seq (.ops false z4w) (.seq (.ops false z4v) .ret))
theorem it_k111 : FnIs Tryz.prog 111 21 [.tmp 2] t_k111 := ⟨Tryz.f111, _, Tryz.func111, rfl, rfl, rfl, rfl, by kernel_rfl⟩

def zdr : List SOp := [⟨some 1,.box 26 (.tmp 0),none⟩,⟨some 2,.assign (.const (.bool false)),none⟩]
instance : Live zdr := ⟨[0]⟩
def zdq : List SOp := [⟨some 3,.load 26 (.tmp 1),none⟩,⟨some 4,.load 26 (.tmp 1),none⟩,⟨some 5,.call ⟨.value (.func 117),#[.tmp 4],#[26]⟩,none⟩,⟨some 6,.call ⟨.value (.func 50),#[.tmp 3,.tmp 5],#[26,26]⟩,none⟩,⟨some 2,.assign (.tmp 6),none⟩]
instance : Live zdq := ⟨[1]⟩
def t_k68 : SC :=
 (.seq (.ops false zdr) (.seq (.ops true zdq) .ret))
theorem it_k68 : FnIs Tryz.prog 68 7 [.tmp 2] t_k68 := ⟨Tryz.f68, _, Tryz.func68, rfl, rfl, rfl, rfl, by kernel_rfl⟩

theorem hook_cmp {P : Program} {f : FuncId} {fn : Func} (hf : P.funcs[f]? = some fn) (h1 : (fn.name = "runtime.NumGoroutine") = False) (h2 : (fn.body = none) = True) (h3 : Extern.findNext fn = none) (h4 : Extern.find fn = some Extern.BytealgCompare.compare) {s : AS} {x y : Operand} {ts : Array TypeId} {a b : ByteArray} (hx : ev s.T x = .str a) (hy : ev s.T y = .str b) :
 Hook P s (.call ⟨.value (.func f), #[x, y], ts⟩) (fun v M' => M' = s.M ∧ v = .int .i64 (q9j a b)) := by
 intro n B G act w hR o ho K Q hK
 have q1 := hR.ev x
 have q2 := hR.ev y
 rw [hx] at q1
 rw [hy] at q2
 generalize hxv : act.eval x = xv at q1
 generalize hyv : act.eval y = yv at q2
 cases q1
 cases q2
 have hrun : (execOp act.eval o).run P w = .ok (.value (.int .i64 (q9j a b))) w := by
  unfold execOp
  rw [ho]
  have hc := Go.Lib.run_compareString (P := P) a b w
  rw [qbp] at hc
  have hf0 : act.eval (.func f) = .func (.func f) #[] #[] := rfl
  simp [resolve, Deferred.ofValue, invoke, callFunc, hf, hf0, h1, h2, h3, h4, hxv, hyv, hc, Result.andThen, q9j, bs]
 unfold Oper.wp
 rw [hrun]
 exact hK (.int .i64 (q9j a b)) _ s.M w G ⟨rfl, rfl⟩ (.refl G w) hR (.int _ _)
theorem ev_k159 (a b : ByteArray) : Ev (En Tryz.prog rfl).P 159 [.str a, .str b] (.ret (.int .i64 (q9j a b))) := by
 refine Ev.of_body it_k159 (by simp) (Run.start ?_)
 unfold t_k159
 (have hF := True.intro; refine q01 (k:=?_); clear hF)
 refine q4n (hook_cmp (f := 173) (fn := Tryz.f173) Tryz.func173 (eq_false (by decide)) (eq_true rfl) rfl rfl rfl rfl) ?_
 rintro v M' ⟨rfl, rfl⟩
 dsimp only [AS.put]
 (have hF := True.intro; refine q01 (k:=?_); clear hF)
 exact Fin.tmp' rfl rfl
theorem ev_k138 (a b : ByteArray) : Ev (En Tryz.prog rfl).P 138 [.str a, .str b] (.ret (.int .i64 (q9j a b))) := by
 refine Ev.of_body it_k138 (by simp) (Run.start ?_)
 unfold t_k138
 (have hF := True.intro; refine q01 (k:=?_); clear hF)
 refine q00 [.str a, .str b] (he := ev_k159 a b) (k:=?_)
 (have hF := True.intro; refine q01 (k:=?_); clear hF)
 exact Fin.tmp' rfl rfl
theorem qrh (a b : Rec) (ha : wt a.past ≤ 50000000) (hb : wt b.past ≤ 50000000) : Ev (En Tryz.prog rfl).P 106 [q5n a, q5n b] (.ret (.int .i64 (q4b a b))) := by
 refine Ev.of_body it_k106 (by simp) (Run.start ?_)
 unfold t_k106 q5n q4b
 have c1 := ev_k138 a.sku b.sku
 have c2 := ev_k123 a.past b.past ha hb
 generalize q9j a.sku b.sku = v at c1 ⊢
 (have hF := True.intro; refine q01 (k:=?_); clear hF)
 refine q00 [.str a.sku, .str b.sku] (he := c1) (k:=?_)
 by_cases h : v = 0
 ·rw [if_pos h]
  (have hF := @h; refine q01 (k:=?_); clear hF)
  refine q00 [q0h a.past, q0h b.past] (he := c2) (k:=?_)
  (have hF := True.intro; refine q01 (k:=?_); clear hF)
  exact Fin.tmp' rfl rfl
 ·rw [if_neg h]
  (have hF := True.intro; refine q01 (k:=?_); clear hF)
  exact Fin.tmp' rfl rfl
theorem qp0 (p : Pst) : qqs p (q1a p) = q1g p := by
 refine qbc ?_
 rw [q3k]
 constructor
 ·intro h
  have : ∀ a b : Pst, a.vec = b.vec → a.cloud = b.cloud → a = b := fun a b u v => by cases a; cases b; simp at u v; rw [u, v]
  have h' := of_decide_eq_true h
  exact (this _ _ h'.1 h'.2).symm
 ·intro h
  have h' : q1a p = p := h
  rw [h']
  exact qau ⟨rfl, rfl⟩
theorem ev_k68 (p : Pst) (hw : wt p ≤ 30000000) : Ev (En Tryz.prog rfl).P 68 [q0h p] (.ret (.bool (q1g p))) := by
 have c1 := qhz p (by omega)
 have w := q62 p
 have c2 := zla p (q1a p) (by unfold wt at *; omega) (by unfold wt at *; omega)
 rw [qp0] at c2
 refine Ev.of_body it_k68 (by simp) (Run.start ?_)
 unfold t_k68 q0h
 (have hF := True.intro; refine q01 (k:=?_); clear hF)
 refine q00 [q0h p] (he := c1) (k:=?_)
 (have hF := True.intro; refine q01 (k:=?_); clear hF)
 refine q00 [q0h p, q0h (q1a p)] (he := c2) (k:=?_)
 (have hF := True.intro; refine q01 (k:=?_); clear hF)
 exact Fin.tmp' rfl rfl
theorem q7p (s : ByteArray) : (s = (⟨#[]⟩ : ByteArray)) = (s.size = 0) := propext q58
theorem ev_k105 (r : Rec) (hw : wt r.past ≤ 40000000) : Ev (En Tryz.prog rfl).P 105 [q5n r] (.ret (.int .i64 (q2r r))) := by
 refine Ev.of_body it_k105 (by simp) (Run.start ?_)
 unfold t_k105 q5n q2r
 have c1 := qrf r.sku
 have c2 := qpc r.past hw
 have c3 := z7l r.past (by omega)
 have e := q7p r.sku
 generalize q7j r.sku = v1 at c1 ⊢
 generalize q1g r.past = v2 at c2 ⊢
 generalize q3i r.past = v3 at c3 ⊢
 have tail : ∀ (X : Prop), X → X := fun _ x => x
 by_cases h0 : r.sku.size = 0
 ·have h0' : (r.sku.size = 0) = True := eq_true h0
  simp only [h0', not_true_eq_false, false_and, if_false]
  rw [h0'] at e
  (have hF := (aI @e (aI @decide_true @Bool.not_true)); refine q01 (k:=?_); clear hF)
  refine q00 [q0h r.past] (he := c2) (k:=?_)
  cases v2
  ·(have hF := True.intro; refine q01 (k:=?_); clear hF)
   exact Fin.tmp' rfl rfl
  ·(have hF := True.intro; refine q01 (k:=?_); clear hF)
   refine q00 [q0h r.past] (he := c3) (k:=?_)
   by_cases h3 : v3 = 0
   ·(have hF := @h3; refine q01 (k:=?_); clear hF)
    simp only [h3, or_true, if_true]
    exact Fin.tmp' rfl rfl
   ·(have hF := @h3; refine q01 (k:=?_); clear hF)
    simp only [h3, reduceCtorEq, or_false, if_false]
    exact Fin.tmp' rfl rfl
 ·have h0' : (r.sku.size = 0) = False := eq_false h0
  rw [h0'] at e
  simp only [h0', not_false_eq_true, true_and]
  (have hF := (aI @e (aI @decide_false @Bool.not_false)); refine q01 (k:=?_); clear hF)
  refine q00 [.str r.sku] (he := c1) (k:=?_)
  cases v1
  ·(have hF := True.intro; refine q01 (k:=?_); clear hF)
   exact Fin.tmp' rfl rfl
  ·(have hF := True.intro; refine q01 (k:=?_); clear hF)
   refine q00 [q0h r.past] (he := c2) (k:=?_)
   cases v2
   ·(have hF := True.intro; refine q01 (k:=?_); clear hF)
    exact Fin.tmp' rfl rfl
   ·(have hF := True.intro; refine q01 (k:=?_); clear hF)
    refine q00 [q0h r.past] (he := c3) (k:=?_)
    by_cases h3 : v3 = 0
    ·(have hF := @h3; refine q01 (k:=?_); clear hF)
     simp only [h3, or_true, if_true, reduceCtorEq, if_false]
     exact Fin.tmp' rfl rfl
    ·(have hF := @h3; refine q01 (k:=?_); clear hF)
     simp only [h3, reduceCtorEq, or_false, if_false]
     exact Fin.tmp' rfl rfl
theorem qfv {l : List Rec} {i : Nat} {r : Rec} (hr : l[i]? = some r) (hI : (∀ (j : Nat) q, j < i → l[j]? = some q → q2r q = 0) ∧ ∀ (j : Nat) a b, j + 1 < i → l[j]? = some a → l[j + 1]? = some b → q4b a b < 0) (h0 : q2r r = 0)
 (h1 : ∀ q, 0 < i → l[i - 1]? = some q → q4b q r < 0) : (∀ (j : Nat) q, j < i + 1 → l[j]? = some q → q2r q = 0) ∧ ∀ (j : Nat) a b, j + 1 < i + 1 → l[j]? = some a → l[j + 1]? = some b → q4b a b < 0 := by
 refine ⟨fun j q hj hq => ?_, fun j a b hj ha hb => ?_⟩
 ·by_cases e : j = i
  ·subst e; rw [hr] at hq; cases hq; exact h0
  ·exact hI.1 j q (by omega) hq
 ·by_cases e : j + 1 = i
  ·subst e
   rw [hr] at hb
   cases hb
   exact h1 a (by omega) (by simpa using ha)
  ·exact hI.2 j a b (by omega) ha hb
theorem q35 (l : List Rec) (hl : l.length ≤ 1000000000) (hw : ∀ r ∈ l, wt r.past ≤ 40000000) : Ev (En Tryz.prog rfl).P 55 [.sl 3 (q09 l)] (.ret (.int .i64 (if q3m l = true then 0 else 1))) := by
 refine Ev.of_body it_k55 (by simp) (Run.start ?_)
 unfold t_k55
 have e1 := q0p l
 have hS := qq9
 (have hF := @e1; refine q01 (k:=?_); clear hF)
 refine Run.while (σ := Nat) (fun i => ⟨tms [(0, .sl 3 (q09 l)), (5, .sl 3 (q09 l)), (6, .int .i64 (l.length : Int)), (7, .int .i64 (i : Int))], mms []⟩)
  (fun i => i ≤ l.length ∧ (∀ (j : Nat) q, j < i → l[j]? = some q → q2r q = 0) ∧ ∀ (j : Nat) a b, j + 1 < i → l[j]? = some a → l[j + 1]? = some b → q4b a b < 0) (fun i => l.length - i) 0 (have hW := @q02; q0f) ⟨Nat.zero_le _, fun j q hj => absurd hj (Nat.not_lt_zero _), fun j a b hj => by omega⟩ ?_
 rintro i ⟨hi, hI⟩
 unfold qso
 by_cases hlt : i < l.length
 ·obtain ⟨r, hr⟩ : ∃ r, l[i]? = some r := ⟨l[i], by simp [hlt]⟩
  have g1 := q15 hr
  have hwr := hw r (List.mem_of_getElem? hr)
  have c1 := ev_k105 r (by omega)
  have hst := fun h0 h1 => qfv hr hI h0 h1
  have hbad : q2r r ≠ 0 → ¬ q3y l := fun h hf => h (hf.1 i r hr)
  generalize q2r r = v at c1 hst hbad
  (have hF := (aI @e1 @g1); refine q01 (k:=?_); clear hF)
  refine q00 [q5n r] (he := c1) (k:=?_)
  by_cases hv : v = 0
  ·by_cases h0 : i = 0
   ·have hst := hst hv (fun q hq => by omega)
    have h0' : (i : Int) = 0 := by omega
    (have hF := (aI (aI @e1 @g1) (aI @hv @h0')); refine q01 (k:=?_); clear hF)
    have hi1 : ((0 : Int) + 1) = ((i + 1 : Nat) : Int) := by omega
    (refine Fin.nextW (i + 1) ?_ (have hW := (aI @q02 @hi1); q0f); (try dsimp only))
    exact ⟨⟨hlt, hst⟩, by omega⟩
   ·obtain ⟨q, hq⟩ : ∃ q, l[i - 1]? = some q := ⟨l[i - 1]'(by omega), by simp [show i - 1 < l.length by omega]⟩
    have g2 := q15 hq
    have hpw : IntKind.i64.wrap ((i : Int) - 1) = ((i - 1 : Nat) : Int) := by rw [q2o (by omega)]; omega
    have hwq := hw q (List.mem_of_getElem? hq)
    have c2 := qrh q r (by omega) (by omega)
    have hst := hst hv
    have hbad2 : ¬ q4b q r < 0 → ¬ q3y l := fun h hf => h (hf.2 (i - 1) q r hq (by rw [show i - 1 + 1 = i by omega]; exact hr))
    have hst : q4b q r < 0 → _ := fun h => hst (fun q' _ hq' => by rw [hq] at hq'; cases hq'; exact h)
    generalize q4b q r = u at c2 hst hbad2
    (have hF := (aI (aI @e1 @g1) (aI @g2 (aI @hv @hpw))); refine q01 (k:=?_); clear hF)
    refine q00 [q5n q, q5n r] (he := c2) (k:=?_)
    by_cases hu : u < 0
    ·have hst := hst hu
     (have hF := (aI @e1 @g1); refine q01 (k:=?_); clear hF)
     (refine Fin.nextW (i + 1) ?_ (have hW := @q02; q0f); (try dsimp only))
     exact ⟨⟨hlt, hst⟩, by omega⟩
    ·rw [q5i (hbad2 hu)]
     (have hF := (aI @e1 @g1); refine q01 (k:=?_); clear hF)
     exact Fin.tmp' rfl rfl
  ·rw [q5i (hbad hv)]
   (have hF := (aI @e1 (aI @g1 @hv)); refine q01 (k:=?_); clear hF)
   exact Fin.tmp' rfl rfl
 ·rw [q2m ⟨fun j q hq => hI.1 j q (by
   rcases Nat.lt_or_ge j l.length with h | h
   ·omega
   ·rw [List.getElem?_eq_none h] at hq; cases hq) hq, fun j a b ha hb => hI.2 j a b (by
   rcases Nat.lt_or_ge (j + 1) l.length with h | h
   ·omega
   ·rw [List.getElem?_eq_none h] at hb; cases hb) ha hb⟩]
  (have hF := @e1; refine q01 (k:=?_); clear hF)
  exact Fin.tmp' rfl rfl
theorem ev_k55 (l : List Rec) (hw : q6m l ≤ 40000000) : Ev (En Tryz.prog rfl).P 55 [.sl 3 (q09 l)] (.ret (.int .i64 (if q3m l = true then 0 else 1))) := by
 have hlw := q8b l
 exact q35 l (by omega) (fun r hr => by have := qin hr; unfold wtK at this; omega)

end Go.Proofs.YthejoeiecenjkaaGreat.Avm
