/- Part 4 of the proof: lemmas. -/
import Derived.Test.YthejoeiecenjkaaGreatV3
import Derived.Test.YthejoeiecenjkaaGreatProg
import Derived.KernelRfl
import Derived.Lib.Bytealg
import Derived.Sort.Walk0
import Derived.Shelf.SlSortCmp.Insertion
import Derived.Test.YthejoeiecenjkaaGreatRows
import Derived.WalkKit
import Derived.ProofKit
import Derived.OpenShut
import Derived.JoinedCond
import Derived.Carry
set_option maxRecDepth 100000
set_option maxHeartbeats 4000000
set_option linter.unusedVariables false
set_option linter.unusedSimpArgs false
set_option linter.unusedSectionVars false
set_option linter.defProp false
namespace Go.Proofs.YthejoeiecenjkaaGreat.Avm
open Go.Proofs
def qwm : List SOp := [zO 2 (.assign (.const (.int .i64 0))),zO 3 (.assign (.const (.int .i64 0)))]
instance : Live qwm := ⟨[0]⟩
def qwl : List SOp := [zM 5 0,zO 6 (.call ⟨.builtin .len,#[.tmp 5],#[9]⟩),zO 7 (.binOp .eql 3 (.tmp 6) (.const (.int .i64 0)) 3)]
instance : Live qwl := ⟨[0]⟩
def qwk : List SOp := [zO 2 (.assign (.const (.int .i64 0))),zO 3 (.assign (.const (.int .i64 20)))]
instance : Live qwk := ⟨[]⟩
def qwj : List SOp := [zM 8 0,zO 9 (.call ⟨.builtin .len,#[.tmp 8],#[9]⟩),zO 10 (.binOp .gtr 3 (.tmp 9) (.const (.int .i64 24)) 3)]
instance : Live qwj := ⟨[0]⟩
def qwi : List SOp := [zO 2 (.assign (.const (.int .i64 0))),zO 3 (.assign (.const (.int .i64 21)))]
instance : Live qwi := ⟨[]⟩
def qwh : List SOp := [zO 4 (.assign (.const (.int .i64 0)))]
instance : Live qwh := ⟨[0]⟩
def qwg : List SOp := [zM 11 4,zM 12 0,zO 13 (.call ⟨.builtin .len,#[.tmp 12],#[9]⟩),zO 14 (.binOp .lss 3 (.tmp 11) (.tmp 13) 3)]
instance : Live qwg := ⟨[0,4]⟩
def qwf : List SOp := [zM 17 0,zM 18 4,zO 19 (.call ⟨.value (.func 184),#[.tmp 17,.tmp 18],#[9,3]⟩),zO 20 (.unOp .not 4 (.tmp 19))]
instance : Live qwf := ⟨[0,4]⟩
def qwe : List SOp := [zM 21 4,zG 2 21,zO 3 (.assign (.const (.int .i64 22)))]
instance : Live qwe := ⟨[4]⟩
def qkf : List SOp := [zM 15 4,zO 16 (.binOp .add 3 (.tmp 15) (.const (.int .i64 1)) 3),zG 4 16]
instance : Live qkf := ⟨[0,4]⟩
def qke : List SOp := [zO 2 (.assign (.const (.int .i64 0))),zO 3 (.assign (.const (.int .i64 0)))]
instance : Live qke := ⟨[]⟩
def qil : SC :=
 (.seq (.seq (.ops false qwg) (.cond (.tmp 14) .skip (.exit 0))) (.seq (.block 1 (.seq (.ops false qwf) (.cond (.tmp 20) (.seq (.ops false qwe) .ret) .skip))) (.ops false qkf)))
def t_k165 : SC :=
 (.seq (.ops false qwm) (.seq (.seq (.ops false qwl) (.cond (.tmp 7) (.seq (.ops false qwk) .ret) .skip)) (.seq (.seq (.ops false qwj) (.cond (.tmp 10) (.seq (.ops false qwi) .ret) .skip)) (.seq (.seq (.ops false qwh) (.block 0 (.loop qil))) (.seq (.ops false qke) .ret)))))
theorem it_k165 : FnIs Tryz.prog 165 22 [.tmp 2, .tmp 3] t_k165 := ⟨Tryz.f165, _, Tryz.func165, rfl, rfl, rfl, rfl, by kernel_rfl⟩

def z02 : List SOp := [zO 2 (.assign (.const (.bool false)))]
instance : Live z02 := ⟨[0]⟩
def z01 : List SOp := [zM 6 0,zO 7 (.call ⟨.value (.func 165),#[.tmp 6],#[9]⟩),zM 5 7,zX 8 5 0,zX 9 5 1,zG 3 8,zG 4 9]
instance : Live z01 := ⟨[0]⟩
def z00 : List SOp := [zM 10 4,zO 11 (.binOp .eql 3 (.tmp 10) (.const (.int .i64 0)) 3),zG 2 11]
instance : Live z00 := ⟨[4]⟩
def t_k146 : SC :=
 (.seq (.ops false z02) (.seq (.ops false z01) (.seq (.ops false z00) .ret)))
theorem it_k146 : FnIs Tryz.prog 146 12 [.tmp 2] t_k146 := ⟨Tryz.f146, _, Tryz.func146, rfl, rfl, rfl, rfl, by kernel_rfl⟩

def qqp (c : Int) : Bool := decide (65 ≤ c) && decide (c ≤ 90)
def qqq (c : Int) : Bool := decide (48 ≤ c) && decide (c ≤ 57)
def zjg (c : Int) : Bool := decide (c = 45) || decide (c = 46)
def qeb (s : ByteArray) (i : Nat) : Int := match s[i]? with | some b => (b.toNat : Int) | none => 0
theorem q8e {s : ByteArray} {i : Nat} (h : i < s.size) : ∃ b : UInt8, s[i]? = some b ∧ qeb s i = (b.toNat : Int) := by
 have e : s[i]? = some s[i] := by
  rw [getElem?_pos s i h]
 exact ⟨s[i], e, by unfold qeb; rw [e]⟩
def q5r (s : ByteArray) (i : Nat) : Bool := (qqp (qeb s i) || qqq (qeb s i)) || (zjg (qeb s i) && (!decide (i = 0) && (!decide (i = s.size - 1) && !zjg (qeb s (i - 1)))))
def badS (s : ByteArray) : Option Nat := (List.range s.size).find? fun i => !q5r s i
def qpa (s : ByteArray) : Int × Int := if s.size = 0 then (0, 20) else if 24 < s.size then (0, 21) else match badS s with | some i => (i, 22) | none => (0, 0)
def q7b (s : ByteArray) : Bool := decide ((qpa s).2 = 0)
theorem ev_k170 (c : Int) : Ev (En Tryz.prog rfl).P 170 [.int .u8 c] (.ret (.bool (qqp c))) := by
 refine Ev.of_body it_k170 (by simp) (Run.start ?_)
 unfold t_k170 qqp
 by_cases h1 : 65 ≤ c <;> by_cases h2 : c ≤ 90
 all_goals
  simp only [h1, h2, decide_true, decide_false, Bool.and_true, Bool.and_false, Bool.true_and, Bool.false_and]
  (have hF := True.intro; refine q01 (k:=?_); clear hF)
  all_goals first | exact Fin.tmp' rfl rfl | (exfalso; omega)
theorem ev_k171 (c : Int) : Ev (En Tryz.prog rfl).P 171 [.int .u8 c] (.ret (.bool (qqq c))) := by
 refine Ev.of_body it_k171 (by simp) (Run.start ?_)
 unfold t_k171 qqq
 by_cases h1 : 48 ≤ c <;> by_cases h2 : c ≤ 57
 all_goals
  simp only [h1, h2, decide_true, decide_false, Bool.and_true, Bool.and_false, Bool.true_and, Bool.false_and]
  (have hF := True.intro; refine q01 (k:=?_); clear hF)
  all_goals first | exact Fin.tmp' rfl rfl | (exfalso; omega)
theorem zkd (c : Int) : Ev (En Tryz.prog rfl).P 172 [.int .u8 c] (.ret (.bool (zjg c))) := by
 refine Ev.of_body it_k172 (by simp) (Run.start ?_)
 unfold t_k172 zjg
 by_cases h1 : c = 45 <;> by_cases h2 : c = 46
 all_goals
  simp only [h1, h2, decide_true, decide_false, Bool.or_true, Bool.or_false, Bool.true_or, Bool.false_or]
  (have hF := True.intro; refine q01 (k:=?_); clear hF)
  all_goals first | exact Fin.tmp' rfl rfl | (exfalso; omega)
theorem ev_k193 (c : Int) : Ev (En Tryz.prog rfl).P 193 [.int .u8 c] (.ret (.bool (qqp c))) := by
 refine Ev.of_body it_k193 (by simp) (Run.start ?_)
 unfold t_k193 qqp
 by_cases h1 : 65 ≤ c <;> by_cases h2 : c ≤ 90
 all_goals
  simp only [h1, h2, decide_true, decide_false, Bool.and_true, Bool.and_false, Bool.true_and, Bool.false_and]
  (have hF := True.intro; refine q01 (k:=?_); clear hF)
  all_goals first | exact Fin.tmp' rfl rfl | (exfalso; omega)
theorem ev_k194 (c : Int) : Ev (En Tryz.prog rfl).P 194 [.int .u8 c] (.ret (.bool (qqq c))) := by
 refine Ev.of_body it_k194 (by simp) (Run.start ?_)
 unfold t_k194 qqq
 by_cases h1 : 48 ≤ c <;> by_cases h2 : c ≤ 57
 all_goals
  simp only [h1, h2, decide_true, decide_false, Bool.and_true, Bool.and_false, Bool.true_and, Bool.false_and]
  (have hF := True.intro; refine q01 (k:=?_); clear hF)
  all_goals first | exact Fin.tmp' rfl rfl | (exfalso; omega)
theorem zkc (c : Int) : Ev (En Tryz.prog rfl).P 195 [.int .u8 c] (.ret (.bool (zjg c))) := by
 refine Ev.of_body it_k195 (by simp) (Run.start ?_)
 unfold t_k195 zjg
 by_cases h1 : c = 45 <;> by_cases h2 : c = 46
 all_goals
  simp only [h1, h2, decide_true, decide_false, Bool.or_true, Bool.or_false, Bool.true_or, Bool.false_or]
  (have hF := True.intro; refine q01 (k:=?_); clear hF)
  all_goals first | exact Fin.tmp' rfl rfl | (exfalso; omega)
theorem zjv {q : Nat → Bool} {n i : Nat} (hi : i < n) (h0 : ∀ j, j < i → q j = false) (h : q i = true) : (List.range n).find? q = some i := by
 rw [List.find?_eq_some_iff_getElem]
 refine ⟨h, i, by simpa using hi, by simp, fun j hj => by simp [h0 j hj]⟩
theorem zjw {q : Nat → Bool} {n : Nat} (h0 : ∀ j, j < n → q j = false) : (List.range n).find? q = none := by
 rw [List.find?_eq_none]
 intro j hj
 simp [h0 j (by simpa using hj)]
theorem z7t {s : ByteArray} (h1 : ¬ s.size = 0) (h2 : ¬ 24 < s.size) {i : Nat} (hi : i < s.size) (h0 : ∀ j, j < i → q5r s j = true) (h : q5r s i = false) : qpa s = ((i : Int), 22) := by
 unfold qpa badS
 rw [if_neg h1, if_neg h2, zjv hi (fun j hj => by simp [h0 j hj]) (by simp [h])]
theorem zla {s : ByteArray} (h1 : ¬ s.size = 0) (h2 : ¬ 24 < s.size) (h0 : ∀ j, j < s.size → q5r s j = true) : qpa s = (0, 0) := by
 unfold qpa badS
 rw [if_neg h1, if_neg h2, zjw (fun j hj => by simp [h0 j hj])]
theorem q52 {s : ByteArray} : s = ByteArray.empty ↔ s.size = 0 := by
 constructor
 ·intro h; rw [h]; rfl
 ·intro h
  cases s with
  | mk d =>
   have : d = #[] := Array.eq_empty_of_size_eq_zero h
   rw [this]; rfl
theorem ev_k158 (s : ByteArray) : Ev (En Tryz.prog rfl).P 158 [.str s] (.ret (.tup [.int .i64 (qpa s).1, .int .i64 (qpa s).2])) := by
 refine Ev.of_body it_k158 (by simp) (Run.start ?_)
 unfold t_k158
 by_cases h1 : s.size = 0
 ·have h1' : (s = (⟨#[]⟩ : ByteArray)) = True := eq_true (q52.2 h1)
  have : qpa s = (0, 20) := by unfold qpa; rw [if_pos h1]
  rw [this]
  (have hF := @h1'; refine q01 (k:=?_); clear hF)
  exact Fin.all rfl rfl rfl
 ·have h1' : (s = (⟨#[]⟩ : ByteArray)) = False := eq_false fun h => h1 (q52.1 h)
  by_cases h2 : 24 < s.size
  ·have : qpa s = (0, 21) := by unfold qpa; rw [if_neg h1, if_pos h2]
   rw [this]
   (have hF := @h1'; refine q01 (k:=?_); clear hF)
   exact Fin.all rfl rfl rfl
  ·(have hF := @h1'; refine q01 (k:=?_); clear hF)
   refine Run.while (σ := Nat) (fun i => ⟨tms [(0, .str s), (12, .int .i64 (s.size : Int)), (13, .int .i64 (i : Int))], mms []⟩) (fun i => i ≤ s.size ∧ ∀ j, j < i → q5r s j = true) (fun i => s.size - i) 0 (have hW := True.intro; q0h) ⟨Nat.zero_le _, fun j hj => absurd hj (Nat.not_lt_zero _)⟩ ?_
   rintro i ⟨hi, hp⟩
   unfold qiq
   by_cases hlt : i < s.size
   ·obtain ⟨b, hb, hbe⟩ := q8e hlt
    have hok : q5r s i = true → ∀ j, j < i + 1 → q5r s j = true := fun h j hj => by
     by_cases e : j = i
     ·rw [e]; exact h
     ·exact hp j (by omega)
    have hbad := z7t h1 h2 hlt hp
    have c1 := ev_k170 (b.toNat : Int)
    have c2 := ev_k171 (b.toNat : Int)
    have c3 := zkd (b.toNat : Int)
    unfold q5r at hok hbad
    rw [hbe] at hok hbad
    generalize qqp (b.toNat : Int) = v1 at c1 hok hbad
    generalize qqq (b.toNat : Int) = v2 at c2 hok hbad
    generalize zjg (b.toNat : Int) = v3 at c3 hok hbad
    (have hF := @hb; refine q01 (k:=?_); clear hF)
    refine q00 [.int .u8 (b.toNat : Int)] (he := c1) (k:=?_)
    cases v1
    case' true =>
     have hn := hok (by simp)
     (have hF := @hb; refine q01 (k:=?_); clear hF)
     (refine Fin.nextW (i + 1) ?_ (have hW := True.intro; q0h); (try dsimp only))
     exact ⟨⟨hlt, hn⟩, by omega⟩
    case' false =>
     (have hF := @hb; refine q01 (k:=?_); clear hF)
     refine q00 [.int .u8 (b.toNat : Int)] (he := c2) (k:=?_)
     cases v2
     case' true =>
      have hn := hok (by simp)
      (have hF := @hb; refine q01 (k:=?_); clear hF)
      (refine Fin.nextW (i + 1) ?_ (have hW := True.intro; q0h); (try dsimp only))
      exact ⟨⟨hlt, hn⟩, by omega⟩
     case' false =>
      (have hF := @hb; refine q01 (k:=?_); clear hF)
      refine q00 [.int .u8 (b.toNat : Int)] (he := c3) (k:=?_)
      cases v3
      case' false =>
       rw [hbad (by simp)]
       (have hF := @hb; refine q01 (k:=?_); clear hF)
       exact Fin.all rfl rfl rfl
      case' true =>
       by_cases i0 : i = 0
       ·rw [hbad (by simp [i0])]
        subst i0
        (have hF := @hb; refine q01 (k:=?_); clear hF)
        exact Fin.all rfl rfl rfl
       ·by_cases i1 : i = s.size - 1
        ·rw [hbad (by simp [i1])]
         have i1' : (i : Int) = (s.size : Int) - 1 := by omega
         have i0' : ¬ (i : Int) = 0 := by omega
         have i2' : IntKind.i64.wrap ((s.size : Int) - 1) = (i : Int) := by rw [q2l (by omega)]; omega
         (have hF := (aI @hb (aI @i0' @i2')); refine q01 (k:=?_); clear hF)
         exact Fin.all rfl rfl rfl
        ·have i0' : ¬ (i : Int) = 0 := by omega
         have i1' : ¬ (i : Int) = (s.size : Int) - 1 := by omega
         obtain ⟨c, hc, hce⟩ := q8e (s := s) (i := i - 1) (by omega)
         have c4 := zkd (c.toNat : Int)
         have hpw : IntKind.i64.wrap ((i : Int) - 1) = ((i - 1 : Nat) : Int) := by rw [q2l (by omega)]; omega
         rw [hce] at hok hbad
         generalize zjg (c.toNat : Int) = v4 at c4 hok hbad
         (have hF := (aI (aI @hb @i0') (aI @i1' (aI @hpw @hc))); refine q01 (k:=?_); clear hF)
         refine q00 [.int .u8 (c.toNat : Int)] (he := c4) (k:=?_)
         cases v4
         ·have hn := hok (by simp [i0, i1])
          (have hF := @hb; refine q01 (k:=?_); clear hF)
          (refine Fin.nextW (i + 1) ?_ (have hW := True.intro; q0h); (try dsimp only))
          exact ⟨⟨hlt, hn⟩, by omega⟩
         ·rw [hbad (by simp)]
          (have hF := @hb; refine q01 (k:=?_); clear hF)
          exact Fin.all rfl rfl rfl
   ·rw [zla h1 h2 fun j hj => hp j (by omega)]
    (have hF := True.intro; refine q01 (k:=?_); clear hF)
    exact Fin.all rfl rfl rfl
theorem qqx (s : ByteArray) : Ev (En Tryz.prog rfl).P 137 [.str s] (.ret (.bool (q7b s))) := by
 refine Ev.of_body it_k137 (by simp) (Run.start ?_)
 unfold t_k137 q7b
 (have hF := True.intro; refine q01 (k:=?_); clear hF)
 refine q00 [.str s] (he := ev_k158 s) (k:=?_)
 (have hF := True.intro; refine q01 (k:=?_); clear hF)
 exact Fin.tmp' rfl rfl
theorem ev_k184 (s : ByteArray) (i : Nat) (hi : i < s.size) (hs : s.size ≤ 1000000) : Ev (En Tryz.prog rfl).P 184 [.str s, .int .i64 (i : Int)] (.ret (.bool (q5r s i))) := by
 refine Ev.of_body it_k184 (by simp) (Run.start ?_)
 unfold t_k184 q5r
 obtain ⟨b, hb, hbe⟩ := q8e hi
 rw [hbe]
 have c1 := ev_k193 (b.toNat : Int)
 have c2 := ev_k194 (b.toNat : Int)
 have c3 := zkc (b.toNat : Int)
 generalize qqp (b.toNat : Int) = v1 at c1 ⊢
 generalize qqq (b.toNat : Int) = v2 at c2 ⊢
 generalize zjg (b.toNat : Int) = v3 at c3 ⊢
 (have hF := @hb; refine q01 (k:=?_); clear hF)
 refine q00 [.int .u8 (b.toNat : Int)] (he := c1) (k:=?_)
 cases v1
 case' true =>
  (have hF := @hb; refine q01 (k:=?_); clear hF)
  exact Fin.tmp' rfl rfl
 case' false =>
  (have hF := @hb; refine q01 (k:=?_); clear hF)
  refine q00 [.int .u8 (b.toNat : Int)] (he := c2) (k:=?_)
  cases v2
  case' true =>
   (have hF := @hb; refine q01 (k:=?_); clear hF)
   exact Fin.tmp' rfl rfl
  case' false =>
   (have hF := @hb; refine q01 (k:=?_); clear hF)
   refine q00 [.int .u8 (b.toNat : Int)] (he := c3) (k:=?_)
   cases v3
   case' false =>
    (have hF := @hb; refine q01 (k:=?_); clear hF)
    exact Fin.tmp' rfl rfl
   case' true =>
    by_cases i0 : i = 0
    ·subst i0
     (have hF := @hb; refine q01 (k:=?_); clear hF)
     exact Fin.tmp' rfl rfl
    ·by_cases i1 : i = s.size - 1
     ·have e : (false || false || (true && (!decide (i = 0) && (!decide (i = s.size - 1) && !zjg (qeb s (i - 1)))))) = false := by simp [i1]
      rw [e]
      (have hF := @hb; refine q01 (k:=?_); clear hF)
      all_goals first | exact Fin.tmp' rfl rfl | (exfalso; omega)
     ·obtain ⟨c, hc, hce⟩ := q8e (s := s) (i := i - 1) (by omega)
      have c4 := zkc (c.toNat : Int)
      have hpw : IntKind.i64.wrap ((i : Int) - 1) = ((i - 1 : Nat) : Int) := by rw [q2l (by omega)]; omega
      rw [hce]
      generalize zjg (c.toNat : Int) = v4 at c4 ⊢
      have e : (false || false || (true && (!decide (i = 0) && (!decide (i = s.size - 1) && !v4)))) = !v4 := by simp [i0, i1]
      rw [e]
      have i1' : ¬ (i : Int) = (s.size : Int) - 1 := by omega
      (have hF := (aI (aI @hb @i1') (aI @hpw @hc)); refine q01 (k:=?_); clear hF)
      refine q00 [.int .u8 (c.toNat : Int)] (he := c4) (k:=?_)
      (have hF := @hb; refine q01 (k:=?_); clear hF)
      exact Fin.tmp' rfl rfl
theorem ev_k165 (s : ByteArray) : Ev (En Tryz.prog rfl).P 165 [.str s] (.ret (.tup [.int .i64 (qpa s).1, .int .i64 (qpa s).2])) := by
 refine Ev.of_body it_k165 (by simp) (Run.start ?_)
 unfold t_k165
 by_cases h1 : s.size = 0
 ·have : qpa s = (0, 20) := by unfold qpa; rw [if_pos h1]
  rw [this]
  have h1' : ((s.size : Int) = 0) = True := eq_true (by omega)
  (have hF := @h1'; refine q01 (k:=?_); clear hF)
  exact Fin.all rfl rfl rfl
 ·by_cases h2 : 24 < s.size
  ·have : qpa s = (0, 21) := by unfold qpa; rw [if_neg h1, if_pos h2]
   rw [this]
   (have hF := True.intro; refine q01 (k:=?_); clear hF)
   exact Fin.all rfl rfl rfl
  ·(have hF := True.intro; refine q01 (k:=?_); clear hF)
   refine Run.while (σ := Nat) (fun i => ⟨tms [(0, .str s), (4, .int .i64 (i : Int))], mms []⟩) (fun i => i ≤ s.size ∧ ∀ j, j < i → q5r s j = true) (fun i => s.size - i) 0 (have hW := True.intro; q0h) ⟨Nat.zero_le _, fun j hj => absurd hj (Nat.not_lt_zero _)⟩ ?_
   rintro i ⟨hi, hp⟩
   unfold qil
   by_cases hlt : i < s.size
   ·have hok : q5r s i = true → ∀ j, j < i + 1 → q5r s j = true := fun h j hj => by
     by_cases e : j = i
     ·rw [e]; exact h
     ·exact hp j (by omega)
    have hbad := z7t h1 h2 hlt hp
    have c1 := ev_k184 s i hlt (by omega)
    generalize q5r s i = v at c1 hok hbad
    (have hF := True.intro; refine q01 (k:=?_); clear hF)
    refine q00 [.str s, .int .i64 (i : Int)] (he := c1) (k:=?_)
    cases v
    ·rw [hbad rfl]
     (have hF := True.intro; refine q01 (k:=?_); clear hF)
     exact Fin.all rfl rfl rfl
    ·have hn := hok rfl
     (have hF := True.intro; refine q01 (k:=?_); clear hF)
     (refine Fin.nextW (i + 1) ?_ (have hW := True.intro; q0h); (try dsimp only))
     exact ⟨⟨hlt, hn⟩, by omega⟩
   ·rw [zla h1 h2 fun j hj => hp j (by omega)]
    (have hF := True.intro; refine q01 (k:=?_); clear hF)
    exact Fin.all rfl rfl rfl
theorem zkg (s : ByteArray) : Ev (En Tryz.prog rfl).P 146 [.str s] (.ret (.bool (q7b s))) := by
 refine Ev.of_body it_k146 (by simp) (Run.start ?_)
 unfold t_k146 q7b
 (have hF := True.intro; refine q01 (k:=?_); clear hF)
 refine q00 [.str s] (he := ev_k165 s) (k:=?_)
 (have hF := True.intro; refine q01 (k:=?_); clear hF)
 exact Fin.tmp' rfl rfl

def bs (s : ByteArray) : List Int := s.data.toList.map fun b => (b.toNat : Int)
def q93 (a b : ByteArray) : Int := q5n (bs a) (bs b)
theorem qb2 : ∀ a b : List UInt8, Go.Lib.compareBytes a b = q5n (a.map fun b => (b.toNat : Int)) (b.map fun b => (b.toNat : Int))
 | [], [] => rfl
 | [], _ :: _ => rfl
 | _ :: _, [] => rfl
 | x :: a, y :: b => by
  have ih := qb2 a b
  unfold Go.Lib.compareBytes
  simp only [List.map_cons]
  unfold q5n
  rw [ih]
  by_cases h1 : x < y
  ·have h2 : ((x.toNat : Int) < (y.toNat : Int)) := by have := UInt8.lt_iff_toNat_lt.1 h1; omega
   rw [if_pos h1, if_pos h2]
  ·have h2 : ¬ ((x.toNat : Int) < (y.toNat : Int)) := fun h => h1 (UInt8.lt_iff_toNat_lt.2 (by omega))
   rw [if_neg h1, if_neg h2]
   by_cases h3 : y < x
   ·have h4 : ((y.toNat : Int) < (x.toNat : Int)) := by have := UInt8.lt_iff_toNat_lt.1 h3; omega
    rw [if_pos h3, if_pos h4]
   ·have h4 : ¬ ((y.toNat : Int) < (x.toNat : Int)) := fun h => h3 (UInt8.lt_iff_toNat_lt.2 (by omega))
    rw [if_neg h3, if_neg h4]
theorem z75 : ∀ a b : List UInt8, Op.bytesLess a b = decide (q5n (a.map fun b => (b.toNat : Int)) (b.map fun b => (b.toNat : Int)) < 0)
 | [], [] => rfl
 | [], _ :: _ => rfl
 | _ :: _, [] => rfl
 | x :: a, y :: b => by
  have ih := z75 a b
  unfold Op.bytesLess
  simp only [List.map_cons]
  unfold q5n
  rw [ih]
  by_cases h1 : x < y
  ·have h2 : ((x.toNat : Int) < (y.toNat : Int)) := by have := UInt8.lt_iff_toNat_lt.1 h1; omega
   rw [if_pos h2]
   simp [h1]
  ·have h2 : ¬ ((x.toNat : Int) < (y.toNat : Int)) := fun h => h1 (UInt8.lt_iff_toNat_lt.2 (by omega))
   rw [if_neg h2]
   by_cases h3 : y < x
   ·have h4 : ((y.toNat : Int) < (x.toNat : Int)) := by have := UInt8.lt_iff_toNat_lt.1 h3; omega
    have h5 : ¬ x = y := fun e => by rw [e] at h4; omega
    rw [if_pos h4]
    simp [h1, h5]
   ·have h4 : ¬ ((y.toNat : Int) < (x.toNat : Int)) := fun h => h3 (UInt8.lt_iff_toNat_lt.2 (by omega))
    have h5 : x = y := UInt8.toNat_inj.1 (by omega)
    rw [if_neg h4]
    subst h5
    simp [h1]
theorem qc2 (s : ByteArray) : s.toList = s.data.toList := by
 have := ByteArray.toList_eq (bs := s)
 exact this
theorem zl4 (a b : ByteArray) : Op.bytesLess a.toList b.toList = decide (q93 a b < 0) := by
 rw [qc2, qc2, z75]
 rfl
theorem bs_inj {a b : ByteArray} (h : bs a = bs b) : a = b := by
 have : ∀ l m : List UInt8, l.map (fun b => (b.toNat : Int)) = m.map (fun b => (b.toNat : Int)) → l = m := by
  intro l
  induction l with
  | nil => intro m h; cases m with | nil => rfl | cons y m => simp at h
  | cons x l ih =>
   intro m h
   cases m with
   | nil => simp at h
   | cons y m =>
    simp only [List.map_cons, List.cons.injEq] at h
    rw [ih m h.2, show x = y from UInt8.toNat_inj.1 (by omega)]
 cases a with
 | mk da => cases b with
  | mk db =>
   have := this _ _ h
   congr 1
   exact Array.toList_inj.1 this
theorem q5h {a b : ByteArray} : q93 a b = 0 ↔ a = b := ⟨fun h => bs_inj (qqj h), fun h => by rw [h]; exact qd9 _⟩
structure Ent where
 rep : Int
 num : Int
 sku : ByteArray
 qty : Int
structure Rec where
 sku : ByteArray
 past : Pst
def qam (e : Ent) : AVal := .agg [.int .i64 e.rep, .int .i64 e.num, .str e.sku, .int .i64 e.qty]
def q4i (r : Rec) : AVal := .agg [.str r.sku, .sl 1 (q05 r.past.vec), .sl 3 (q0d r.past.cloud)]
def q0e (l : List Ent) : List AVal := l.map qam
def q08 (l : List Rec) : List AVal := l.map q4i
theorem qbp (e : Ent) : (qam e).stb = true := rfl
theorem qhn (r : Rec) : (q4i r).stb = true := by simp [q4i, AVal.stb, q0j, q02, q03]
theorem q09 (l : List Ent) : q0j (q0e l) = true := q4e qbp
theorem q04 (l : List Rec) : q0j (q08 l) = true := q4e qhn
theorem qps : (∀ e, (qam e).stb = true) ∧ (∀ r, (q4i r).stb = true) ∧ (∀ l, q0j (q0e l) = true) ∧ (∀ l, q0j (q08 l) = true) := ⟨qbp, qhn, q09, q04⟩
theorem q0q (l : List Ent) : (q0e l).length = l.length := by simp [q0e]
theorem q0m (l : List Rec) : (q08 l).length = l.length := by simp [q08]
theorem q1a {l : List Ent} {i : Nat} {e : Ent} (h : l[i]? = some e) : (q0e l)[i]? = some (.agg [.int .i64 e.rep, .int .i64 e.num, .str e.sku, .int .i64 e.qty]) := by simp [q0e, h, qam]
theorem q0x {l : List Rec} {i : Nat} {r : Rec} (h : l[i]? = some r) : (q08 l)[i]? = some (.agg [.str r.sku, .sl 1 (q05 r.past.vec), .sl 3 (q0d r.past.cloud)]) := by simp [q08, h, q4i]
theorem q25 (l : List Ent) (a b : Int) (s : ByteArray) (q : Int) : q0e l ++ [.agg [.int .i64 a, .int .i64 b, .str s, .int .i64 q]] = q0e (l ++ [⟨a, b, s, q⟩]) := by simp [q0e, qam]
theorem q86 (l : List Rec) (s : ByteArray) (v : List Int) (c : List Sn) : q08 l ++ [.agg [.str s, .sl 1 (q05 v), .sl 3 (q0d c)]] = q08 (l ++ [⟨s, ⟨v, c⟩⟩]) := by simp [q08, q4i]
def q3b (a b : Rn) : Bool := decide (a.1 < b.1) || (decide (a.1 = b.1) && decide (a.2 < b.2))
def Ent.dot (e : Ent) : Rn := (e.rep, e.num)
def q23 (e : Ent) : Int := if e.rep < 0 ∨ 16 ≤ e.rep then 3 else if e.num < 1 ∨ 1000000000 < e.num then 2 else if q7b e.sku = false then 5 else if e.qty < 1 ∨ 1000000 < e.qty then 6 else 0
def q77 (l : List Ent) : Prop := (∀ (i : Nat) e, l[i]? = some e → q23 e = 0) ∧ ∀ (i : Nat) a b, l[i]? = some a → l[i + 1]? = some b → q3b a.dot b.dot = true
open Classical in
noncomputable def q7d (l : List Ent) : Bool := decide (q77 l)
theorem q4u {l : List Ent} (h : q77 l) : q7d l = true := by classical exact decide_eq_true h
theorem q71 {l : List Ent} (h : ¬ q77 l) : q7d l = false := by classical exact decide_eq_false h
theorem qdm {l : List Ent} : q7d l = true ↔ q77 l := by classical exact decide_eq_true_iff
def q3s (a b : Rec) : Int := if q93 a.sku b.sku = 0 then zaf a.past b.past else q93 a.sku b.sku
def q2o (r : Rec) : Int := if ¬ r.sku.size = 0 ∧ q7b r.sku = false then 5 else if q1e r.past = false ∨ q3x r.past = 0 then 1 else 0
def q3t (l : List Rec) : Prop := (∀ (i : Nat) r, l[i]? = some r → q2o r = 0) ∧ ∀ (i : Nat) a b, l[i]? = some a → l[i + 1]? = some b → q3s a b < 0
open Classical in
noncomputable def q3h (l : List Rec) : Bool := decide (q3t l)
theorem q2j {l : List Rec} (h : q3t l) : q3h l = true := by classical exact decide_eq_true h
theorem q5c {l : List Rec} (h : ¬ q3t l) : q3h l = false := by classical exact decide_eq_false h
theorem q7n {l : List Rec} : q3h l = true ↔ q3t l := by classical exact decide_eq_true_iff
def wtK (r : Rec) : Nat := wt r.past + 1
def q6e (l : List Rec) : Nat := (l.map wtK).sum
theorem qi4 {l : List Rec} {r : Rec} (h : r ∈ l) : wtK r ≤ q6e l := by
 unfold q6e
 obtain ⟨i, hi, rfl⟩ := List.getElem_of_mem h
 have := zaw (l.map wtK) i
 simpa [List.getD_eq_getElem?_getD, hi] using this
theorem q7w (l : List Rec) : l.length ≤ q6e l := by
 induction l with
 | nil => exact Nat.zero_le _
 | cons r l ih =>
  unfold q6e at *
  simp only [List.map_cons, List.sum_cons, List.length_cons, wtK]
  omega

section
open Go.Proofs Go.Shelf Go.RowKit Go.Lib Go.Sort
theorem zl3 (a b : ByteArray) : q93 b a = - q93 a b := qh0 _ _
theorem cmpP_neg (p q : Pst) : zaf q p = - zaf p q := qh0 _ _
theorem q61 (a b : Rec) : q3s b a = - q3s a b := by
 unfold q3s
 rw [zl3 a.sku b.sku, cmpP_neg a.past b.past]
 by_cases h : q93 a.sku b.sku = 0
 ·rw [if_pos (by omega), if_pos h]
 ·rw [if_neg (by omega), if_neg h]
theorem qe0 (a : Rec) : q3s a a = 0 := by
 unfold q3s
 rw [if_pos (q5h.2 rfl)]
 exact q9t.2 rfl
theorem qr7 {a b c : Rec} (h1 : q3s a b ≤ 0) (h2 : q3s b c ≤ 0) : q3s a c ≤ 0 := by
 have s1 : q93 a.sku b.sku ≤ 0 := by
  unfold q3s at h1
  split at h1
  ·omega
  ·exact h1
 have s2 : q93 b.sku c.sku ≤ 0 := by
  unfold q3s at h2
  split at h2
  ·omega
  ·exact h2
 have s3 : q93 a.sku c.sku ≤ 0 := qac s1 s2
 by_cases h : q93 a.sku c.sku = 0
 ·have e := q5h.1 h
  have s4 : q93 a.sku b.sku = 0 := by
   have := zl3 b.sku c.sku
   rw [← e] at this s2
   omega
  have s5 : q93 b.sku c.sku = 0 := by rw [← q5h.1 s4]; exact h
  unfold q3s at h1 h2 ⊢
  rw [if_pos s4] at h1
  rw [if_pos s5] at h2
  rw [if_pos h]
  exact qac h1 h2
 ·unfold q3s
  rw [if_neg h]
  exact s3
theorem qe1 {a b c : Rec} (h1 : q3s a b < 0) (h2 : q3s b c < 0) : q3s a c < 0 := by
 have h3 := qr7 (a := a) (b := b) (c := c) (by omega) (by omega)
 rcases Int.lt_or_eq_of_le h3 with h | h
 ·exact h
 ·have h4 := qr7 (a := b) (b := c) (c := a) (by omega) (by have := q61 a c; omega)
  have := q61 a b
  omega
theorem cmpR_SWO : SWO (ltOf q3s) := by
 refine ⟨fun x => ?_, fun x y z h1 h2 => ?_, fun x y z h1 h2 => ?_⟩
 ·unfold ltOf
  rw [qe0]
  rfl
 ·unfold ltOf at *
  simp only [decide_eq_true_eq] at *
  exact qe1 h1 h2
 ·unfold ltOf at *
  simp only [decide_eq_false_iff_not] at *
  have := qr7 (a := z) (b := y) (c := x) (by have := q61 y z; omega) (by have := q61 x y; omega)
  have := q61 x z
  omega
def qbb (r : Rec) : Prop := q18 r.past = r.past
theorem qr8 {a b : Rec} (ha : qbb a) (hb : qbb b) (h : q3s a b = 0) : a = b := by
 unfold q3s at h
 split at h
 ·rename_i hs
  have e1 := q5h.1 hs
  have e2 := q9t.1 h
  unfold qbb at ha hb
  rw [ha, hb] at e2
  cases a; cases b
  simp only at e1 e2
  rw [e1, e2]
 ·rename_i hs
  exact absurd h hs
def SrtR (l : List Rec) : Prop := l.Pairwise fun a b => q3s a b < 0
theorem SrtR.ext : ∀ {l m : List Rec}, SrtR l → SrtR m → (∀ x, x ∈ l ↔ x ∈ m) → l = m
 | [], [], _, _, _ => rfl
 | [], y :: m, _, _, h => absurd ((h y).2 (by simp)) (by simp)
 | x :: l, [], _, _, h => absurd ((h x).1 (by simp)) (by simp)
 | x :: l, y :: m, hl, hm, h => by
  unfold SrtR at hl hm
  rw [List.pairwise_cons] at hl hm
  have irr : ∀ a : Rec, ¬ q3s a a < 0 := fun a => by rw [qe0]; omega
  have e : x = y := by
   rcases List.mem_cons.1 ((h x).1 (by simp)) with e | e
   ·exact e
   ·rcases List.mem_cons.1 ((h y).2 (by simp)) with e' | e'
    ·exact e'.symm
    ·have h1 := hm.1 x e
     have h2 := hl.1 y e'
     exact absurd (qe1 h1 h2) (irr _)
  subst e
  have : l = m := by
   refine SrtR.ext hl.2 hm.2 fun z => ⟨fun hz => ?_, fun hz => ?_⟩
   ·rcases List.mem_cons.1 ((h z).1 (by simp [hz])) with e | e
    ·subst e; exact absurd (hl.1 z hz) (irr z)
    ·exact e
   ·rcases List.mem_cons.1 ((h z).2 (by simp [hz])) with e | e
    ·subst e; exact absurd (hm.1 z hz) (irr z)
    ·exact e
  rw [this]
def z7b (x : Rec) : List Rec → List Rec
 | [] => [x]
 | y :: l => if q3s x y < 0 then x :: y :: l else if q3s x y = 0 then y :: l else y :: z7b x l
def qa3 : List Rec → List Rec
 | [] => []
 | x :: l => z7b x (qa3 l)
theorem qh3 {x : Rec} : ∀ {l : List Rec} {z : Rec}, z ∈ z7b x l → z = x ∨ z ∈ l
 | [], z, h => by simp only [z7b, List.mem_singleton] at h; exact .inl h
 | y :: l, z, h => by
  unfold z7b at h
  split at h
  ·simpa using h
  ·split at h
   ·exact .inr h
   ·rcases List.mem_cons.1 h with h | h
    ·exact .inr (by simp [h])
    ·rcases qh3 h with h | h
     ·exact .inl h
     ·exact .inr (by simp [h])
theorem qqr {x : Rec} (hx : qbb x) : ∀ {l : List Rec}, (∀ y ∈ l, qbb y) → ∀ z, (z = x ∨ z ∈ l) → z ∈ z7b x l
 | [], _, z, h => by
  rcases h with h | h
  ·simp [z7b, h]
  ·cases h
 | y :: l, hl, z, h => by
  unfold z7b
  split
  ·rcases h with h | h
   ·simp [h]
   ·exact List.mem_cons_of_mem _ h
  ·split
   ·rename_i h0
    rcases h with h | h
    ·rw [h, qr8 hx (hl y (by simp)) h0]; simp
    ·exact h
   ·rcases h with h | h
    ·exact List.mem_cons_of_mem _ (qqr hx (fun y hy => hl y (by simp [hy])) z (.inl h))
    ·rcases List.mem_cons.1 h with h | h
     ·simp [h]
     ·exact List.mem_cons_of_mem _ (qqr hx (fun y hy => hl y (by simp [hy])) z (.inr h))
theorem z7a {x : Rec} : ∀ {l : List Rec}, SrtR l → SrtR (z7b x l)
 | [], _ => by simp [z7b, SrtR]
 | y :: l, h => by
  unfold SrtR at h
  rw [List.pairwise_cons] at h
  unfold z7b
  split
  ·rename_i hxy
   unfold SrtR
   rw [List.pairwise_cons, List.pairwise_cons]
   refine ⟨fun z hz => ?_, h⟩
   rcases List.mem_cons.1 hz with e | e
   ·rw [e]; exact hxy
   ·exact qe1 hxy (h.1 z e)
  ·split
   ·unfold SrtR
    rw [List.pairwise_cons]
    exact h
   ·rename_i h1 h2
    unfold SrtR
    rw [List.pairwise_cons]
    refine ⟨fun z hz => ?_, z7a h.2⟩
    rcases qh3 hz with e | e
    ·rw [e]; have := q61 x y; omega
    ·exact h.1 z e
theorem qbj : ∀ l : List Rec, SrtR (qa3 l)
 | [] => List.Pairwise.nil
 | x :: l => z7a (qbj l)
theorem qbi : ∀ {l : List Rec} {z : Rec}, z ∈ qa3 l → z ∈ l
 | [], z, h => by cases h
 | x :: l, z, h => by
  rcases qh3 h with h | h
  ·simp [h]
  ·exact List.mem_cons_of_mem _ (qbi h)
theorem zin : ∀ {l : List Rec}, (∀ y ∈ l, qbb y) → ∀ z, z ∈ l → z ∈ qa3 l
 | [], _, z, h => by cases h
 | x :: l, hl, z, h => by
  refine qqr (hl x (by simp)) (fun y hy => hl y (List.mem_cons_of_mem _ (qbi hy))) z ?_
  rcases List.mem_cons.1 h with h | h
  ·exact .inl h
  ·exact .inr (zin (fun y hy => hl y (by simp [hy])) z h)
theorem q4f {l : List Rec} (hl : ∀ y ∈ l, qbb y) (z : Rec) : z ∈ qa3 l ↔ z ∈ l := ⟨qbi, zin hl z⟩
theorem qcw {l m : List Rec} (hl : ∀ y ∈ l, qbb y) (hm : SrtR m) (h : ∀ x, x ∈ m ↔ x ∈ l) : m = qa3 l :=
 hm.ext (qbj l) fun x => by rw [h x, q4f hl]
def cpt (l : List Rec) : Nat → List Rec
 | 0 => []
 | n + 1 => cpt l n ++ match l[n]? with
  | none => []
  | some x => if n = 0 then [x] else match l[n - 1]? with
   | none => []
   | some y => if q3s x y = 0 then [] else [x]
theorem qbq {l : List Rec} {n : Nat} {x y : Rec} (hn : 0 < n) (hx : l[n]? = some x) (hy : l[n - 1]? = some y) : cpt l (n + 1) = cpt l n ++ if q3s x y = 0 then [] else [x] := by
 conv => lhs; unfold cpt
 rw [hx]
 simp only
 rw [if_neg (by omega), hy]
theorem zl0 {l : List Rec} {x : Rec} (hx : l[0]? = some x) : cpt l 1 = [x] := by
 simp [cpt, hx]
theorem qbr {l : List Rec} : ∀ {n : Nat}, n ≤ l.length → (∀ (j : Nat) x y, j + 1 < n → l[j]? = some y → l[j + 1]? = some x → q3s x y ≠ 0) → cpt l n = l.take n
 | 0, _, _ => by simp [cpt]
 | n + 1, hn, h => by
  have ih := qbr (l := l) (n := n) (by omega) fun j x y hj => h j x y (by omega)
  obtain ⟨x, hx⟩ : ∃ x, l[n]? = some x := ⟨l[n], by simp [show n < l.length by omega]⟩
  rcases Nat.eq_zero_or_pos n with h0 | h0
  ·subst h0
   rw [zl0 hx, List.take_add_one, hx]
   simp
  ·obtain ⟨y, hy⟩ : ∃ y, l[n - 1]? = some y := ⟨l[n - 1], by simp [show n - 1 < l.length by omega]⟩
   rw [qbq h0 hx hy, ih, if_neg (h (n - 1) x y (by omega) hy (by rw [show n - 1 + 1 = n by omega]; exact hx)), List.take_add_one, hx]
   rfl
theorem z7q {l : List Rec} (hs : l.Pairwise fun a b => q3s a b ≤ 0) (hc : ∀ y ∈ l, qbb y) : ∀ {n : Nat}, n ≤ l.length → SrtR (cpt l n) ∧ (∀ x, x ∈ cpt l n ↔ x ∈ l.take n) ∧ (∀ x, l[n - 1]? = some x → 0 < n → ∀ z ∈ cpt l n, z = x ∨ q3s z x < 0)
 | 0, _ => ⟨List.Pairwise.nil, fun x => by simp [cpt], fun x _ h => by omega⟩
 | n + 1, hn => by
  obtain ⟨i1, i2, i3⟩ := z7q hs hc (n := n) (by omega)
  obtain ⟨x, hx⟩ : ∃ x, l[n]? = some x := ⟨l[n], by simp [show n < l.length by omega]⟩
  have hxl := List.mem_of_getElem? hx
  rcases Nat.eq_zero_or_pos n with h0 | h0
  ·subst h0
   rw [zl0 hx]
   refine ⟨by simp [SrtR], fun z => by rw [List.take_add_one, hx]; simp, fun z hz _ w hw => ?_⟩
   simp only [Nat.add_sub_cancel] at hz
   rw [hx] at hz
   cases hz
   exact .inl (by simpa using hw)
  ·obtain ⟨y, hy⟩ : ∃ y, l[n - 1]? = some y := ⟨l[n - 1], by simp [show n - 1 < l.length by omega]⟩
   have hyl := List.mem_of_getElem? hy
   have hle : q3s y x ≤ 0 := by
    rw [List.pairwise_iff_getElem] at hs
    have := hs (n - 1) n (by omega) (by omega) (by omega)
    have e1 : l[n - 1] = y := by rw [List.getElem?_eq_getElem (by omega)] at hy; exact Option.some.inj hy
    have e2 : l[n] = x := by rw [List.getElem?_eq_getElem (by omega)] at hx; exact Option.some.inj hx
    rw [e1, e2] at this
    exact this
   rw [qbq h0 hx hy]
   have hn := q61 x y
   have i3' := i3 y hy h0
   by_cases hz : q3s x y = 0
   ·rw [if_pos hz, List.append_nil]
    have e := qr8 (hc x hxl) (hc y hyl) hz
    subst e
    refine ⟨i1, fun z => ?_, fun z hz' _ w hw => ?_⟩
    ·rw [i2 z, List.take_add_one, hx]
     simp only [Option.toList_some, List.mem_append, List.mem_singleton]
     refine ⟨fun h => .inl h, fun h => h.elim id fun e => ?_⟩
     subst e
     exact List.mem_of_getElem? (i := n - 1) (by rw [List.getElem?_take, if_pos (by omega)]; exact hy)
    ·simp only [Nat.add_sub_cancel] at hz'
     rw [hx] at hz'
     cases hz'
     exact i3' w hw
   ·rw [if_neg hz]
    have hlt : q3s y x < 0 := by omega
    have hall : ∀ w ∈ cpt l n, q3s w x < 0 := fun w hw => by
     rcases i3' w hw with e | e
     ·rw [e]; exact hlt
     ·exact qe1 e hlt
    refine ⟨?_, fun z => ?_, fun z hz' _ w hw => ?_⟩
    ·unfold SrtR
     rw [List.pairwise_append]
     exact ⟨i1, by simp, fun a ha b hb => by rw [List.mem_singleton.1 hb]; exact hall a ha⟩
    ·rw [List.take_add_one, hx]
     simp only [Option.toList_some, List.mem_append, List.mem_singleton, i2 z]
    ·simp only [Nat.add_sub_cancel] at hz'
     rw [hx] at hz'
     cases hz'
     rcases List.mem_append.1 hw with h | h
     ·exact .inr (hall w h)
     ·exact .inl (List.mem_singleton.1 h)
theorem cpt_ord {l s : List Rec} (hp : s.Perm l) (hs : s.Pairwise fun a b => q3s a b ≤ 0) (hc : ∀ y ∈ l, qbb y) : cpt s s.length = qa3 l := by
 have hc' : ∀ y ∈ s, qbb y := fun y hy => hc y (hp.mem_iff.1 hy)
 obtain ⟨h1, h2, _⟩ := z7q hs hc' (Nat.le_refl s.length)
 refine qcw hc h1 fun x => ?_
 rw [h2 x, List.take_length]
 exact hp.mem_iff
end

def NewQ (t : Tmp) (cs : List AVal) : Ex → AS → Prop
 | .ret, s => ∃ k, s.T t = .ptr k 0 ∧ s.M k = some (.cells cs) ∧ q0j cs = true
 | _, _ => False
theorem qcf {P : Program} {fn : Func} {t : Tmp} (hrs : fn.results.toList = [.tmp t]) (tm : Array Value) (w : World) : (results fn tm).run P w = .ok (tm.getD t undef) w := by
 have hm : (fn.results.mapM (fun r => match r with | .tmp t => pure (tm.getD t undef) | .cell c t => do loadVar t (← asAddr (tm.getD c undef)) : ResultVar → Sem Value)).run P w = .ok #[tm.getD t undef] w := by
  rw [Array.mapM_eq_mapM_toList, hrs]
  simp only [Sem.run_map, List.mapM_cons, List.mapM_nil, Sem.run_bind, Sem.run_pure, Result.andThen]
 unfold results
 simp only [Sem.run_bind]
 refine Eq.trans (congrArg (fun r => Result.andThen r _) hm) ?_
 simp [Result.andThen]
theorem EvNew.of_body {E : Env} {f : FuncId} {n : Nat} {t : Tmp} {sc : SC} (hf : FnIs E.P f n [.tmp t] sc) {args cs : List AVal} (hl : args.length ≤ n)
 (h : AW E n sc (NewQ t cs) ⟨q8g args, NoM⟩) : EvNew E.P f args cs := by
 obtain ⟨fn, c, h1, h2, h3, rfl, hrs, h6⟩ := hf
 refine ⟨⟨fn, h1, h2, by simp [h3]⟩, fun B w vs G hG hsz hv hB => ?_⟩
 refine calls_of_wp h1 h3 ?_
 have hR : Rel fn.ntmps B G ⟨q8g args, NoM⟩ { tmps := vs ++ Array.replicate (fn.ntmps - vs.size) undef, defers := [] } w := by
  refine ⟨by simp; omega, rfl, fun t => ?_, fun k blk hk => by simp [NoM] at hk, fun b hb => ⟨hB b hb, hG b⟩, fun b hb => absurd (hG b) hb⟩
  simp only [q8g]
  cases ht : args[t]? with
  | none => exact .undef _
  | some x =>
   have hlt : t < vs.size := by
    rw [hsz]
    rcases Nat.lt_or_ge t args.length with h' | h'
    ·exact h'
    ·rw [List.getElem?_eq_none h'] at ht; cases ht
   have : (vs ++ Array.replicate (fn.ntmps - vs.size) undef).getD t undef = vs[t] := by
    rw [Array.getD_eq_getD_getElem?, Array.getElem?_append_left hlt]
    simp [hlt]
   simp only [Option.getD_some, this]
   exact hv t x _ ht (by simp [hlt])
 refine h c h6 B G _ w hR _ fun e s a' w' G' hA hR' hq => ?_
 cases e with
 | normal => exact hq.elim
 | exit id => exact hq.elim
 | pan x => exact hq.elim
 | ret =>
  obtain ⟨k, q1, q2, q3⟩ := hq
  have hx := hR'.temps t
  rw [q1] at hx
  have e1 : a'.tmps.getD t undef = .pointer (some ⟨G'.β k, 0, none⟩) := by
   generalize a'.tmps.getD t undef = tv at hx
   cases hx
   rfl
  obtain ⟨cc, el, b1, b2, b3, b4, b5⟩ := hR'.mem k _ q2
  let G2 : Gh := { G' with ow := fun b => if b = G'.β k then G'.ow b else none }
  have g2 : ∀ b, G'.ow b = none → G2.ow b = none := fun b hb => by simp only [G2]; split <;> first | exact hb | rfl
  have hge : w.heap.size ≤ G'.β k := by
   rcases Nat.lt_or_ge (G'.β k) w.heap.size with h' | h'
   ·have := (hA.keep _ h' (hG _)).2
    rw [b1] at this
    cases this
   ·exact h'
  refine ⟨hR'.defers, _, qcf hrs a'.tmps w', G2, G'.β k, cc, el, hge, hR'.ol _ (by rw [b1]; simp), by simp only [G2, if_true]; rw [b1]; simp,
   ⟨hA.os, hA.tape, hA.output, hA.size, fun b hb ho => ⟨(hA.keep b hb ho).1, g2 b (hA.keep b hb ho).2⟩⟩, by rw [e1], b3, b4, fun i x hx => ?_⟩
  obtain ⟨u, hu, hcr⟩ := b5 i x hx
  have hst : x.stb = true := q3w q3 hx
  refine ⟨u, hu, ?_⟩
  have hvr : VR (Dm s.M) G' B w' x u := by
   cases x <;> first | exact hcr | (simp [AVal.stb] at hst; done)
  exact hvr.stable (fun b _ hn ho => ⟨rfl, hn, g2 b ho⟩) hst

def FrQ (t : Tmp) (sz : Nat) (xs : List AVal) : Ex → AS → Prop
 | .ret, s => ∃ k e, s.T t = .os k e ∧ s.M k = some (.arr e sz xs) ∧ q0j xs = true
 | _, _ => False
theorem EvFresh.of_body {E : Env} {f : FuncId} {n : Nat} {t : Tmp} {sc : SC} (hf : FnIs E.P f n [.tmp t] sc) {args xs : List AVal} {sz : Nat} (hl : args.length ≤ n)
 (h : AW E n sc (FrQ t sz xs) ⟨q8g args, NoM⟩) : EvFresh E.P f args sz xs := by
 obtain ⟨fn, c, h1, h2, h3, rfl, hrs, h6⟩ := hf
 refine ⟨⟨fn, h1, h2, by simp [h3]⟩, fun B w vs G hG hsz hv hB => ?_⟩
 refine calls_of_wp h1 h3 ?_
 have hR : Rel fn.ntmps B G ⟨q8g args, NoM⟩ { tmps := vs ++ Array.replicate (fn.ntmps - vs.size) undef, defers := [] } w := by
  refine ⟨by simp; omega, rfl, fun t => ?_, fun k blk hk => by simp [NoM] at hk, fun b hb => ⟨hB b hb, hG b⟩, fun b hb => absurd (hG b) hb⟩
  simp only [q8g]
  cases ht : args[t]? with
  | none => exact .undef _
  | some x =>
   have hlt : t < vs.size := by
    rw [hsz]
    rcases Nat.lt_or_ge t args.length with h' | h'
    ·exact h'
    ·rw [List.getElem?_eq_none h'] at ht; cases ht
   have : (vs ++ Array.replicate (fn.ntmps - vs.size) undef).getD t undef = vs[t] := by
    rw [Array.getD_eq_getD_getElem?, Array.getElem?_append_left hlt]
    simp [hlt]
   simp only [Option.getD_some, this]
   exact hv t x _ ht (by simp [hlt])
 refine h c h6 B G _ w hR _ fun e s a' w' G' hA hR' hq => ?_
 cases e with
 | normal => exact hq.elim
 | exit id => exact hq.elim
 | pan x => exact hq.elim
 | ret =>
  obtain ⟨k, e, q1, q2, q3⟩ := hq
  have hx := hR'.temps t
  rw [q1] at hx
  have e1 : a'.tmps.getD t undef = G'.hd k e := by generalize a'.tmps.getD t undef = q at hx; cases hx with | os _ _ _ v hv => exact hv
  have hb : OwnAt (Dm s.M) G' B w' (.arr k) sz xs (G'.hd k e) := hR'.mem k _ q2
  let G2 : Gh := { G' with ow := fun b => if G'.ow b = some (.arr k) then some (.arr k) else none }
  have g2 : ∀ b, G'.ow b = none → G2.ow b = none := fun b hb => by simp [G2, hb]
  refine ⟨hR'.defers, _, qcf hrs a'.tmps w', G2, G'.hd k e, .arr k, by rw [e1], ⟨hA.os, hA.tape, hA.output, hA.size, fun b hb ho => ⟨(hA.keep b hb ho).1, g2 b (hA.keep b hb ho).2⟩⟩, fun b hb' => hR'.ol b fun hn => hb' (g2 b hn), ?_⟩
  exact hb.trade (fun b hb ho => ⟨hb, by simp [G2, ho]⟩) fun x hx u hr => hr.stable (fun b _ hn ho => ⟨rfl, hn, g2 b ho⟩) (q4l q3 x hx)
theorem z97 {P : Program} {s : AS} {x : Operand} {args : Array Operand} {ts : Array TypeId} {f : FuncId} {caps l xs : List AVal} {sz : Nat} (k : Nat) (hf : ev s.T x = .fn f caps)
 (hl : (evs s.T args.toList ++ caps).map (fz (fun _ => false) s.M) = l) (hst : q0j l = true) (he : EvFresh P f l sz xs) (hk : s.M k = none) :
 Hook P s (.call ⟨.value x, args, ts⟩) (fun v M' => v = .os k 0 ∧ M' = upd s.M k (some (.arr 0 sz xs))) := by
 intro n B G a w h o ho K Q hK
 subst hl
 obtain ⟨fn, hfn, hnm, hbd⟩ := he.1.ok
 have hx := h.ev x
 rw [hf] at hx
 generalize hxv : a.eval x = xv at hx
 cases hx with
 | fn _ _ vs hl hh =>
  have hrun : (execOp a.eval o).run P w = .ok (.enter f (args.map a.eval ++ vs)) w := by
   unfold execOp
   rw [ho]
   have h1 : (fn.name = "runtime.NumGoroutine") = False := by simpa using hnm
   have h2 : (fn.body = none) = False := by simp only [eq_iff_iff, iff_false]; intro hn; rw [hn] at hbd; simp at hbd
   simp [resolve, hxv, Deferred.ofValue, invoke, callFunc, hfn, h1, h2]
  unfold Oper.wp
  rw [hrun]
  simp only [Oper.upon]
  obtain ⟨q1, q2⟩ := qar h args
  refine qb4 h (args := evs s.T args.toList ++ caps) (by simp [q1, hl]) (fun i y u hy hu => ?_) hst he hk (fun v' w' G' hA hR hV => hK _ v' _ w' G' ⟨rfl, rfl⟩ hA hR hV)
  rcases Nat.lt_or_ge i (evs s.T args.toList).length with hlt | hge
  ·rw [List.getElem?_append_left hlt] at hy
   rw [Array.getElem?_append_left (by rw [q1]; exact hlt)] at hu
   obtain ⟨u', hu', hr'⟩ := q2 i y hy
   rw [hu] at hu'
   exact (Option.some.inj hu') ▸ hr'
  ·rw [List.getElem?_append_right hge] at hy
   rw [Array.getElem?_append_right (by rw [q1]; exact hge), q1] at hu
   exact hh _ y u hy hu
theorem zjk {P : Program} {TE : TyE} (hT : q45 P TE) {s : AS} {t el : TypeId} {i ei : TyI} {x y : Operand} {k e sz : Nat} {xs : List AVal} {kk : IntKind} {m : Nat} (hx : ev s.T x = .os k e) (hk : s.M k = some (.arr e sz xs)) (hy : ev s.T y = .int kk (m : Int))
 (hm : m ≤ xs.length) (ht : TE t = some i) (htd : i.td = .slice el) (he : TE el = some ei) (hei : ei.size = sz) :
 Hook P s (.slice t x none (some y) none) (fun v M' => v = .os k (e + 1) ∧ M' = upd s.M k (some (.arr (e + 1) sz (xs.take m)))) := by
 intro n B G a w h o ho K Q hK
 have qx := h.ev x
 have qy := h.ev y
 rw [hx] at qx
 rw [hy] at qy
 generalize hxv : a.eval x = xv at qx
 generalize hyv : a.eval y = yv at qy
 have hO : OVR (Dm s.M) G B w (some (.int kk (m : Int))) (some yv) := qy
 have hO0 : OVR (Dm s.M) G B w none none := trivial
 have hb1 : q26 none 0 = some 0 := rfl
 have hb2 : ∀ d, q26 (some (.int kk (m : Int))) d = some m := fun d => by simp [q26]
 have fin : ∀ (v' : Value) (G' : Gh), (Instr.sliceAt t xv none (some yv) none).run P w = .ok v' w → Adv G w G' w → Rel n B G' ⟨s.T, upd s.M k (some (.arr (e + 1) sz (xs.take m)))⟩ a w → v' = G'.hd k (e + 1) → o.wp P a w K Q := by
  intro v' G' hrun hA hR hv
  have : (execOp a.eval o).run P w = .ok (.value v') w := by
   unfold execOp
   rw [ho]
   simp [hxv, hyv, hrun]
  unfold Oper.wp
  rw [this]
  exact hK (.os k (e + 1)) v' _ w G' ⟨rfl, rfl⟩ hA hR (.os k (e + 1) (by simp [Dm, q0a]) v' hv)
 cases qx with
 | os _ _ hD _ hvv =>
  have hown := h.mem k _ hk
  simp only [BlkRel] at hown
  rcases hown with ⟨hn, rfl⟩ | ⟨b, o', cap, c, el', q1, q2, q3, q4, q5, q6, q7, q7', q8⟩
  ·obtain rfl : m = 0 := by simpa using hm
   have := q2g (P := P) hO0 hO (isS := true) (len := 0) (cap := 0) hb1 (hb2 0) (Nat.le_refl _) (Nat.le_refl _)
   obtain ⟨G', hA, hR, hh⟩ := h.nil_arr (k := k) (e := e + 1) (.inr ⟨e, sz, _, hk, rfl⟩) sz
   refine fin (.slice none 0 0) G' ?_ hA (by simpa using hR) hh.symm
   rw [hvv, hn, q0y hT ht htd he this]
   simp
  ·have := q2g (P := P) hO0 hO (isS := true) (len := xs.length) (cap := cap) hb1 (hb2 _) (Nat.zero_le _) (by omega)
   have hself : w.setRow b c = w := setRow_self w b c el' (0, 0) q5
   obtain ⟨G', hA, hR, hh⟩ := h.set_arr hk q1 (e + 1) o' (.inl rfl) (xs.take m) (fun h => by omega) cap (by simp; omega) (fun h => by omega) q5 q3 c q6
    (fun z hz => q7 z (List.mem_of_mem_take hz)) (fun z hz => by rw [q6j q7] at hz; exact q7' z (List.mem_of_mem_take hz)) (fun i x hx => by
     rw [q6j q7, List.getElem?_take] at hx
     split at hx
     ·exact q8 i x hx
     ·cases hx)
   rw [hself] at hA hR
   refine fin _ G' ?_ hA hR hh.symm
   rw [hvv, q1, q0y hT ht htd he this, List.length_take, Nat.min_eq_left hm]
   by_cases hc : cap = 0
   ·simp [hc]
   ·rw [if_neg hc]
    simp [q3e]
theorem qgd {P : Program} {t1 t2 e ty : TypeId} {ik : IntKind} {nm : Bool} (hu : P.underlying t1 = some (.slice e)) (hu2 : P.underlying t2 = some (.int ik)) {inf : TypeInfo} (hi : P.info? e = some inf) {z : Value} (hz : inf.zero = some z) {w : World} {m : Nat} (h0 : 0 < m) (hsz : 0 < inf.size)
 (hm : m ≤ 1000000000) (hfit : m * inf.bytes ≤ 281474976710656) :
 (Builtin.append_ #[t1, t2] ty #[.slice none 0 0, .int .i64 (m : Int)]).run P w =
  .ok (.slice (some ⟨w.heap.size, 0, none⟩) m (grownCap w m 0 e)) (w.drew.alloc (.cells (Builtin.zeroCells z.cells m ++ Builtin.zeroCells z.cells (grownCap w m 0 e - m)) e)) := by
 have hw : IntKind.i64.wrap (m : Int) = (m : Int) := q8q (by omega) (by omega)
 have hne : ¬ (m * inf.size = 0) := by
  intro h
  rcases Nat.mul_eq_zero.1 h with h | h <;> omega
 have hnx : Builtin.nextslicecap m 0 = m := by
  unfold Builtin.nextslicecap
  rw [if_pos (by omega)]
 have h48b : ¬ ((m : Int) * (inf.bytes : Int) > 281474976710656) := by
  have h1 : (m : Int) * (inf.bytes : Int) = ((m * inf.bytes : Nat) : Int) := (Int.natCast_mul m inf.bytes).symm
  rw [h1]
  omega
 have h48 : ¬ ((m : Int) * (inf.bytes : Int) > 2 ^ 48) := by
  rw [show (2 : Int) ^ 48 = 281474976710656 by decide]
  exact h48b
 have hmax : IntKind.i64.max = 9223372036854775807 := by decide
 have h63 : ¬ ((m : Int) > IntKind.i64.max) := by rw [hmax]; omega
 have h49 : ¬ (281474976710656 < m * inf.bytes) := by omega
 simp [Builtin.append_, run_underlying hu, run_underlying hu2, sizeOf, typeInfo, zeroValue, hi, hz, asInt, asIntOf, hw, hne, hnx, h48, h48b, h63, h49, Question.forced, Builtin.firstCells, newRow, grownCap]
 rw [if_neg (by omega), if_neg (by omega), if_neg (by omega)]
theorem z96 {P : Program} {TE : TyE} (hT : q45 P TE) {s : AS} {t1 t2 el : TypeId} {i1 i2 ei : TyI} {ik : IntKind} {x y : Operand} {m : Nat} (d : Nat) (hx : ev s.T x = .nil) (hy : ev s.T y = .int .i64 (m : Int)) (h0 : 0 < m) (hm : m ≤ 1000000000)
 (ht1 : TE t1 = some i1) (hd1 : i1.td = .slice el) (ht2 : TE t2 = some i2) (hd2 : i2.td = .int ik) (he : TE el = some ei) (hok : ei.okElem = true) (hb : m * ei.bytes ≤ 281474976710656) (hd : s.M d = none) :
 Hook P s (.call ⟨.builtin .append, #[x, y], #[t1, t2]⟩) (fun v M' => v = .os d 0 ∧ M' = upd s.M d (some (.arr 0 ei.size (List.replicate m ei.zeroElem)))) := by
 intro n B G a w h o ho K Q hK
 have qx := h.ev x
 have qy := h.ev y
 rw [hx] at qx
 rw [hy] at qy
 generalize hxv : a.eval x = xv at qx
 generalize hyv : a.eval y = yv at qy
 cases qx
 cases qy
 obtain ⟨o1, o2, o3, o4⟩ := q6w hT he hok
 obtain ⟨dd, inf, q1, q2, q3, q4, q5, q6, q7⟩ := hT el ei he
 have hu := q21 hT ht1 hd1
 have hu2 : P.underlying t2 = some (.int ik) := by
  obtain ⟨d2, inf2, r1, r2, _⟩ := hT t2 i2 ht2
  rw [hd2] at r2
  cases d2 <;> simp [TD.of] at r2
  subst r2
  exact r1
 have hrun := qgd (P := P) (ty := o.type) (nm := true) hu hu2 q3 q6 (w := w) h0 (by rw [q4]; exact o1) hm (by rw [q5]; exact hb)
 have hzl : ei.zeroElem.cells.length = ei.size := by rw [o2, o3]
 have hzs : ∀ x ∈ List.replicate m ei.zeroElem, x.cells.length = ei.size := fun x hx => by rw [List.eq_of_mem_replicate hx]; exact hzl
 have hcap : m ≤ grownCap w m 0 el := grownCap_ge _ _ _ _
 have hz1 : (Builtin.zeroCells ei.zero.cells m).size = m * ei.size := by rw [size_zeroCells, q7]
 have hz2 : (Builtin.zeroCells ei.zero.cells (grownCap w m 0 el - m)).size = (grownCap w m 0 el - m) * ei.size := by rw [size_zeroCells, q7]
 have hfz : (flat (List.replicate m ei.zeroElem)).length = m * ei.size := by rw [q0p hzs]; simp
 have hzr : ∀ (j : Nat) (x : AVal), (flat (List.replicate m ei.zeroElem))[j]? = some x → ∃ u, (Builtin.zeroCells ei.zero.cells m)[j]? = some u ∧ VR (Dm s.M) G B (w.drew) x u := by
  have := qbc hT he (D := Dm s.M) (G := G) (B := B) (w := w.drew) o2 o1 m m (Nat.le_refl _)
  unfold Builtin.zeroCells
  rw [show m * ei.zero.cells.size = m * ei.size by rw [q7]]
  exact this
 obtain ⟨G', hA, hR, hh⟩ := (h.drawn (w.drawn + 1)).new_arr (k := d) (e := 0) (.inl hd) ei.size (grownCap w m 0 el) (List.replicate m ei.zeroElem) (Builtin.zeroCells ei.zero.cells m ++ Builtin.zeroCells ei.zero.cells (grownCap w m 0 el - m)) el
  (by simpa using hcap) (by rw [Array.size_append, hz1, hz2, ← Nat.add_mul]; exact Nat.mul_le_mul_right _ (by omega)) hzs
  (fun x hx => by
   obtain ⟨y, hy, hx⟩ := List.mem_flatMap.1 hx
   rw [List.eq_of_mem_replicate hy, o2] at hx
   exact o4 x hx)
  (fun i x hx => by
   obtain ⟨u, hu, hr⟩ := hzr i x hx
   have hlt : i < (Builtin.zeroCells ei.zero.cells m).size := by
    rcases Nat.lt_or_ge i (Builtin.zeroCells ei.zero.cells m).size with h' | h'
    ·exact h'
    ·rw [Array.getElem?_eq_none h'] at hu; cases hu
   exact ⟨u, by rw [Array.getElem?_append_left hlt]; exact hu, hr⟩)
 have hex : (execOp a.eval o).run P w = .ok (.value (.slice (some ⟨w.heap.size, 0, none⟩) m (grownCap w m 0 el))) (w.drew.alloc (.cells (Builtin.zeroCells ei.zero.cells m ++ Builtin.zeroCells ei.zero.cells (grownCap w m 0 el - m)) el)) := by
  have he : execOp a.eval o = builtin .append #[t1, t2] o.type (#[x, y].map fun | .const _ => true | _ => false) (#[x, y].map a.eval) := by
   unfold execOp
   rw [ho]
   rfl
  have hq : #[x, y].map a.eval = #[.slice none 0 0, .int .i64 (m : Int)] := by simp [hxv, hyv]
  have hb2 : builtin .append #[t1, t2] o.type (#[x, y].map fun | .const _ => true | _ => false) #[.slice none 0 0, .int .i64 (m : Int)] = (do pure (.value (← Builtin.append_ #[t1, t2] o.type #[.slice none 0 0, .int .i64 (m : Int)]))) := rfl
  rw [he, hq, hb2]
  simp [hrun]
 unfold Oper.wp
 rw [hex]
 refine hK (.os d 0) _ _ _ G' ⟨rfl, rfl⟩ ((Adv.drawn G w _).trans hA) hR (.os d 0 (by simp [Dm, q0a]) _ ?_)
 rw [hh, List.length_replicate]
theorem qdh {P : Program} {TE : TyE} (hT : q45 P TE) {s : AS} {t el : TypeId} {i : TyI} {x : Operand} (hx : ev s.T x = .nil) (ht : TE t = some i) (hd : i.td = .slice el) :
 Hook P s (.call ⟨.builtin .cap, #[x], #[t]⟩) (fun v M' => v = .int .i64 0 ∧ M' = s.M) := by
 intro n B G a w h o ho K Q hK
 have qx := h.ev x
 rw [hx] at qx
 generalize hxv : a.eval x = xv at qx
 cases qx
 have hu := q21 hT ht hd
 have hex : (execOp a.eval o).run P w = .ok (.value (.int .i64 0)) w := by
  have he : execOp a.eval o = builtin .cap #[t] o.type (#[x].map fun | .const _ => true | _ => false) (#[x].map a.eval) := by
   unfold execOp
   rw [ho]
   rfl
  have hq : #[x].map a.eval = #[.slice none 0 0] := by simp [hxv]
  have hb2 : builtin .cap #[t] o.type (#[x].map fun | .const _ => true | _ => false) #[.slice none 0 0] = (do pure (.value (← Builtin.cap_ #[t] o.type #[.slice none 0 0]))) := rfl
  rw [he, hq, hb2]
  simp [Builtin.cap_, run_underlying hu, goInt]
 unfold Oper.wp
 rw [hex]
 exact hK (.int .i64 0) _ s.M w G ⟨rfl, rfl⟩ (.refl G w) h (.int _ _)

def odd (n : Nat) : Bool := decide (n % 2 = 1)
theorem zix (n : Nat) : odd n = true ↔ n % 2 = 1 := by simp [odd]
theorem odd_succ (n : Nat) : odd (n + 1) = !odd n := by
 unfold odd
 rcases Nat.mod_two_eq_zero_or_one n with h | h
 ·have : (n + 1) % 2 = 1 := by omega
  simp [h, this]
 ·have : (n + 1) % 2 = 0 := by omega
  simp [h, this]
structure CbI (a b : List Int) (f : Bool → Bool → Bool) (i j : Nat) (v : Bool) (t : List Int) : Prop where
 hi : i ≤ a.length
 hj : j ≤ b.length
 sa : ∀ x ∈ t, ∀ y ∈ a.drop i, x < y
 sb : ∀ x ∈ t, ∀ y ∈ b.drop j, x < y
 ab : ∀ x ∈ a.take i, ∀ y ∈ b.drop j, x < y
 ba : ∀ x ∈ b.take j, ∀ y ∈ a.drop i, x < y
 rise : t.Pairwise (fun x y => x < y)
 val : v = f (odd i) (odd j)
 len : odd t.length = v
 le : t.length ≤ i + j
 mem : ∀ m, odd (cnt t m) = f (odd (cnt (a.take i) m)) (odd (cnt (b.take j) m))
theorem CbI.start {a b : List Int} {f : Bool → Bool → Bool} (hf : f false false = false) : CbI a b f 0 0 false [] := by
 refine ⟨Nat.zero_le _, Nat.zero_le _, by simp, by simp, by simp, by simp, .nil, by simp [odd, hf], rfl, Nat.le_refl _, fun m => ?_⟩
 simp [q75, odd, hf]
theorem CbI.step {a b : List Int} {f : Bool → Bool → Bool} (hra : a.Pairwise (fun x y => x < y)) (hrb : b.Pairwise (fun x y => x < y)) {i j : Nat} {v : Bool} {t : List Int} (h : CbI a b f i j v t) {x : Int} {i' j' : Nat}
 (ha : (i' = i + 1 ∧ a[i]? = some x) ∨ (i' = i ∧ ∀ y ∈ a.drop i, x < y)) (hb : (j' = j + 1 ∧ b[j]? = some x) ∨ (j' = j ∧ ∀ y ∈ b.drop j, x < y)) (hx : i' = i + 1 ∨ j' = j + 1) :
 CbI a b f i' j' (f (odd i') (odd j')) (if f (odd i') (odd j') = v then t else t ++ [x]) := by
 have key : ∀ (l : List Int) (k k' : Nat), l.Pairwise (fun x y => x < y) → k ≤ l.length → ((k' = k + 1 ∧ l[k]? = some x) ∨ (k' = k ∧ ∀ y ∈ l.drop k, x < y)) →
  k' ≤ l.length ∧ (∀ y ∈ l.drop k', x < y) ∧ (∀ y ∈ l.take k', y ∈ l.take k ∨ y = x) ∧ (∀ y ∈ l.drop k', y ∈ l.drop k) ∧ (∀ m, m < x → cnt (l.take k') m = cnt (l.take k) m) ∧ (l.take k').length = k' := by
  intro l k k' hr hk hc
  rcases hc with ⟨rfl, hg⟩ | ⟨rfl, hg⟩
  ·obtain ⟨hlt, he⟩ := List.getElem?_eq_some_iff.1 hg
   have hd : l.drop k = x :: l.drop (k + 1) := by rw [List.drop_eq_getElem_cons hlt, he]
   have ht : l.take (k + 1) = l.take k ++ [x] := by rw [List.take_add_one, hg]; rfl
   have hp : (x :: l.drop (k + 1)).Pairwise (fun x y => x < y) := by rw [← hd]; exact hr.drop
   refine ⟨hlt, fun y hy => (List.pairwise_cons.1 hp).1 y hy, fun y hy => ?_, fun y hy => by rw [hd]; exact List.mem_cons_of_mem _ hy, fun m hm => ?_, by rw [List.length_take]; omega⟩
   ·rw [ht] at hy
    simpa using hy
   ·rw [ht, q88, q20, if_neg (by omega), q75]; rfl
  ·exact ⟨hk, hg, fun y hy => .inl hy, fun y hy => hy, fun _ _ => rfl, by rw [List.length_take]; omega⟩
 obtain ⟨a1, a2, a3, a4, a5, a6⟩ := key a i i' hra h.hi ha
 obtain ⟨b1, b2, b3, b4, b5, b6⟩ := key b j j' hrb h.hj hb
 have hxin : (x ∈ a.drop i) ∨ (x ∈ b.drop j) := by
  rcases hx with e | e
  ·rcases ha with ⟨_, hg⟩ | ⟨e2, _⟩
   ·obtain ⟨hlt, he⟩ := List.getElem?_eq_some_iff.1 hg
    exact .inl (by rw [List.drop_eq_getElem_cons hlt, he]; exact List.mem_cons_self)
   ·omega
  ·rcases hb with ⟨_, hg⟩ | ⟨e2, _⟩
   ·obtain ⟨hlt, he⟩ := List.getElem?_eq_some_iff.1 hg
    exact .inr (by rw [List.drop_eq_getElem_cons hlt, he]; exact List.mem_cons_self)
   ·omega
 have tx : ∀ y ∈ t, y < x := fun y hy => by
  rcases hxin with e | e
  ·exact h.sa y hy x e
  ·exact h.sb y hy x e
 have ax : ∀ y ∈ a.take i, y < x := fun y hy => by
  rcases hxin with e | e
  ·have h1 := hra
   rw [← List.take_append_drop i a, List.pairwise_append] at h1
   exact h1.2.2 y hy x e
  ·exact h.ab y hy x e
 have bx : ∀ y ∈ b.take j, y < x := fun y hy => by
  rcases hxin with e | e
  ·exact h.ba y hy x e
  ·have h1 := hrb
   rw [← List.take_append_drop j b, List.pairwise_append] at h1
   exact h1.2.2 y hy x e
 have ax' : ∀ y ∈ a.take i', y ≤ x := fun y hy => by
  rcases a3 y hy with e | e
  ·have := ax y e; omega
  ·omega
 have bx' : ∀ y ∈ b.take j', y ≤ x := fun y hy => by
  rcases b3 y hy with e | e
  ·have := bx y e; omega
  ·omega
 have tx' : ∀ y ∈ (if f (odd i') (odd j') = v then t else t ++ [x]), y ≤ x := fun y hy => by
  split at hy
  ·have := tx y hy; omega
  ·rcases List.mem_append.1 hy with e | e
   ·have := tx y e; omega
   ·simp at e; omega
 have hlen : odd (if f (odd i') (odd j') = v then t else t ++ [x]).length = f (odd i') (odd j') := by
  by_cases e : f (odd i') (odd j') = v
  ·rw [if_pos e, h.len, e]
  ·rw [if_neg e, List.length_append]
   show odd (t.length + 1) = _
   rw [odd_succ, h.len]
   revert e
   cases v <;> cases f (odd i') (odd j') <;> simp
 refine ⟨a1, b1, fun y hy z hz => ?_, fun y hy z hz => ?_, fun y hy z hz => ?_, fun y hy z hz => ?_, ?_, rfl, hlen, ?_, fun m => ?_⟩
 ·have := tx' y hy; have := a2 z hz; omega
 ·have := tx' y hy; have := b2 z hz; omega
 ·have := ax' y hy; have := b2 z hz; omega
 ·have := bx' y hy; have := a2 z hz; omega
 ·split
  ·exact h.rise
  ·exact qcu h.rise tx
 ·have h1 := h.le
  have h2 : i + j + 1 ≤ i' + j' := by omega
  split
  ·omega
  ·simp only [List.length_append, List.length_cons, List.length_nil]; omega
 ·rcases Int.lt_or_le m x with hm | hm
  ·rw [a5 m hm, b5 m hm, ← h.mem m]
   congr 1
   split
   ·rfl
   ·rw [q88, q20, if_neg (by omega), q75]; rfl
  ·rw [qdz (fun y hy => Int.le_trans (ax' y hy) hm), qdz (fun y hy => Int.le_trans (bx' y hy) hm), qdz (fun y hy => Int.le_trans (tx' y hy) hm), a6, b6, hlen]
theorem CbI.done {a b : List Int} {f : Bool → Bool → Bool} {v : Bool} {t : List Int} (h : CbI a b f a.length b.length v t) (hf : f false false = false) {p q : Int → Prop} (ha : Turns p a) (hb : Turns q b) (r : Int → Prop)
 (hr : ∀ m, r m ↔ f (odd (cnt a m)) (odd (cnt b m)) = true) : Turns r t := by
 refine ⟨h.rise, ?_, fun m => ?_⟩
 ·have h1 := h.val
  have e1 : odd a.length = false := by have := ha.even; simp [odd]; omega
  have e2 : odd b.length = false := by have := hb.even; simp [odd]; omega
  rw [e1, e2, hf] at h1
  have := h.len
  rw [h1] at this
  simp [odd] at this
  omega
 ·rw [hr, ← zix, h.mem m, List.take_length, List.take_length]

def qwd : List SOp := [zO 6 (.assign (.const (.slice none 0 0)))]
instance : Live qwd := ⟨[0,1,2]⟩
def qwc : List SOp := [zO 7 (.assign (.const (.slice none 0 0)))]
instance : Live qwc := ⟨[0,1,2]⟩
def qwb : List SOp := [zO 8 (.assign (.const (.int .i64 0))),zO 9 (.assign (.const (.int .i64 0)))]
instance : Live qwb := ⟨[0,1,2,7]⟩
def qwa : List SOp := [zO 10 (.assign (.const (.bool false)))]
instance : Live qwa := ⟨[0,1,2,7,8,9]⟩
def qgl : List SOp := [zM 15 8,zM 16 0,zO 17 (.call ⟨.builtin .len,#[.tmp 16],#[23]⟩),zO 18 (.binOp .lss 3 (.tmp 15) (.tmp 17) 3),zM 19 18,⟨some 20,.move (.tmp 9),some ((some 19),false)⟩,⟨some 21,.move (.tmp 1),some ((some 19),false)⟩,⟨some 22,.call ⟨.builtin .len,#[.tmp 21],#[23]⟩,some ((some 19),false)⟩,⟨some 23,.binOp .lss 3 (.tmp 20) (.tmp 22) 3,some ((some 19),false)⟩,zO 24 (.pick (.tmp 19) (.const (.bool true)) (.tmp 23))]
instance : Live qgl := ⟨[0,1,2,7,8,9,10]⟩
def qgk : List SOp := [zO 11 (.assign (.const (.int .i64 0)))]
instance : Live qgk := ⟨[0,1,2,7,8,9,10]⟩
def qgj : List SOp := [zM 25 9,zM 26 1,zO 27 (.call ⟨.builtin .len,#[.tmp 26],#[23]⟩),zO 28 (.binOp .eql 3 (.tmp 25) (.tmp 27) 3),zM 29 28,⟨some 30,.move (.tmp 8),some ((some 29),false)⟩,⟨some 31,.move (.tmp 0),some ((some 29),false)⟩,⟨some 32,.call ⟨.builtin .len,#[.tmp 31],#[23]⟩,some ((some 29),false)⟩,⟨some 33,.binOp .lss 3 (.tmp 30) (.tmp 32) 3,some ((some 29),false)⟩,⟨some 34,.move (.tmp 33),some ((some 29),false)⟩,⟨some 35,.move (.tmp 0),some ((some 34),true)⟩,⟨some 36,.move (.tmp 8),some ((some 34),true)⟩,⟨some 37,.indexAddr 23 (.tmp 35) (.tmp 36),some ((some 34),true)⟩,⟨some 38,.load 3 (.tmp 37),some ((some 34),true)⟩,⟨some 39,.move (.tmp 1),some ((some 34),true)⟩,⟨some 40,.move (.tmp 9),some ((some 34),true)⟩,⟨some 41,.indexAddr 23 (.tmp 39) (.tmp 40),some ((some 34),true)⟩,⟨some 42,.load 3 (.tmp 41),some ((some 34),true)⟩,⟨some 43,.binOp .lss 3 (.tmp 38) (.tmp 42) 3,some ((some 34),true)⟩,⟨some 44,.pick (.tmp 34) (.tmp 43) (.const (.bool false)),some ((some 29),false)⟩,zO 45 (.pick (.tmp 29) (.const (.bool true)) (.tmp 44))]
instance : Live qgj := ⟨[0,1,2,7,8,9,10]⟩
def qgi : List SOp := [zM 46 0,zM 47 8,zI 48 23 46 47,zL 49 3 48,zG 11 49]
instance : Live qgi := ⟨[0,1,2,7,8,9,10]⟩
def qgh : List SOp := [zM 50 1,zM 51 9,zI 52 23 50 51,zL 53 3 52,zG 11 53]
instance : Live qgh := ⟨[0,1,2,7,8,9,10]⟩
def qco : List SOp := [zM 54 8,zM 55 0,zO 56 (.call ⟨.builtin .len,#[.tmp 55],#[23]⟩),zO 57 (.binOp .lss 3 (.tmp 54) (.tmp 56) 3),zM 58 57,⟨some 59,.move (.tmp 0),some ((some 58),true)⟩,⟨some 60,.move (.tmp 8),some ((some 58),true)⟩,⟨some 61,.indexAddr 23 (.tmp 59) (.tmp 60),some ((some 58),true)⟩,⟨some 62,.load 3 (.tmp 61),some ((some 58),true)⟩,⟨some 63,.move (.tmp 11),some ((some 58),true)⟩,⟨some 64,.binOp .eql 3 (.tmp 62) (.tmp 63) 3,some ((some 58),true)⟩,zO 65 (.pick (.tmp 58) (.tmp 64) (.const (.bool false)))]
instance : Live qco := ⟨[0,1,2,7,8,9,10,11]⟩
def qcn : List SOp := [zM 66 8,zO 67 (.binOp .add 3 (.tmp 66) (.const (.int .i64 1)) 3),zG 8 67]
instance : Live qcn := ⟨[0,1,2,7,8,9,10,11]⟩
def qcm : List SOp := [zM 68 9,zM 69 1,zO 70 (.call ⟨.builtin .len,#[.tmp 69],#[23]⟩),zO 71 (.binOp .lss 3 (.tmp 68) (.tmp 70) 3),zM 72 71,⟨some 73,.move (.tmp 1),some ((some 72),true)⟩,⟨some 74,.move (.tmp 9),some ((some 72),true)⟩,⟨some 75,.indexAddr 23 (.tmp 73) (.tmp 74),some ((some 72),true)⟩,⟨some 76,.load 3 (.tmp 75),some ((some 72),true)⟩,⟨some 77,.move (.tmp 11),some ((some 72),true)⟩,⟨some 78,.binOp .eql 3 (.tmp 76) (.tmp 77) 3,some ((some 72),true)⟩,zO 79 (.pick (.tmp 72) (.tmp 78) (.const (.bool false)))]
instance : Live qcm := ⟨[0,1,2,7,8,9,10,11]⟩
def qcl : List SOp := [zM 80 9,zO 81 (.binOp .add 3 (.tmp 80) (.const (.int .i64 1)) 3),zG 9 81]
instance : Live qcl := ⟨[0,1,2,7,8,9,10,11]⟩
def qck : List SOp := [zM 82 8,zO 83 (.binOp .rem 3 (.tmp 82) (.const (.int .i64 2)) 3),zO 84 (.binOp .eql 3 (.tmp 83) (.const (.int .i64 1)) 3),zM 85 9,zO 86 (.binOp .rem 3 (.tmp 85) (.const (.int .i64 2)) 3),zO 87 (.binOp .eql 3 (.tmp 86) (.const (.int .i64 1)) 3),zG 12 84,zG 13 87]
instance : Live qck := ⟨[0,1,2,7,8,9,10,11]⟩
def qcj : List SOp := [zM 88 2,zO 89 (.binOp .eql 3 (.tmp 88) (.const (.int .i64 1)) 3),zM 90 89,⟨some 91,.move (.tmp 12),some ((some 90),true)⟩,zO 92 (.pick (.tmp 90) (.tmp 91) (.const (.bool false))),zM 93 92,⟨some 94,.move (.tmp 13),some ((some 93),true)⟩,zO 95 (.pick (.tmp 93) (.tmp 94) (.const (.bool false))),zM 96 95,⟨some 97,.move (.tmp 2),some ((some 96),false)⟩,⟨some 98,.binOp .eql 3 (.tmp 97) (.const (.int .i64 2)) 3,some ((some 96),false)⟩,⟨some 99,.move (.tmp 98),some ((some 96),false)⟩,⟨some 100,.move (.tmp 12),some ((some 99),true)⟩,⟨some 101,.pick (.tmp 99) (.tmp 100) (.const (.bool false)),some ((some 96),false)⟩,⟨some 102,.move (.tmp 101),some ((some 96),false)⟩,⟨some 103,.move (.tmp 13),some ((some 102),true)⟩,⟨some 104,.unOp .not 4 (.tmp 103),some ((some 102),true)⟩,⟨some 105,.pick (.tmp 102) (.tmp 104) (.const (.bool false)),some ((some 96),false)⟩,zO 106 (.pick (.tmp 96) (.const (.bool true)) (.tmp 105)),zG 14 106]
instance : Live qcj := ⟨[0,1,2,7,8,9,10,11,12,13]⟩
def qci : List SOp := [zM 107 14,zM 108 10,zO 109 (.binOp .neq 4 (.tmp 107) (.tmp 108) 4)]
instance : Live qci := ⟨[0,1,2,7,8,9,10,11,14]⟩
def qch : List SOp := [zM 110 7,zM 111 11,zO 112 (.buildSlice 23 1 #[(0,.tmp 111)]),zO 113 (.call ⟨.builtin .append,#[.tmp 110,.tmp 112],#[23,23]⟩),zG 7 113]
instance : Live qch := ⟨[0,1,2,7,8,9,11,14]⟩
def qcg : List SOp := [zM 114 14,zG 10 114]
instance : Live qcg := ⟨[0,1,2,7,8,9,14]⟩
def qkd : List SOp := [zM 115 7,zG 6 115]
instance : Live qkd := ⟨[7]⟩
def qik : SC :=
 (.seq (.seq (.ops false qgl) (.cond (.tmp 24) .skip (.exit 0))) (.block 1 (.seq (.ops false qgk) (.seq (.seq (.ops true qgj) (.cond (.tmp 45) (.ops false qgi) (.ops false qgh))) (.seq (.seq (.ops false qco) (.cond (.tmp 65) (.ops false qcn) .skip)) (.seq (.seq (.ops false qcm) (.cond (.tmp 79) (.ops false qcl) .skip)) (.seq (.ops false qck) (.seq (.ops false qcj) (.seq (.ops false qci) (.cond (.tmp 109) (.seq (.ops false qch) (.ops false qcg)) .skip))))))))))
def t_k166 : SC :=
 (.seq (.ops false qwd) (.seq (.ops false qwc) (.seq (.ops false qwb) (.seq (.ops false qwa) (.seq (.block 0 (.loop qik)) (.seq (.ops false qkd) .ret))))))
theorem it_k166 : FnIs Tryz.prog 166 116 [.tmp 6] t_k166 := ⟨Tryz.f166, _, Tryz.func166, rfl, rfl, rfl, rfl, by kernel_rfl⟩

def qf1 : SC := (.seq (.seq (.ops false qcm) (.cond (.tmp 79) (.ops false qcl) .skip)) (.seq (.ops false qck) (.seq (.ops false qcj) (.seq (.ops false qci) (.cond (.tmp 109) (.seq (.ops false qch) (.ops false qcg)) .skip)))))
def qf0 : SC := (.seq (.seq (.ops false qco) (.cond (.tmp 65) (.ops false qcn) .skip)) qf1)
def qez : SC := (.seq (.seq (.ops true qgj) (.cond (.tmp 45) (.ops false qgi) (.ops false qgh))) qf0)
def qph : SC := (.seq (.seq (.ops false qgl) (.cond (.tmp 24) .skip (.exit 0))) (.block 1 (.seq (.ops false qgk) qez)))
theorem qr6 : qik = qph := rfl

structure CbS where
 i : Nat
 j : Nat
 v : Bool
 t : List Int
theorem qrt (i : Nat) : ((i : Int)).tmod 2 = ((i % 2 : Nat) : Int) := by rw [Int.ofNat_tmod]; rfl
theorem ziy (i : Nat) : decide (((i % 2 : Nat) : Int) = 1) = odd i := by
 unfold odd
 rw [decide_eq_decide]
 omega
theorem zjq {l : List Int} {i : Nat} (h : i < l.length) : l[i]? = some (l.getD i 0) := by simp [h]
theorem qfn {l : List Int} (hr : l.Pairwise (fun x y => x < y)) {i : Nat} {x : Int} (h : i < l.length → x < l.getD i 0) : ∀ y ∈ l.drop i, x < y := by
 intro y hy
 rcases Nat.lt_or_ge i l.length with hi | hi
 ·rw [List.drop_eq_getElem_cons hi] at hy
  have hp := hr.drop (i := i)
  rw [List.drop_eq_getElem_cons hi] at hp
  have e : l.getD i 0 = l[i] := by simp [hi]
  have h1 := h hi
  rw [e] at h1
  rcases List.mem_cons.1 hy with rfl | hy
  ·exact h1
  ·have := (List.pairwise_cons.1 hp).1 y hy
   omega
 ·rw [List.drop_eq_nil_of_le hi] at hy
  cases hy
theorem ev_k166 {a b t : List Int} {p q r : Int → Prop} (ha : Turns p a) (hb : Turns q b) (ht : Turns r t) (hla : a.length ≤ 400000000) (hlb : b.length ≤ 400000000) (rule : Int) (f : Bool → Bool → Bool)
 (hrf : (rule = 1 ∧ f = fun x y => x && y) ∨ (rule = 2 ∧ f = fun x y => x && !y)) (hr : ∀ m, r m ↔ f (odd (cnt a m)) (odd (cnt b m)) = true) :
 Ev (En Tryz.prog rfl).P 166 [.sl 1 (q05 a), .sl 1 (q05 b), .int .i64 rule] (.ret (.sl 1 (q05 t))) := by
 refine Ev.of_body it_k166 (by simp) (Run.start ?_)
 unfold t_k166
 have e1 := q0f a
 have e2 := q0f b
 have hf : f false false = false := by rcases hrf with ⟨_, rfl⟩ | ⟨_, rfl⟩ <;> rfl
 (have hF := (aI @e1 @e2); refine q01 (k:=?_); clear hF)
 refine Run.wk (Wk.own_nil 7 113 1 rfl rfl) ?_
 refine Run.while (σ := CbS) (fun z => ⟨tms [(0, .sl 1 (q05 a)), (1, .sl 1 (q05 b)), (2, .int .i64 rule), (7, .os 113 z.t.length), (8, .int .i64 (z.i : Int)), (9, .int .i64 (z.j : Int)), (10, .bool z.v)], mms [(113, .arr z.t.length 1 (q05 z.t))]⟩)
  (fun z => CbI a b f z.i z.j z.v z.t) (fun z => (a.length - z.i) + (b.length - z.j)) ⟨0, 0, false, []⟩ (have hW := @q02; q0h) (CbI.start hf) ?_
 rintro ⟨i, j, v, u⟩ h
 dsimp only at h ⊢
 have hi := h.hi
 have hj := h.hj
 have hle := h.le
 have e3 := q0f u
 rw [qr6]
 unfold qph
 refine Run.mid (σ := Unit) (fun _ => ⟨tms [(0, .sl 1 (q05 a)), (1, .sl 1 (q05 b)), (2, .int .i64 rule), (7, .os 113 u.length), (8, .int .i64 (i : Int)), (9, .int .i64 (j : Int)), (10, .bool v)], mms [(113, .arr u.length 1 (q05 u))]⟩) (fun _ => i < a.length ∨ j < b.length) ?_ ?_
 ·(focus (have hF := (aI @e1 (aI @e2 @e3)); (repeat' (first | refine go1 (k:=?_) | with_reducible refine Ny.of ?_ ?_ | (refine Hyp.of ?_; intro hc; (try simp only [hc]); (try simp only [Bh] at hc)))); all_goals clear hF))
  ·(refine Fin.nextW (()) ?_ (have hW := True.intro; q0h); (try dsimp only))
   exact .inl (by omega)
  ·(refine Fin.nextW (()) ?_ (have hW := True.intro; q0h); (try dsimp only))
   exact .inr (by omega)
  ·rw [show i = a.length by omega, show j = b.length by omega] at h
   rw [← (h.done hf ha hb r hr).uniq ht]
   exact qg8 (.sl 1 (q05 u))
 intro _ hin
 (have hF := (aI @e1 (aI @e2 @e3)); refine q01 (k:=?_); clear hF)
 unfold qez
 refine Run.mid (σ := Int) (fun x => ⟨tms [(0, .sl 1 (q05 a)), (1, .sl 1 (q05 b)), (2, .int .i64 rule), (7, .os 113 u.length), (8, .int .i64 (i : Int)), (9, .int .i64 (j : Int)), (10, .bool v), (11, .int .i64 x)], mms [(113, .arr u.length 1 (q05 u))]⟩)
  (fun x => (i < a.length → x ≤ a.getD i 0) ∧ (j < b.length → x ≤ b.getD j 0) ∧ ((i < a.length ∧ a.getD i 0 = x) ∨ (j < b.length ∧ b.getD j 0 = x))) ?_ ?_
 ·(focus (have hF := (aI (aI @e1 @e2) (aI @e3 @q9s)); (repeat' (first | refine go1 (k:=?_) | with_reducible refine Ny.of ?_ ?_ | (refine Hyp.of ?_; intro hc; (try simp only [hc]); (try simp only [Bh] at hc)))); all_goals clear hF))
  all_goals first
   | ((refine Fin.nextW (a.getD i 0) ?_ (have hW := True.intro; q0h); (try dsimp only))
      exact ⟨fun _ => Int.le_refl _, fun _ => by omega, .inl ⟨by omega, rfl⟩⟩)
   | ((refine Fin.nextW (b.getD j 0) ?_ (have hW := True.intro; q0h); (try dsimp only))
      exact ⟨fun _ => by omega, fun _ => Int.le_refl _, .inr ⟨by omega, rfl⟩⟩)
 rintro x ⟨x1, x2, x3⟩
 unfold qf0
 refine Run.mid (σ := Nat) (fun i' => ⟨tms [(0, .sl 1 (q05 a)), (1, .sl 1 (q05 b)), (2, .int .i64 rule), (7, .os 113 u.length), (8, .int .i64 (i' : Int)), (9, .int .i64 (j : Int)), (10, .bool v), (11, .int .i64 x)], mms [(113, .arr u.length 1 (q05 u))]⟩)
  (fun i' => (i' = i + 1 ∧ i < a.length ∧ a.getD i 0 = x) ∨ (i' = i ∧ (i < a.length → x < a.getD i 0))) ?_ ?_
 ·(focus (have hF := (aI (aI @e1 @e2) (aI @e3 @q9s)); (repeat' (first | refine go1 (k:=?_) | with_reducible refine Ny.of ?_ ?_ | (refine Hyp.of ?_; intro hc; (try simp only [hc]); (try simp only [Bh] at hc)))); all_goals clear hF))
  all_goals first
   | ((refine Fin.nextW (i + 1) ?_ (have hW := True.intro; q0h); (try dsimp only))
      exact .inl ⟨rfl, by omega, by omega⟩)
   | ((refine Fin.nextW (i) ?_ (have hW := True.intro; q0h); (try dsimp only))
      exact .inr ⟨rfl, fun h => by have := x1 h; omega⟩)
 intro i' hi'
 unfold qf1
 refine Run.mid (σ := Nat) (fun j' => ⟨tms [(0, .sl 1 (q05 a)), (1, .sl 1 (q05 b)), (2, .int .i64 rule), (7, .os 113 u.length), (8, .int .i64 (i' : Int)), (9, .int .i64 (j' : Int)), (10, .bool v), (11, .int .i64 x)], mms [(113, .arr u.length 1 (q05 u))]⟩)
  (fun j' => (j' = j + 1 ∧ j < b.length ∧ b.getD j 0 = x) ∨ (j' = j ∧ (j < b.length → x < b.getD j 0))) ?_ ?_
 ·(focus (have hF := (aI (aI @e1 @e2) (aI @e3 @q9s)); (repeat' (first | refine go1 (k:=?_) | with_reducible refine Ny.of ?_ ?_ | (refine Hyp.of ?_; intro hc; (try simp only [hc]); (try simp only [Bh] at hc)))); all_goals clear hF))
  all_goals first
   | ((refine Fin.nextW (j + 1) ?_ (have hW := True.intro; q0h); (try dsimp only))
      exact .inl ⟨rfl, by omega, by omega⟩)
   | ((refine Fin.nextW (j) ?_ (have hW := True.intro; q0h); (try dsimp only))
      exact .inr ⟨rfl, fun h => by have := x2 h; omega⟩)
 intro j' hj'
 have st := h.step ha.rise hb.rise (x := x) (i' := i') (j' := j') (hi'.imp (fun q => ⟨q.1, by rw [zjq q.2.1, q.2.2]⟩) (fun q => ⟨q.1, qfn ha.rise q.2⟩)) (hj'.imp (fun q => ⟨q.1, by rw [zjq q.2.1, q.2.2]⟩) (fun q => ⟨q.1, qfn hb.rise q.2⟩)) (by
  rcases x3 with q | q
  ·rcases hi' with w | w
   ·exact .inl w.1
   ·have := w.2 q.1; omega
  ·rcases hj' with w | w
   ·exact .inr w.1
   ·have := w.2 q.1; omega)
 have st1 := st.hi
 have st2 := st.hj
 have st3 : (a.length - i') + (b.length - j') < (a.length - i) + (b.length - j) := by omega
 have hub : u.length ≤ 800000000 := by omega
 have m1 := qrt i'
 have m2 := qrt j'
 have m3 := ziy i'
 have m4 := ziy j'
 have hlu : (u ++ [x]).length = u.length + 1 := by simp
 clear hi' hj' x1 x2 x3 hi hj
 generalize odd i' = o1 at st m3
 generalize odd j' = o2 at st m4
 rcases hrf with ⟨rfl, rfl⟩ | ⟨rfl, rfl⟩ <;> cases o1 <;> cases o2 <;> cases v <;> simp only [Bool.and_true, Bool.and_false, Bool.true_and, Bool.false_and, Bool.not_true, Bool.not_false, if_true, reduceCtorEq, if_false] at st
 all_goals
  (have hF := (aI (aI (aI @e1 @e2) (aI @e3 @m1)) (aI (aI @m2 @m3) (aI @m4 @q3p))); refine q01 (k:=?_); clear hF)
  first
   | (have st' : CbI a b _ i' j' true u := st
      (refine Fin.nextW (⟨i', j', true, u⟩) ?_ (have hW := @q02; q0h); (try dsimp only))
      exact ⟨st', st3⟩)
   | (have st' : CbI a b _ i' j' false u := st
      (refine Fin.nextW (⟨i', j', false, u⟩) ?_ (have hW := @q02; q0h); (try dsimp only))
      exact ⟨st', st3⟩)
   | (have st' : CbI a b _ i' j' true (u ++ [x]) := st
      (refine Fin.nextW (⟨i', j', true, u ++ [x]⟩) ?_ (have hW := (aI @q02 @hlu); q0h); (try dsimp only))
      exact ⟨st', st3⟩)
   | (have st' : CbI a b _ i' j' false (u ++ [x]) := st
      (refine Fin.nextW (⟨i', j', false, u ++ [x]⟩) ?_ (have hW := (aI @q02 @hlu); q0h); (try dsimp only))
      exact ⟨st', st3⟩)

def z24 : List SOp := [zO 1 (.box 168 (.tmp 0)),zO 2 (.alloc 26)]
instance : Live z24 := ⟨[0]⟩
def z23 : List SOp := [zO 3 (.alloc 26)]
instance : Live z23 := ⟨[1,2]⟩
def z21 : List SOp := [zO 8 (.makeSlice 23 (.const (.int .i64 16)) (.const (.int .i64 16))),zG 4 8]
instance : Live z21 := ⟨[1,2,3]⟩
def z20 : List SOp := [zO 5 (.assign (.const (.int .i64 0)))]
instance : Live z20 := ⟨[1,2,3,4]⟩
def z1z : List SOp := [zO 6 (.assign (.const (.int .i64 0)))]
instance : Live z1z := ⟨[1,2,3,4,5]⟩
def z1y : List SOp := [zM 9 6,zO 10 (.binOp .lss 3 (.tmp 9) (.const (.int .i64 16)) 3)]
instance : Live z1y := ⟨[1,2,3,4,5,6]⟩
def z1x : List SOp := [zO 7 (.assign (.const (.int .i64 0)))]
instance : Live z1x := ⟨[1,2,3,4,5,6]⟩
def z1w : List SOp := [zM 13 7,zO 14 (.binOp .add 3 (.tmp 13) (.const (.int .i64 1)) 3),zM 15 6,zF 16 168 1 0,zI 17 166 16 15,zL 18 23 17,zO 19 (.call ⟨.builtin .len,#[.tmp 18],#[23]⟩),zO 20 (.binOp .lss 3 (.tmp 14) (.tmp 19) 3)]
instance : Live z1w := ⟨[1,2,3,4,5,6,7]⟩
def z1v : List SOp := [zM 23 6,zF 24 168 1 0,zI 25 166 24 23,zL 26 23 25,zM 27 7,zI 28 23 26 27,zL 29 3 28,zO 30 (.binOp .eql 3 (.tmp 29) (.const (.int .i64 1)) 3)]
instance : Live z1v := ⟨[1,2,3,4,5,6,7]⟩
def qmt : List SOp := [zM 31 4,zM 32 6,zM 33 6,zF 34 168 1 0,zI 35 166 34 33,zL 36 23 35,zM 37 7,zO 38 (.binOp .add 3 (.tmp 37) (.const (.int .i64 1)) 3),zI 39 23 36 38,zL 40 3 39,zO 41 (.binOp .sub 3 (.tmp 40) (.const (.int .i64 1)) 3),zI 42 23 31 32,⟨none,.store 3 (.tmp 42) (.tmp 41),none⟩]
instance : Live qmt := ⟨[1,2,3,4,6,7]⟩
def qms : List SOp := [zM 43 6,zO 44 (.binOp .add 3 (.tmp 43) (.const (.int .i64 1)) 3),zG 5 44]
instance : Live qms := ⟨[1,2,3,4,6,7]⟩
def qcr : List SOp := [zF 45 26 3 1,zL 46 24 45,zM 47 6,zM 48 6,zF 49 168 1 0,zI 50 166 49 48,zL 51 23 50,zM 52 7,zI 53 23 51 52,zL 54 3 53,zM 55 6,zF 56 168 1 0,zI 57 166 56 55,zL 58 23 57,zM 59 7,zO 60 (.binOp .add 3 (.tmp 59) (.const (.int .i64 1)) 3),zI 61 23 58 60,zL 62 3 61,zO 63 (.binOp .sub 3 (.tmp 62) (.const (.int .i64 1)) 3),zO 64 (.build 127 #[(0,.tmp 47),(1,.tmp 54),(2,.tmp 63)]),zO 65 (.buildSlice 24 1 #[(0,.tmp 64)]),zO 66 (.call ⟨.builtin .append,#[.tmp 46,.tmp 65],#[24,24]⟩),zF 67 26 3 1,⟨none,.store 24 (.tmp 67) (.tmp 66),none⟩]
instance : Live qcr := ⟨[1,2,3,4,5,6,7]⟩
instance : Rd qcr := ⟨fun j => j == 1⟩
def qmr : List SOp := [zM 21 7,zO 22 (.binOp .add 3 (.tmp 21) (.const (.int .i64 2)) 3),zG 7 22]
instance : Live qmr := ⟨[1,2,3,4,5,6,7]⟩
def qmq : List SOp := [zM 11 6,zO 12 (.binOp .add 3 (.tmp 11) (.const (.int .i64 1)) 3),zG 6 12]
instance : Live qmq := ⟨[1,2,3,4,5,6]⟩
def qmp : List SOp := [zM 68 4,zM 69 5,zO 70 (.slice 23 (.tmp 68) none (some (.tmp 69)) none),zF 71 26 3 0,⟨none,.store 23 (.tmp 71) (.tmp 70),none⟩]
instance : Live qmp := ⟨[2,3,4,5]⟩
def qmo : List SOp := [zL 72 26 3,⟨none,.store 26 (.tmp 2) (.tmp 72),none⟩]
instance : Live qmo := ⟨[2,3]⟩
def qj3 : SC :=
 (.seq (.seq (.ops false z1w) (.cond (.tmp 20) .skip (.exit 2))) (.seq (.block 3 (.seq (.ops false z1v) (.cond (.tmp 30) (.seq (.ops false qmt) (.ops false qms)) (.opsW [46] qcr)))) (.ops false qmr)))
def qj4 : SC :=
 (.seq (.seq (.ops false z1y) (.cond (.tmp 10) .skip (.exit 0))) (.seq (.block 1 (.seq (.ops false z1x) (.block 2 (.loop qj3)))) (.ops false qmq)))
def t_k128 : SC :=
 (.seq (.ops false z24) (.seq (.ops false z23) (.seq (.ops false z21) (.seq (.ops false z20) (.seq (.seq (.ops false z1z) (.block 0 (.loop qj4))) (.seq (.ops false qmp) (.seq (.ops false qmo) .ret)))))))
theorem it_k128 : FnIs Tryz.prog 128 73 [.cell 2 26] t_k128 := ⟨Tryz.f128, _, Tryz.func128, rfl, rfl, rfl, rfl, by kernel_rfl⟩

def qpt (t : Tab) (r c : Nat) : List Sn := q1u t r ++ ((q1p ((q13 (t.getD r [])).take c)).2).map (q9a r)
theorem zb8 (t : Tab) (r : Nat) : qpt t r 0 = q1u t r := by simp [qpt, q1p]
theorem rowF_all (t : Tab) (r : Nat) : qpt t r (q13 (t.getD r [])).length = q1u t (r + 1) := by
 unfold qpt
 rw [q76, List.take_length]
 rfl
theorem z8h {t : Tab} {r : Nat} {x : Rn} (hx : (q13 (t.getD r []))[0]? = some x) (h : x.1 = 1) : qpt t r 1 = qpt t r 0 := by
 unfold qpt
 rw [List.take_add_one, hx]
 simp [q1p, h]
theorem zb9 {t : Tab} {r c : Nat} {x : Rn} (hx : (q13 (t.getD r []))[c]? = some x) (h : x.1 ≠ 1) : qpt t r (c + 1) = qpt t r c ++ [((r : Int), x.1, x.2)] := by
 unfold qpt
 rw [List.take_add_one, hx, List.append_assoc]
 congr 1
 cases c with
 | zero => simp [q1p, h, q9a]
 | succ c =>
  cases hm : q13 (t.getD r []) with
  | nil => rw [hm] at hx; simp at hx
  | cons y l =>
   rw [hm] at hx
   simp only [List.take_succ_cons, List.cons_append, q1p]
   simp only [Option.toList]
   split <;> simp [q9a]
theorem rowF_len (t : Tab) (r c : Nat) : (qpt t r c).length ≤ (q1u t r).length + (q13 (t.getD r [])).length := by
 have h1 := qad ((q13 (t.getD r [])).take c)
 unfold qpt
 rw [List.length_append, List.length_map]
 rw [List.length_take] at h1
 omega
theorem qrp {m : List Rn} {c : Nat} {x : Rn} (h : m[c]? = some x) : (q3u m)[2 * c]? = some x.1 ∧ (q3u m)[2 * c + 1]? = some (x.2 + 1) := by
 induction m generalizing c with
 | nil => simp at h
 | cons y m ih =>
  rw [q4z]
  cases c with
  | zero => simp at h; subst h; exact ⟨rfl, rfl⟩
  | succ c =>
   have := ih (c := c) (by simpa using h)
   exact ⟨by simpa [Nat.mul_add] using this.1, by simpa [Nat.mul_add] using this.2⟩
theorem zle {m : List Rn} (h : Can m) {c : Nat} {x : Rn} (hx : m[c + 1]? = some x) : x.1 ≠ 1 := by
 cases m with
 | nil => simp at hx
 | cons y m =>
  have hy := (Can.cons_iff.1 h)
  have hm : x ∈ m := List.mem_of_getElem? (by simpa using hx)
  have h1 := hy.2.1 x hm
  have h2 := hy.1
  unfold sepR at h1
  unfold okR at h2
  omega
theorem zal {t : Tab} {r : Nat} (hr : r < 16) (h : q8y t r = 0) : qav t (r + 1) = qav t r := by
 unfold qav
 rw [qda, h, List.append_assoc, show 16 - r = (16 - (r + 1)) + 1 by omega, List.replicate_succ]
 rfl
def szF (t : Tab) (r : Nat) : Nat → Nat
 | 0 => q2z t r
 | _ + 1 => q2z t (r + 1)
def vcF (t : Tab) (r : Nat) : Nat → List Int
 | 0 => qav t r
 | _ + 1 => qav t (r + 1)
theorem zki (t : Tab) {n : Nat} (ht : TabLe t n) (hn : n ≤ 50000000) : Ev (En Tryz.prog rfl).P 128 [.agg (q0i (t.map q0o))] (.ret (q0g (q67 t))) := by
 refine Ev.of_body it_k128 (by simp) (Run.start ?_)
 unfold t_k128
 have h16 : (q0i (t.map q0o)).length = 16 := by simp [q0i, ht.1]
 have hone := q4b (t.map q0o)
 have hst := q2k (t.map q0o)
 (have hF := (aI @h16 @hone); refine q01 (k:=?_); clear hF)
 refine Run.wk (Wk.own_cells (k := 3) (cs' := [.nil, .own 3 []]) rfl rfl ?_) ?_
 ·intro i x y hx hy
  match i with
  | 0 => simp at hx hy; subst hx; subst hy; exact .inl rfl
  | 1 => simp at hx hy; subst hx; subst hy; exact .inr ⟨rfl, 3, rfl⟩
  | i + 2 => simp at hx
 refine Run.while (σ := Nat) (fun r => ⟨tms [(1, .ptr 1 0), (2, .ptr 2 0), (3, .ptr 3 0), (4, .os 8 0), (5, .int .i64 (q2z t r)), (6, .int .i64 r)], mms [(1, .cells (q0i (t.map q0o))), (2, .cells [.nil, .nil]), (3, .cells [.nil, .own 3 (q0d (q1u t r))]), (8, .arr 0 1 (q05 (qav t r)))]⟩)
  (fun r => r ≤ 16) (fun r => 16 - r) 0 (have hW := @hst; q0h) (Nat.zero_le _) ?_
 intro r hr
 have g0 : (q05 (qav t r)).length = 16 := by rw [q0f, qbd t hr]
 have hsz := q9c t r
 unfold qj4
 by_cases hlt : r < 16
 ·have hrt : r < t.length := by rw [ht.1]; exact hlt
  have hq := ht.2 r
  have g1 : (q0i (t.map q0o))[r]? = some (.sl 1 (q05 (q3u (q13 (t.getD r []))))) := by
   rw [q85 (by rw [List.length_map]; exact hrt)]
   simp [List.getD_eq_getElem?_getD, hrt, q0o]
  have hml := q1z (t.getD r [])
  have hcan := q1c (t.getD r [])
  have hcl := qan ht r
  have hcl2 : r * n ≤ 16 * n := Nat.mul_le_mul_right n hr
  have f1 := zb8 t r
  have f2 := rowF_all t r
  have f3 := fun c x => @zb9 t r c x
  have f4 := fun x => @z8h t r x
  have f5 := rowF_len t r
  have hlead : q8y t r = (q1p (q13 (t.getD r []))).1 := rfl
  have hs1 := q7x t r
  have hv1 := qrn t hlt
  have hv2 := qro t hlt
  have hl0 := qf7 hcan
  generalize hmr : q13 (t.getD r []) = m at g1 hml hcan f2 f3 f4 f5 hlead hl0
  have g2 : (q05 (q3u m)).length = 2 * m.length := by rw [q0f, qa4]
  have hz0 : (q1p m).1 = 0 → q2z t (r + 1) = q2z t r ∧ qav t (r + 1) = qav t r := fun h => ⟨by rw [hs1, hlead, h]; rfl, zal hlt (by rw [hlead, h])⟩
  (have hF := (aI @h16 (aI @hone @g0)); refine q01 (k:=?_); clear hF)
  refine Run.while (σ := Nat) (fun c => ⟨tms [(1, .ptr 1 0), (2, .ptr 2 0), (3, .ptr 3 0), (4, .os 8 0), (5, .int .i64 (szF t r c)), (6, .int .i64 r), (7, .int .i64 (2 * c : Nat))], mms [(1, .cells (q0i (t.map q0o))), (2, .cells [.nil, .nil]), (3, .cells [.nil, .own 3 (q0d (qpt t r c))]), (8, .arr 0 1 (q05 (vcF t r c)))]⟩)
   (fun c => c ≤ m.length) (fun c => m.length - c) 0 (have hW := (aI @hst @f1); q0h) (Nat.zero_le _) ?_
  intro c hc
  have gv : (q05 (vcF t r c)).length = 16 := by
   rw [q0f]
   cases c with
   | zero => exact qbd t hr
   | succ c => exact qbd t hlt
  have hsz2 : szF t r c ≤ r + 1 := by
   cases c with
   | zero => show q2z t r ≤ _; omega
   | succ c => exact q9c t (r + 1)
  unfold qj3
  by_cases hcl3 : c < m.length
  ·obtain ⟨x, hx⟩ : ∃ x, m[c]? = some x := ⟨m[c], by simp [hcl3]⟩
   have ⟨k1, k2⟩ := qrp hx
   have k1' : (q05 (q3u m))[2 * c]? = some (.int .i64 x.1) := q0w k1
   have k2' : (q05 (q3u m))[2 * c + 1]? = some (.int .i64 (x.2 + 1)) := q0w k2
   have hxr := hcan.2 x (List.mem_of_getElem? hx)
   unfold okR at hxr
   have hfl := f5 c
   have e8 : ((2 * c : Nat) : Int) + 1 = ((2 * c + 1 : Nat) : Int) := by omega
   have e9 : ((2 * c : Nat) : Int) + 2 = ((2 * (c + 1) : Nat) : Int) := by omega
   have e7 : IntKind.i64.wrap (x.2 + 1 - 1) = x.2 := by rw [q2l (by omega)]; omega
   by_cases h1 : x.1 = 1
   ·have hc0 : c = 0 := by
     cases c with
     | zero => rfl
     | succ c => exact absurd h1 (zle hcan hx)
    have h5 : q8y t r = x.2 := by
     subst hc0
     rw [hlead]
     cases m with
     | nil => simp at hx
     | cons y m => simp at hx; subst hx; rw [qbm h1]
    have h6 : qpt t r (c + 1) = qpt t r c := by subst hc0; exact f4 x hx h1
    have h8 : szF t r (c + 1) = r + 1 := by show q2z t (r + 1) = r + 1; rw [hs1, if_pos (by omega)]
    rw [h5] at hv1
    have h9 : (q05 (vcF t r c)).set r (.int .i64 x.2) = q05 (vcF t r (c + 1)) := by subst hc0; exact hv1
    have h10 : (q05 (vcF t r c))[r]? = some (.int .i64 0) := by subst hc0; exact hv2
    generalize szF t r c = sz at hsz2 ⊢
    (have hF := (aI (aI (aI @h16 (aI @hone @gv)) (aI @g1 (aI @g2 @k1'))) (aI (aI @k2' (aI @h9 @h10)) (aI (aI @e7 @e8) (aI @e9 @h1)))); refine q01 (k:=?_); clear hF)
    (refine Fin.nextW (c + 1) ?_ (have hW := (aI (aI @hst @h6) (aI @h8 @h9)); q0h); (try dsimp only))
    omega
   ·have h6 := f3 c x hx h1
    have h8 : szF t r (c + 1) = szF t r c ∧ vcF t r (c + 1) = vcF t r c := by
     cases c with
     | zero =>
      refine hz0 ?_
      cases m with
      | nil => simp at hx
      | cons y m => simp at hx; subst hx; rw [qbl h1]
     | succ c => exact ⟨rfl, rfl⟩
    obtain ⟨h8, h9⟩ := h8
    generalize qpt t r c = cl at h6 hfl ⊢
    have k3 := q1f cl
    (have hF := (aI (aI (aI @h16 (aI @hone @gv)) (aI @g1 (aI @g2 @k1'))) (aI (aI @k2' (aI @e7 @e8)) (aI @e9 (aI @k3 @q84)))); refine q01 (k:=?_); clear hF)
    ((with_reducible apply toW); refine stW (fun j => j == 1) (k:=?_))
    (have hF := (aI (aI (aI @h16 (aI @hone @gv)) (aI @g1 (aI @g2 @k1'))) (aI (aI @k2' (aI @e7 @e8)) (aI @e9 (aI @k3 @q84)))); refine q01 (k:=?_); clear hF)
    (refine Fin.nextW (c + 1) ?_ (have hW := (aI (aI @hst @h6) (aI @h8 @h9)); q0h); (try dsimp only))
    omega
  ·have hce : c = m.length := by omega
   subst hce
   rw [f2]
   have h8 : szF t r m.length = q2z t (r + 1) ∧ vcF t r m.length = qav t (r + 1) := by
    cases m with
    | nil => have := hz0 rfl; exact ⟨this.1.symm, this.2.symm⟩
    | cons y m => exact ⟨rfl, rfl⟩
   rw [h8.1, h8.2] at *
   (have hF := (aI (aI @h16 @hone) (aI @gv (aI @g1 @g2))); refine q01 (k:=?_); clear hF)
   (refine Fin.nextW (r + 1) ?_ (have hW := @hst; q0h); (try dsimp only))
   omega
 ·have hre : r = 16 := by omega
  subst hre
  have hv : qav t 16 = q2r t 16 := by simp [qav]
  rw [hv] at g0 ⊢
  have hll := q31 t 16
  have hlz : ((q2r t 16).take (q2z t 16)).length ≤ 16 := by rw [List.length_take]; omega
  have hres : q67 t = ⟨(q2r t 16).take (q2z t 16), q1u t 16⟩ := rfl
  rw [hres]
  refine Run.wk (Wk.freeze (k := 3) (cs := [.nil, .own 3 (q0d (q1u t 16))]) rfl) ?_
  refine Run.wk (s' := ⟨tms [(2, .ptr 2 0), (3, .ptr 3 0), (4, .os 8 0), (5, .int .i64 (q2z t 16)), (6, .int .i64 16)], mms [(2, .cells [.nil, .nil]), (3, .cells [.nil, .sl 3 (q0d (q1u t 16))]), (8, .arr 0 1 (q05 (q2r t 16)))]⟩) (have hW := @hst; q0h) ?_
  (have hF := (aI @g0 @q6n); refine q01 (k:=?_); clear hF)
  exact Fin.all rfl (by simp [q0j, AVal.stb, q02, q03, fzc, q5q]) rfl

section
open Go.ChangeShapes Go.WideShapes Go.ChangeAt Go.RowKit
def VR0 (w : World) (x : AVal) (v : Value) : Prop := ∀ G : Gh, (∀ b, G.ow b = none) → VR (Dm NoM) G (fun _ => False) w x v
structure Opens (P : Program) (t : TypeId) (α : Type) (ok : α → Prop) (c : α → List AVal) (wt : α → Nat) : Prop where
 run : ∀ {H : Type} (enc : TypeId × Value → H) (w : World) (fuel : Nat) (cs : List Value) (d : DataW H) (ps : List MemPlace),
  DataW.trod enc P w 0 (fun _ => true) true fuel t cs = some (d, ps) →
  ∃ x : α, ok x ∧ wt x ≤ Rows.uptoBulk d ∧ cs.length = (c x).length ∧ ∀ (n : Nat) (y : AVal) (v : Value), (c x)[n]? = some y → cs[n]? = some v → VR0 w y v
section
variable {P : Program} {t : TypeId}
def qh5 (n : Int) : Prop := -9223372036854775808 ≤ n ∧ n ≤ 9223372036854775807
theorem Opens.int (ht : P.underlying t = some (.int .i64)) : Opens P t Int qh5 (fun n => [.int .i64 n]) (fun _ => 1) := by
 refine ⟨fun {H} enc w fuel cs d ps h => ?_⟩
 obtain ⟨n, rfl, hx, hw⟩ := DataW.trod_int ht h
 have hd : d = .lit (.int .i64 n) := congrArg Prod.fst hx
 subst hd
 refine ⟨n, bounds_i64 hw, by simp [Rows.uptoBulk], rfl, fun i y v hy hv G hG => ?_⟩
 match i with
 | 0 => simp at hy hv; subst hy; subst hv; exact .int _ _
 | i + 1 => simp at hy
theorem Opens.bool (ht : P.underlying t = some .bool) : Opens P t Bool (fun _ => True) (fun n => [.bool n]) (fun _ => 1) := by
 refine ⟨fun {H} enc w fuel cs d ps h => ?_⟩
 obtain ⟨n, rfl, hx⟩ := DataW.trod_bool ht h
 have hd : d = .lit (.bool n) := congrArg Prod.fst hx
 subst hd
 refine ⟨n, trivial, by simp [Rows.uptoBulk], rfl, fun i y v hy hv G hG => ?_⟩
 match i with
 | 0 => simp at hy hv; subst hy; subst hv; exact .bool _
 | i + 1 => simp at hy
theorem Opens.string (ht : P.underlying t = some .string) : Opens P t ByteArray (fun _ => True) (fun s => [.str s]) (fun s => s.size + 1) := by
 refine ⟨fun {H} enc w fuel cs d ps h => ?_⟩
 obtain ⟨n, rfl, hx, hs⟩ := DataW.trod_string ht h
 have hd : d = .lit (.string n.data.toList) := congrArg Prod.fst hx
 subst hd
 refine ⟨n, trivial, ?_, rfl, fun i y v hy hv G hG => ?_⟩
 ·simp only [Rows.uptoBulk, Array.length_toList]
  exact Nat.le_refl _
 ·match i with
  | 0 => simp at hy hv; subst hy; subst hv; exact .str _
  | i + 1 => simp at hy
theorem z7w {H : Type} {α : Type} {wt : α → Nat} : ∀ (es : List (DataW H × List MemPlace)) (l : List α), l.length = es.length → (∀ (i : Nat) x e, l[i]? = some x → es[i]? = some e → wt x ≤ Rows.uptoBulk e.1) → (l.map wt).sum ≤ Rows.uptoBulkAll (es.map (·.1))
 | [], [], _, _ => Nat.le_refl _
 | e :: es, x :: l, hl, h => by
  have h1 := h 0 x e rfl rfl
  have h2 := z7w es l (by simpa using hl) fun i y u hy hu => h (i + 1) y u (by simpa using hy) (by simpa using hu)
  simp only [List.map_cons, List.sum_cons, Rows.uptoBulkAll]
  omega
 | [], _ :: _, hl, _ => by simp at hl
 | _ :: _, [], hl, _ => by simp at hl
theorem addr_add (b off i j : Nat) : ((⟨b, off, none⟩ : Addr).add i).add j = ⟨b, off + i + j, none⟩ := by
 unfold Addr.add
 split <;> split <;> simp_all
def wtL {α : Type} (wt : α → Nat) (l : List α) : Nat := (l.map wt).sum + 1
theorem Opens.slice {e : TypeId} {α : Type} {ok : α → Prop} {c : α → List AVal} {wt : α → Nat} {k : Nat} {mk : α → AVal} (ht : P.underlying t = some (.slice e)) (he : Opens P e α ok c wt) (hcell : P.cellsOf e = k) (hk0 : 0 < k)
 (hmk : ∀ x, (mk x).cells = c x) (hk : ∀ x, (c x).length = k) (hone : ∀ x, ∀ y ∈ c x, y.one = true) : Opens P t (List α) (fun l => ∀ x ∈ l, ok x) (fun l => [.sl k (l.map mk)]) (wtL wt) := by
 refine ⟨fun {H} enc w fuel cs d ps h => ?_⟩
 rcases DataW.trod_slice ht h with ⟨rfl, hx⟩ | ⟨a, len, cap, elems, rest, m, _, rfl, hx, hb, hl, hm, hlen, hel, _, _⟩
 ·have hd : d = .nil := congrArg Prod.fst hx
  subst hd
  refine ⟨[], by simp, by simp [wtL, Rows.uptoBulk], rfl, fun i y v hy hv G hG => ?_⟩
  match i with
  | 0 => simp at hy hv; subst hy; subst hv; exact .slnil k
  | i + 1 => simp at hy
 ·have hd : d = .slice (elems.map (·.1)) (rest.map (·.1)) := congrArg Prod.fst hx
  subst hd
  obtain ⟨b, off, sp⟩ := a
  rcases Nat.eq_zero_or_pos len with h0 | h0
  ·subst h0
   refine ⟨[], by simp, by simp [wtL, Rows.uptoBulk], rfl, fun i y v hy hv G hG => ?_⟩
   match i with
   | 0 => simp at hy hv; subst hy; subst hv; exact .slemp k _ cap
   | i + 1 => simp at hy
  have hspot : sp = none := by
   have h1 := hel 0 h0
   rw [List.getElem?_eq_getElem (by omega), Option.bind_eq_some_iff] at h1
   obtain ⟨cs', h2, h3⟩ := h1
   rw [hcell] at h2
   obtain ⟨_, h4, h5⟩ := World.cells?_some h2
   have h6 := h5 0 hk0
   rw [List.getElem?_eq_getElem (by omega)] at h6
   simp only [Nat.zero_mul, Addr.add, if_true, World.cell?] at h6
   cases sp with
   | none => rfl
   | some q => split at h6 <;> simp at h6
  subst hspot
  rw [hcell] at hel
  have each : ∀ i : _root_.Fin len, ∃ x : α, ok x ∧ (∀ e, elems[i.1]? = some e → wt x ≤ Rows.uptoBulk e.1) ∧ ∀ (j : Nat) (y : AVal), (c x)[j]? = some y → ∃ v, w.cell? ⟨b, off + i.1 * k + j, none⟩ = some v ∧ VR0 w y v := by
   intro i
   have h1 := hel i.1 i.2
   have hi : i.1 < elems.length := by rw [hlen]; exact i.2
   rw [List.getElem?_eq_getElem hi, Option.bind_eq_some_iff] at h1
   obtain ⟨cs', h2, h3⟩ := h1
   obtain ⟨_, h4, h5⟩ := World.cells?_some h2
   obtain ⟨x, ho, hw, hlx, hv⟩ := he.run enc w m cs' elems[i.1].1 elems[i.1].2 h3
   refine ⟨x, ho, fun e he => ?_, fun j y hy => ?_⟩
   ·rw [List.getElem?_eq_getElem hi] at he
    cases he
    exact hw
   ·have hj : j < k := by
     rw [← hk x]
     rcases Nat.lt_or_ge j (c x).length with h | h
     ·exact h
     ·rw [List.getElem?_eq_none h] at hy; cases hy
    have h6 := h5 j hj
    rw [addr_add] at h6
    have hjl : j < cs'.length := by omega
    rw [List.getElem?_eq_getElem hjl] at h6
    exact ⟨_, h6, hv j y _ hy (List.getElem?_eq_getElem hjl)⟩
  let l : List α := List.ofFn fun i : _root_.Fin len => (each i).choose
  have hll : l.length = len := by simp [l]
  have hget : ∀ (i : Nat) (hi : i < len), l[i]? = some (each ⟨i, hi⟩).choose := fun i hi => by simp [l, hi]
  refine ⟨l, fun x hx => ?_, ?_, rfl, fun i y v hy hv G hG => ?_⟩
  ·obtain ⟨i, rfl⟩ := (List.mem_ofFn).1 hx
   exact (each i).choose_spec.1
  ·have := z7w (wt := wt) elems l (by omega) fun i x e hx he => by
    have hi : i < len := by
     rcases Nat.lt_or_ge i len with h | h
     ·exact h
     ·rw [List.getElem?_eq_none (by omega)] at hx; cases hx
    rw [hget i hi] at hx
    cases hx
    exact (each ⟨i, hi⟩).choose_spec.2.1 e he
   simp only [wtL, Rows.uptoBulk]
   omega
  ·match i with
   | i + 1 => simp at hy
   | 0 =>
    simp only [List.getElem?_cons_zero, Option.some.injEq] at hy hv
    subst hy; subst hv
    have hsz : ∀ x ∈ l.map mk, x.cells.length = k := by
     intro x hx
     obtain ⟨z, _, rfl⟩ := List.mem_map.1 hx
     rw [hmk, hk]
    have cellv : ∀ (n : Nat) (x : AVal), (flat (l.map mk))[n]? = some x → ∃ v, w.cell? ⟨b, off + n, none⟩ = some v ∧ VR0 w x v := by
     intro n x hx
     have hn : n < len * k := by
      have h1 := q0p hsz
      rw [List.length_map, hll] at h1
      rcases Nat.lt_or_ge n (len * k) with h | h
      ·exact h
      ·rw [List.getElem?_eq_none (by omega)] at hx; cases hx
     have h1 : n / k < len := Nat.div_lt_of_lt_mul (by rw [Nat.mul_comm]; exact hn)
     have h2 : n % k < k := Nat.mod_lt _ hk0
     have h3 := qag (sz := k) (xs := l.map mk) (i := n / k) (j := n % k) (x := mk (each ⟨n / k, h1⟩).choose) hsz (by rw [List.getElem?_map, hget _ h1]; rfl) h2
     have e : n / k * k + n % k = n := by rw [Nat.mul_comm]; exact Nat.div_add_mod n k
     rw [e, hmk] at h3
     rw [hx] at h3
     obtain ⟨v, hv, hr⟩ := (each ⟨n / k, h1⟩).choose_spec.2.2 (n % k) x h3.symm
     refine ⟨v, ?_, hr⟩
     rw [← hv]
     congr 2
     simp only
     omega
    have e0 : (l.map mk).length = len := by simp [hll]
    have hsl : VR (Dm NoM) G (fun _ => False) w (.sl k (l.map mk)) (.slice (some ⟨b, off, none⟩) (l.map mk).length cap) := by
     refine .sl k (l.map mk) b off cap (fun n => (w.cell? ⟨b, off + n, none⟩).getD undef) (by omega) (fun _ => ⟨fun h => h, hG b⟩) (fun x hx => ?_) hsz (fun n x hx => ?_) (fun n x hx => ?_)
     ·obtain ⟨z, hz, hx⟩ := List.mem_flatMap.1 hx
      obtain ⟨q, _, rfl⟩ := List.mem_map.1 hz
      rw [hmk] at hx
      exact hone q x hx
     ·obtain ⟨v, hv, _⟩ := cellv n x hx
      rw [hv]; rfl
     ·obtain ⟨v, hv, hr⟩ := cellv n x hx
      simp only [hv, Option.getD_some]
      exact hr G hG
    rw [e0] at hsl
    exact hsl
def OpensF (P : Program) (fs : List Field) (off tot : Nat) (α : Type) (ok : α → Prop) (c : α → List AVal) (wt : α → Nat) : Prop :=
 (∀ x, (c x).length = tot) ∧
 ∀ {H : Type} (enc : TypeId × Value → H) (w : World) (m : Nat) (cs : List Value) (xs : List (DataW H × List MemPlace)), xs.length = fs.length → off + tot ≤ cs.length →
  (∀ (i : Nat) (f : Field), fs[i]? = some f → DataW.trod enc P w 0 (fun _ => true) true m f.type ((cs.drop f.offset).take (P.cellsOf f.type)) = xs[i]?) →
  ∃ x : α, ok x ∧ wt x ≤ Rows.uptoBulkAll (xs.map (·.1)) ∧ ∀ (n : Nat) (y : AVal) (v : Value), (c x)[n]? = some y → cs[off + n]? = some v → VR0 w y v
theorem OpensF.nil (off : Nat) : OpensF P [] off 0 Unit (fun _ => True) (fun _ => []) (fun _ => 0) :=
 ⟨fun _ => rfl, fun enc w m cs xs hl _ _ => ⟨(), trivial, Nat.zero_le _, fun n y v hy => by simp at hy⟩⟩
theorem OpensF.cons {f : Field} {fs : List Field} {off k tot : Nat} {α β : Type} {ok : α → Prop} {ok' : β → Prop} {c : α → List AVal} {c' : β → List AVal} {wt : α → Nat} {wt' : β → Nat}
 (h1 : Opens P f.type α ok c wt) (hk : ∀ x, (c x).length = k) (hc : P.cellsOf f.type = k) (ho : f.offset = off) (h2 : OpensF P fs (off + k) tot β ok' c' wt') :
 OpensF P (f :: fs) off (k + tot) (α × β) (fun x => ok x.1 ∧ ok' x.2) (fun x => c x.1 ++ c' x.2) (fun x => wt x.1 + wt' x.2) := by
 refine ⟨fun x => by rw [List.length_append, hk, h2.1], fun {H} enc w m cs xs hl hlen hx => ?_⟩
 cases xs with
 | nil => simp at hl
 | cons x0 xs =>
  have hx0 := hx 0 f rfl
  simp only [List.getElem?_cons_zero] at hx0
  rw [ho, hc] at hx0
  obtain ⟨x, a1, a2, a3, a4⟩ := h1.run enc w m _ x0.1 x0.2 hx0
  obtain ⟨y, b1, b2, b3⟩ := h2.2 enc w m cs xs (by simpa using hl) (by omega) (fun i g hg => by simpa using hx (i + 1) g (by simpa using hg))
  refine ⟨(x, y), ⟨a1, b1⟩, ?_, fun n z v hz hv => ?_⟩
  ·simp only [List.map_cons, Rows.uptoBulkAll]
   omega
  ·rcases Nat.lt_or_ge n k with hn | hn
   ·rw [List.getElem?_append_left (by rw [hk]; exact hn)] at hz
    refine a4 n z v hz ?_
    rw [List.getElem?_take, if_pos hn, List.getElem?_drop]
    exact hv
   ·rw [List.getElem?_append_right (by rw [hk]; exact hn), hk] at hz
    refine b3 (n - k) z v hz ?_
    rw [show off + k + (n - k) = off + n by omega]
    exact hv
theorem Opens.struct {fs : Array Field} {tot : Nat} {α : Type} {ok : α → Prop} {c : α → List AVal} {wt : α → Nat} (ht : P.underlying t = some (.struct fs)) (hc : P.cellsOf t = tot) (h : OpensF P fs.toList 0 tot α ok c wt) :
 Opens P t α ok c (fun x => wt x + 1) := by
 refine ⟨fun {H} enc w fuel cs d ps hd => ?_⟩
 obtain ⟨xs, n, _, hx, hl, hxl, hf⟩ := DataW.trod_struct ht hd
 have hd : d = .agg (xs.map (·.1)) := congrArg Prod.fst hx
 subst hd
 obtain ⟨x, h1, h2, h3⟩ := h.2 enc w n cs xs (by simpa using hxl) (by omega) (fun i f hi => hf i f (by simpa using hi))
 refine ⟨x, h1, by simp only [Rows.uptoBulk]; omega, by rw [h.1, hl, hc], fun i y v hy hv => h3 i y v hy (by simpa using hv)⟩
theorem Opens.map {α β : Type} {ok : α → Prop} {c : α → List AVal} {wt : α → Nat} {ok' : β → Prop} {c' : β → List AVal} {wt' : β → Nat} (h : Opens P t α ok c wt) (g : α → β) (h1 : ∀ x, ok x → ok' (g x)) (h2 : ∀ x, c' (g x) = c x) (h3 : ∀ x, wt' (g x) ≤ wt x) :
 Opens P t β ok' c' wt' := by
 refine ⟨fun {H} enc w fuel cs d ps hd => ?_⟩
 obtain ⟨x, a1, a2, a3, a4⟩ := h.run enc w fuel cs d ps hd
 exact ⟨g x, h1 x a1, Nat.le_trans (h3 x) a2, by rw [h2]; exact a3, by rw [h2]; exact a4⟩
end
section
variable {P : Program} {t : TypeId}
def zls (P : Program) (t : TypeId) (α : Type) (ok : α → Prop) (mk : α → AVal) (wt : α → Nat) : Prop :=
 ∀ {H : Type} (enc : TypeId × Value → H) (w : World) (base fuel : Nat) (v : Value) (d : DataW H) (ps : List MemPlace), Value.okWide P w .any base t v →
  DataW.trod enc P w 0 (fun _ => true) true fuel t v.cells.toList = some (d, ps) → ∃ x : α, ok x ∧ wt x ≤ Rows.uptoBulk d ∧ VR0 w (mk x) v
theorem Opens.agg {α : Type} {ok : α → Prop} {c : α → List AVal} {wt : α → Nat} {fs : Array Field} (h : Opens P t α ok c wt) (ht : P.underlying t = some (.struct fs)) : zls P t α ok (fun x => .agg (c x)) wt := by
 intro H enc w base fuel v d ps hok hd
 unfold Value.okWide at hok
 rw [ht] at hok
 obtain ⟨cs, rfl, hsz, _⟩ := hok
 obtain ⟨x, x1, x2, x3, x4⟩ := h.run enc w fuel cs.toList d ps (by simpa [Value.cells] using hd)
 exact ⟨x, x1, x2, fun G hG => .agg _ _ (by simpa using x3) fun n z u hz hu => x4 n z u hz (by simpa using hu) G hG⟩
theorem Opens.one {α : Type} {ok : α → Prop} {mk : α → AVal} {wt : α → Nat} {u : TypeDesc} (h : Opens P t α ok (fun x => [mk x]) wt) (ht : P.underlying t = some u) (hu : (match u with | .struct _ | .array _ _ => False | _ => True)) : zls P t α ok mk wt := by
 intro H enc w base fuel v d ps hok hd
 have hv : v.cells.toList = [v] := by
  cases v <;> first | rfl | skip
  unfold Value.okWide at hok
  rw [ht] at hok
  cases u <;> first | exact hu.elim | (simp [Cell.okWide, Cell.ok, ht] at hok; done)
 rw [hv] at hd
 obtain ⟨x, x1, x2, x3, x4⟩ := h.run enc w fuel [v] d ps hd
 exact ⟨x, x1, x2, x4 0 (mk x) v rfl rfl⟩
def OpensA (P : Program) (ts : List TypeId) (α : Type) (ok : α → Prop) (l : α → List AVal) (wt : α → Nat) : Prop :=
 ∀ {H : Type} (enc : TypeId × Value → H) (w : World) (base : Nat) (vs : List Value) (ds : List (DataW H)) (ps : List MemPlace), (∀ (j : Nat) t v, ts[j]? = some t → vs[j]? = some v → Value.okWide P w .any base t v) →
  DataW.TrodAll enc P w 0 (fun _ => true) true ts vs ds ps → ∃ x : α, ok x ∧ wt x ≤ Rows.uptoBulkAll ds ∧ vs.length = (l x).length ∧ ∀ (n : Nat) (y : AVal) (v : Value), (l x)[n]? = some y → vs[n]? = some v → VR0 w y v
theorem OpensA.nil : OpensA P [] Unit (fun _ => True) (fun _ => []) (fun _ => 0) := by
 intro H enc w base vs ds ps _ h
 obtain ⟨rfl, rfl, rfl⟩ := trodAll_nil h
 exact ⟨(), trivial, Nat.zero_le _, rfl, fun n y v hy => by simp at hy⟩
theorem OpensA.cons {ts : List TypeId} {α β : Type} {ok : α → Prop} {ok' : β → Prop} {mk : α → AVal} {l : β → List AVal} {wt : α → Nat} {wt' : β → Nat} (h1 : zls P t α ok mk wt) (h2 : OpensA P ts β ok' l wt') :
 OpensA P (t :: ts) (α × β) (fun x => ok x.1 ∧ ok' x.2) (fun x => mk x.1 :: l x.2) (fun x => wt x.1 + wt' x.2) := by
 intro H enc w base vs ds ps hok h
 obtain ⟨v, vs', d, ds', p, q, rfl, rfl, rfl, ⟨fuel, hd⟩, hr⟩ := trodAll_cons h
 obtain ⟨x, x1, x2, x3⟩ := h1 enc w base fuel v d p (hok 0 t v rfl rfl) hd
 obtain ⟨y, y1, y2, y3, y4⟩ := h2 enc w base vs' ds' q (fun j t' v' ht hv => hok (j + 1) t' v' (by simpa using ht) (by simpa using hv)) hr
 refine ⟨(x, y), ⟨x1, y1⟩, ?_, by simpa using y3, fun n z u hz hu => ?_⟩
 ·simp only [Rows.uptoBulkAll]
  omega
 ·match n with
  | 0 => simp at hz hu; subst hz; subst hu; exact x3
  | n + 1 => exact y4 n z u (by simpa using hz) (by simpa using hu)
theorem OpensA.map {ts : List TypeId} {α β : Type} {ok : α → Prop} {ok' : β → Prop} {l : α → List AVal} {l' : β → List AVal} {wt : α → Nat} {wt' : β → Nat} (h : OpensA P ts α ok l wt) (g : α → β) (h1 : ∀ x, ok x → ok' (g x)) (h2 : ∀ x, l' (g x) = l x) (h3 : ∀ x, wt' (g x) ≤ wt x) :
 OpensA P ts β ok' l' wt' := by
 intro H enc w base vs ds ps hok ht
 obtain ⟨x, x1, x2, x3, x4⟩ := h enc w base vs ds ps hok ht
 exact ⟨g x, h1 x x1, Nat.le_trans (h3 x) x2, by rw [h2]; exact x3, by rw [h2]; exact x4⟩
end
theorem qpl {H : Type} {enc : TypeId × Value → H} {P : Program} (hl : laidOutB P = true) {W W' : World} (hb : Below W.heap.size W W') : ∀ {ts : List TypeId} {vs : List Value} {ds : List (DataW H)} {ps : List MemPlace}, (∀ t ∈ ts, P.readableRec t = true ∧ t < P.types.size) →
 DataW.TrodAll enc P W 0 (fun _ => true) true ts vs ds ps → (∀ x ∈ ps, x.block < W.heap.size) → DataW.TrodAll enc P W' 0 (fun b => decide (b < W.heap.size)) true ts vs ds ps
 | [], vs, ds, ps, _, h, _ => by
  obtain ⟨rfl, rfl, rfl⟩ := trodAll_nil h
  exact trodAll_mk0
 | t :: ts, vs, ds, ps, hr, h, hlt => by
  obtain ⟨v, vs', d, ds', p, q, rfl, rfl, rfl, hd, hrest⟩ := trodAll_cons h
  have h1 := hr t (by simp)
  exact trodAll_cons_mk (Below.trod hl h1.1 h1.2 hd hb fun x hx => hlt x (by simp [hx])) (qpl hl hb (fun t' ht' => hr t' (by simp [ht'])) hrest fun x hx => hlt x (by simp [hx]))
theorem qp8 {P : Program} {f : FuncId} {fn : Func} {α : Type} {ok : α → Prop} {l : α → List AVal} {wt : α → Nat} {s : ChangeSpec} (hfn : P.funcs[f]? = some fn) (hr : fn.resultTypes = #[4]) (hb : P.underlying 4 = some .bool)
 (hl : laidOutB P = true) (hre : ∀ t ∈ fn.params.toList, P.readableRec t = true ∧ t < P.types.size) (hvars : s.vars = [])
 (hsfn : ∀ (H : Type) (ds : List (DataW H)), ds.length = fn.params.size → s.fn H ds = { results := [.lit (.bool true)], args := ds })
 (ho : OpensA P fn.params.toList α ok l wt) (hEv : ∀ x, ok x → wt x ≤ 1048576 → Ev P f (l x) (.ret (.bool true)))
 (H : Type) (enc : TypeId × Value → H) (W : World) (base : Nat) (args : Array Value) (ds gs : List (DataW H)) (before : List MemPlace)
 (hval : ∀ (j : Nat) t v, fn.params[j]? = some t → args[j]? = some v → Value.okWide P W .any base t v)
 (hW : DataW.Whole enc P fn.params.toList s.vars false W args.toList ds gs before) (hk : Rows.uptoSmall H (ds ++ gs) = true) :
 Calls P f args W fun e W' => ∃ v, e = .returned v ∧ s.post enc P fn false true false false W args v W' := by
 have hW' := hW
 obtain ⟨p, q, hA, hV, rfl, hfz, hnd⟩ := hW
 rw [hvars] at hV
 obtain ⟨rfl, rfl⟩ := trodVars_none hV
 obtain ⟨x, x1, x2, x3, x4⟩ := ho enc W base args.toList ds p (fun j t v ht hv => hval j t v (by simpa using ht) (by simpa using hv)) hA
 have hlen : ds.length = fn.params.size := by
  have : ∀ (ts : List TypeId) (vs : List Value) (ds : List (DataW H)) (ps : List MemPlace), DataW.TrodAll enc P W 0 (fun _ => true) true ts vs ds ps → ds.length = ts.length := by
   intro ts
   induction ts with
   | nil => intro vs ds ps h; obtain ⟨_, rfl, _⟩ := trodAll_nil h; rfl
   | cons t ts ih =>
    intro vs ds ps h
    obtain ⟨v, vs', d, ds', p, q, rfl, rfl, rfl, _, hr⟩ := trodAll_cons h
    simp [ih _ _ _ hr]
  simpa using this _ _ _ _ hA
 have hsmall : Rows.uptoBulkAll ds ≤ 1048576 := by
  have : Rows.uptoBulkAll (ds ++ []) ≤ 1048576 := of_decide_eq_true hk
  simpa using this
 have hcall := (hEv x x1 (by omega)).2 (fun _ => False) W args ⟨fun _ => 0, fun _ _ => .int .i64 0, fun _ => none, fun _ _ => rfl⟩ (fun _ => rfl) (by simpa using x3) (fun i y v hy hv => x4 i y v hy (by simpa using hv) _ (fun _ => rfl)) (fun _ h => h.elim)
 refine hcall.mono ?_
 rintro e W' ⟨G', v', hG', hAdv, he, hr'⟩
 cases hr'
 subst he
 have hbel : Below W.heap.size W W' := ⟨hAdv.os.1, hAdv.tape, hAdv.output, hAdv.size, fun b hb => (hAdv.keep b hb rfl).1⟩
 have hlt : ∀ z ∈ p, z.block < W.heap.size := fun z hz => by simpa using hW'.lt z (by simpa using hz)
 refine ⟨.bool true, rfl, ds, [], p ++ [], [], p, [], hW', ?_, ?_, ?_, hbel.frame _, fun h => by cases h⟩
 ·rw [hr, List.append_nil, hsfn H ds hlen]
  exact trodAll_cons_mk (p' := []) (shut_bool hb _) trodAll_mk0
 ·rw [List.append_nil, hsfn H ds hlen]
  exact qpl hl hbel hre hA hlt
 ·rw [hvars, List.append_nil, hsfn H ds hlen]
  rfl
end
theorem q5i : Tryz.prog.cellsOf 3 = 1 := by kernel_rfl
theorem z9u : Tryz.prog.cellsOf 23 = 1 := by kernel_rfl
theorem qrb : Tryz.prog.cellsOf 24 = 1 := by kernel_rfl
theorem qfr : Tryz.prog.cellsOf 127 = 3 := by kernel_rfl
theorem qpe : Tryz.prog.cellsOf 41 = 2 := by kernel_rfl
theorem qap : Tryz.prog.cellsOf 26 = 2 := by kernel_rfl
theorem qcy : Opens Tryz.prog 3 Int qh5 (fun n => [.int .i64 n]) (fun _ => 1) := Opens.int Tryz.underlying3
theorem op_ints : Opens Tryz.prog 23 (List Int) (fun l => ∀ x ∈ l, qh5 x) (fun l => [.sl 1 (q05 l)]) (wtL fun _ => 1) :=
 Opens.slice (mk := encI) Tryz.underlying23 qcy q5i (by decide) (fun _ => rfl) (fun _ => rfl) (fun x y hy => by simp at hy; subst hy; rfl)
def okS (s : Sn) : Prop := qh5 s.1 ∧ qh5 s.2.1 ∧ qh5 s.2.2
theorem op_Span : Opens Tryz.prog 127 Sn okS (fun s => [.int .i64 s.1, .int .i64 s.2.1, .int .i64 s.2.2]) (fun _ => 1) :=
 (Opens.struct Tryz.underlying127 qfr (OpensF.cons (k := 1) qcy (fun _ => rfl) q5i rfl (OpensF.cons (k := 1) qcy (fun _ => rfl) q5i rfl (OpensF.cons (k := 1) qcy (fun _ => rfl) q5i rfl (OpensF.nil _))))).map
  (fun x => (x.1, x.2.1, x.2.2.1)) (fun x h => ⟨h.1, h.2.1, h.2.2.1⟩) (fun _ => rfl) (fun _ => Nat.le_add_left _ _)
theorem op_spans : Opens Tryz.prog 24 (List Sn) (fun l => ∀ x ∈ l, okS x) (fun l => [.sl 3 (q0d l)]) (wtL fun _ => 1) :=
 Opens.slice (mk := qr4) Tryz.underlying24 op_Span
  qfr (by decide) (fun _ => rfl) (fun _ => rfl) (fun x y hy => by simp at hy; rcases hy with rfl | rfl | rfl <;> rfl)
def okD (s : Rn) : Prop := qh5 s.1 ∧ qh5 s.2
theorem op_Dot : Opens Tryz.prog 41 Rn okD (fun x => [.int .i64 x.1, .int .i64 x.2]) (fun _ => 1) :=
 (Opens.struct Tryz.underlying41 qpe (OpensF.cons (k := 1) qcy (fun _ => rfl) q5i rfl (OpensF.cons (k := 1) qcy (fun _ => rfl) q5i rfl (OpensF.nil _)))).map
  (fun x => (x.1, x.2.1)) (fun x h => ⟨h.1, h.2.1⟩) (fun _ => rfl) (fun _ => Nat.le_add_left _ _)
def okP (p : Pst) : Prop := (∀ x ∈ p.vec, qh5 x) ∧ ∀ s ∈ p.cloud, okS s
theorem qpv {α : Type} (l : List α) : wtL (fun _ => 1) l = l.length + 1 := by
 unfold wtL
 induction l with
 | nil => rfl
 | cons x l ih => simp only [List.map_cons, List.sum_cons, List.length_cons]; omega
theorem ziq : Opens Tryz.prog 26 Pst okP (fun p => [.sl 1 (q05 p.vec), .sl 3 (q0d p.cloud)]) wt :=
 (Opens.struct Tryz.underlying26 qap (OpensF.cons (k := 1) op_ints (fun _ => rfl) z9u rfl (OpensF.cons (k := 1) op_spans (fun _ => rfl) qrb rfl (OpensF.nil _)))).map (fun x => ⟨x.1, x.2.1⟩) (fun x h => ⟨h.1, h.2.1⟩) (fun _ => rfl)
  (fun x => by show x.1.length + x.2.1.length ≤ wtL (fun _ => 1) x.1 + (wtL (fun _ => 1) x.2.1 + 0) + 1; rw [qpv, qpv]; omega)
structure Cas where
 a : Pst
 b : Pst
 c : Pst
 ds : List Rn
 rep : Int
 most : Int
theorem own : ownKnob Tryz.prog.godebug = none := by kernel_rfl


def qxo : List SOp := [zO 4 (.assign (.const (.slice none 0 0)))]
instance : Live qxo := ⟨[0,1]⟩
def qxn : List SOp := [zM 11 0,zO 12 (.call ⟨.value (.func 156),#[.tmp 11],#[149]⟩),zM 13 1,zO 14 (.call ⟨.value (.func 156),#[.tmp 13],#[149]⟩),zG 5 12,zG 6 14]
instance : Live qxn := ⟨[0,1]⟩
def qxm : List SOp := [zO 7 (.assign (.const (.slice none 0 0)))]
instance : Live qxm := ⟨[5,6]⟩
def qxl : List SOp := [zO 8 (.assign (.const (.int .i64 0))),zO 9 (.assign (.const (.int .i64 0)))]
instance : Live qxl := ⟨[5,6,7]⟩
def qxk : List SOp := [zM 15 8,zM 16 5,zO 17 (.call ⟨.builtin .len,#[.tmp 16],#[149]⟩),zO 18 (.binOp .lss 3 (.tmp 15) (.tmp 17) 3),zM 19 18,⟨some 20,.move (.tmp 9),some ((some 19),true)⟩,⟨some 21,.move (.tmp 6),some ((some 19),true)⟩,⟨some 22,.call ⟨.builtin .len,#[.tmp 21],#[149]⟩,some ((some 19),true)⟩,⟨some 23,.binOp .lss 3 (.tmp 20) (.tmp 22) 3,some ((some 19),true)⟩,zO 24 (.pick (.tmp 19) (.tmp 23) (.const (.bool false)))]
instance : Live qxk := ⟨[5,6,7,8,9]⟩
def qxj : List SOp := [zM 25 5,zM 26 8,zI 27 149 25 26,zF 28 179 27 0,zL 29 3 28,zM 30 6,zM 31 9,zI 32 149 30 31,zF 33 179 32 0,zL 34 3 33,zO 35 (.call ⟨.builtin .max,#[.tmp 29,.tmp 34],#[3,3]⟩),zM 36 5,zM 37 8,zI 38 149 36 37,zF 39 179 38 1,zL 40 3 39,zM 41 6,zM 42 9,zI 43 149 41 42,zF 44 179 43 1,zL 45 3 44,zO 46 (.call ⟨.builtin .min,#[.tmp 40,.tmp 45],#[3,3]⟩),zO 47 (.build 179 #[(0,.tmp 35),(1,.tmp 46)]),zO 10 (.alloc 179),⟨none,.store 179 (.tmp 10) (.tmp 47),none⟩]
instance : Live qxj := ⟨[5,6,7,8,9]⟩
def qxi : List SOp := [zF 48 179 10 0,zL 49 3 48,zF 50 179 10 1,zL 51 3 50,zO 52 (.binOp .leq 3 (.tmp 49) (.tmp 51) 3)]
instance : Live qxi := ⟨[5,6,7,8,9,10]⟩
def qxh : List SOp := [zM 53 7,zL 54 179 10,zO 55 (.buildSlice 149 1 #[(0,.tmp 54)]),zO 56 (.call ⟨.builtin .append,#[.tmp 53,.tmp 55],#[149,149]⟩),zG 7 56]
instance : Live qxh := ⟨[5,6,7,8,9,10]⟩
def qxg : List SOp := [zM 57 5,zM 58 8,zI 59 149 57 58,zF 60 179 59 1,zL 61 3 60,zM 62 6,zM 63 9,zI 64 149 62 63,zF 65 179 64 1,zL 66 3 65,zO 67 (.binOp .lss 3 (.tmp 61) (.tmp 66) 3)]
instance : Live qxg := ⟨[5,6,7,8,9]⟩
def ql8 : List SOp := [zM 68 8,zO 69 (.binOp .add 3 (.tmp 68) (.const (.int .i64 1)) 3),zG 8 69]
instance : Live ql8 := ⟨[5,6,7,8,9]⟩
def ql7 : List SOp := [zM 70 9,zO 71 (.binOp .add 3 (.tmp 70) (.const (.int .i64 1)) 3),zG 9 71]
instance : Live ql7 := ⟨[5,6,7,8,9]⟩
def ql6 : List SOp := [zM 72 7,zG 4 72]
instance : Live ql6 := ⟨[7]⟩
def qip : SC :=
 (.seq (.seq (.ops false qxk) (.cond (.tmp 24) .skip (.exit 0))) (.block 1 (.seq (.ops true qxj) (.seq (.seq (.ops false qxi) (.cond (.tmp 52) (.ops false qxh) .skip)) (.seq (.ops true qxg) (.cond (.tmp 67) (.ops false ql8) (.ops false ql7)))))))
def t_k160 : SC :=
 (.seq (.ops false qxo) (.seq (.ops false qxn) (.seq (.ops false qxm) (.seq (.seq (.ops false qxl) (.block 0 (.loop qip))) (.seq (.ops false ql6) .ret)))))
theorem it_k160 : FnIs Tryz.prog 160 73 [.tmp 4] t_k160 := ⟨Tryz.f160, _, Tryz.func160, rfl, rfl, rfl, rfl, by kernel_rfl⟩

def qxf : List SOp := [zO 2 (.assign (.const (.slice none 0 0)))]
instance : Live qxf := ⟨[0]⟩
def qxe : List SOp := [zO 3 (.assign (.const (.slice none 0 0)))]
instance : Live qxe := ⟨[0]⟩
def qxd : List SOp := [zO 4 (.assign (.const (.int .i64 1)))]
instance : Live qxd := ⟨[0,3]⟩
def qxc : List SOp := [zM 7 0,zO 8 (.call ⟨.builtin .len,#[.tmp 7],#[149]⟩),zO 9 (.move (.const (.int .i64 0)))]
instance : Live qxc := ⟨[0,3,4]⟩
def qxb : List SOp := [zO 10 (.binOp .lss 3 (.tmp 9) (.tmp 8) 3)]
instance : Live qxb := ⟨[3,4,7,8,9]⟩
def qxa : List SOp := [zI 11 149 7 9,zL 12 179 11,zO 6 (.alloc 179),⟨none,.store 179 (.tmp 6) (.tmp 12),none⟩]
instance : Live qxa := ⟨[3,4,7,8,9]⟩
def qx9 : List SOp := [zM 13 4,zF 14 179 6 0,zL 15 3 14,zO 16 (.binOp .lss 3 (.tmp 13) (.tmp 15) 3)]
instance : Live qx9 := ⟨[3,4,6,7,8,9]⟩
def qx8 : List SOp := [zM 17 3,zM 18 4,zF 19 179 6 0,zL 20 3 19,zO 21 (.binOp .sub 3 (.tmp 20) (.const (.int .i64 1)) 3),zO 22 (.build 179 #[(0,.tmp 18),(1,.tmp 21)]),zO 23 (.buildSlice 149 1 #[(0,.tmp 22)]),zO 24 (.call ⟨.builtin .append,#[.tmp 17,.tmp 23],#[149,149]⟩),zG 3 24]
instance : Live qx8 := ⟨[3,4,6,7,8,9]⟩
def qx7 : List SOp := [zF 25 179 6 1,zL 26 3 25,zO 27 (.binOp .add 3 (.tmp 26) (.const (.int .i64 1)) 3),zG 4 27]
instance : Live qx7 := ⟨[3,6,7,8,9]⟩
def ql5 : List SOp := [zO 28 (.binOp .add 3 (.tmp 9) (.const (.int .i64 1)) 3),zM 9 28]
instance : Live ql5 := ⟨[3,4,7,8,9]⟩
def ql4 : List SOp := [zM 29 4,zO 30 (.binOp .leq 3 (.tmp 29) (.const (.int .i64 1000000000)) 3)]
instance : Live ql4 := ⟨[3,4]⟩
def ql3 : List SOp := [zM 31 3,zM 32 4,zO 33 (.build 179 #[(0,.tmp 32),(1,.const (.int .i64 1000000000))]),zO 34 (.buildSlice 149 1 #[(0,.tmp 33)]),zO 35 (.call ⟨.builtin .append,#[.tmp 31,.tmp 34],#[149,149]⟩),zG 3 35]
instance : Live ql3 := ⟨[3,4]⟩
def ql2 : List SOp := [zM 36 3,zG 2 36]
instance : Live ql2 := ⟨[3]⟩
def qio : SC :=
 (.seq (.ops false qxb) (.seq (.cond (.tmp 10) .skip (.exit 0)) (.seq (.block 1 (.seq (.ops false qxa) (.seq (.seq (.ops false qx9) (.cond (.tmp 16) (.ops false qx8) .skip)) (.ops false qx7)))) (.ops false ql5))))
def t_k161 : SC :=
 (.seq (.ops false qxf) (.seq (.ops false qxe) (.seq (.ops false qxd) (.seq (.seq (.ops false qxc) (.block 0 (.loop qio))) (.seq (.seq (.ops false ql4) (.cond (.tmp 30) (.ops false ql3) .skip)) (.seq (.ops false ql2) .ret))))))
theorem it_k161 : FnIs Tryz.prog 161 37 [.tmp 2] t_k161 := ⟨Tryz.f161, _, Tryz.func161, rfl, rfl, rfl, rfl, by kernel_rfl⟩

def z0s : List SOp := [zO 4 (.assign (.const (.slice none 0 0)))]
instance : Live z0s := ⟨[0,1]⟩
def z0r : List SOp := [zM 5 0,zM 6 1,zO 7 (.call ⟨.value (.func 156),#[.tmp 6],#[149]⟩),zO 8 (.call ⟨.value (.func 161),#[.tmp 7],#[149]⟩),zO 9 (.call ⟨.value (.func 160),#[.tmp 5,.tmp 8],#[149,149]⟩),zG 4 9]
instance : Live z0r := ⟨[0,1]⟩
def t_k139 : SC :=
 (.seq (.ops false z0s) (.seq (.ops false z0r) .ret))
theorem it_k139 : FnIs Tryz.prog 139 10 [.tmp 4] t_k139 := ⟨Tryz.f139, _, Tryz.func139, rfl, rfl, rfl, rfl, by kernel_rfl⟩

def z5j : List SOp := [zO 4 (.assign (.const (.bool false)))]
instance : Live z5j := ⟨[0,1]⟩
def z5i : List SOp := [zM 5 0,zM 6 1,zO 7 (.call ⟨.value (.func 139),#[.tmp 5,.tmp 6],#[149,149]⟩),zO 8 (.call ⟨.builtin .len,#[.tmp 7],#[149]⟩),zO 9 (.binOp .eql 3 (.tmp 8) (.const (.int .i64 0)) 3),zG 4 9]
instance : Live z5i := ⟨[0,1]⟩
def t_k107 : SC :=
 (.seq (.ops false z5j) (.seq (.ops false z5i) .ret))
theorem it_k107 : FnIs Tryz.prog 107 10 [.tmp 4] t_k107 := ⟨Tryz.f107, _, Tryz.func107, rfl, rfl, rfl, rfl, by kernel_rfl⟩

def qpk (x y : Rn) : Rn := (max x.1 y.1, min x.2 y.2)
def qpu (r : Rn) : List Rn := if r.1 ≤ r.2 then [r] else []
def q5p : List Rn → List Rn → List Rn
 | [], _ => []
 | _ :: _, [] => []
 | x :: l, y :: m => qpu (qpk x y) ++ if x.2 < y.2 then q5p l (y :: m) else q5p (x :: l) m
termination_by l m => l.length + m.length
theorem q9i (l : List Rn) : q5p l [] = [] := by cases l <;> simp [q5p]
theorem q80 (x y : Rn) (l m : List Rn) : q5p (x :: l) (y :: m) = qpu (qpk x y) ++ if x.2 < y.2 then q5p l (y :: m) else q5p (x :: l) m := by
 conv => lhs; unfold q5p
structure MtS where
 i : Nat
 j : Nat
 o : List Rn
theorem z9e (a b x y : List Rn) (ha : Ev (En Tryz.prog rfl).P 156 [.sl 2 (q07 a)] (.ret (.sl 2 (q07 x)))) (hb : Ev (En Tryz.prog rfl).P 156 [.sl 2 (q07 b)] (.ret (.sl 2 (q07 y)))) (hx : x.length ≤ 400000000) (hy : y.length ≤ 400000000) :
 Ev (En Tryz.prog rfl).P 160 [.sl 2 (q07 a), .sl 2 (q07 b)] (.ret (.sl 2 (q07 (q5p x y)))) := by
 refine Ev.of_body it_k160 (by simp) (Run.start ?_)
 unfold t_k160
 have e1 := q0v x
 have e2 := q0v y
 (have hF := True.intro; refine q01 (k:=?_); clear hF)
 refine q00 [.sl 2 (q07 a)] (he := ha) (k:=?_)
 (have hF := True.intro; refine q01 (k:=?_); clear hF)
 refine q00 [.sl 2 (q07 b)] (he := hb) (k:=?_)
 (have hF := (aI @e1 @e2); refine q01 (k:=?_); clear hF)
 refine Run.wk (Wk.own_nil 7 56 2 rfl rfl) ?_
 refine Run.while (σ := MtS) (fun z => ⟨tms [(5, .sl 2 (q07 x)), (6, .sl 2 (q07 y)), (7, .os 56 z.o.length), (8, .int .i64 (z.i : Int)), (9, .int .i64 (z.j : Int))], mms [(56, .arr z.o.length 2 (q07 z.o))]⟩)
  (fun z => z.i ≤ x.length ∧ z.j ≤ y.length ∧ z.o.length ≤ z.i + z.j ∧ z.o ++ q5p (x.drop z.i) (y.drop z.j) = q5p x y) (fun z => (x.length - z.i) + (y.length - z.j)) ⟨0, 0, []⟩ (have hW := @q06; q0h) ⟨Nat.zero_le _, Nat.zero_le _, Nat.le_refl _, rfl⟩ ?_
 rintro ⟨i, j, o⟩ ⟨hi, hj, ho, hp⟩
 dsimp only at hi hj ho hp ⊢
 have e3 := q0v o
 unfold qip
 by_cases hxi : i < x.length
 ·by_cases hyj : j < y.length
  ·obtain ⟨r, hr⟩ : ∃ r, x[i]? = some r := ⟨x[i], by simp [hxi]⟩
   obtain ⟨s, hs⟩ : ∃ s, y[j]? = some s := ⟨y[j], by simp [hyj]⟩
   have g1 := q3a hr
   have g2 := q3a hs
   obtain ⟨_, hxe⟩ := List.getElem?_eq_some_iff.1 hr
   obtain ⟨_, hye⟩ := List.getElem?_eq_some_iff.1 hs
   have hd := q80 r s (x.drop (i + 1)) (y.drop (j + 1))
   rw [← hxe, ← hye, ← List.drop_eq_getElem_cons hxi, ← List.drop_eq_getElem_cons hyj, hxe, hye] at hd
   unfold q4h at g1 g2
   (focus (have hF := (aI (aI @e1 (aI @e2 @e3)) (aI @g1 (aI @g2 @q6m))); (repeat' (first | refine go1 (k:=?_) | with_reducible refine Ny.of ?_ ?_ | (refine Hyp.of ?_; intro hc; (try simp only [hc]); (try simp only [Bh] at hc)))); all_goals clear hF))
   ·rename_i hc1
    rw [show qpu (qpk r s) = [(max r.1 s.1, min r.2 s.2)] from if_pos hc1, if_pos hc] at hd
    rw [hd, ← List.append_assoc] at hp
    have hl : (o ++ [(max r.1 s.1, min r.2 s.2)]).length = o.length + 1 := by simp
    (refine Fin.nextW (⟨i + 1, j, o ++ [(max r.1 s.1, min r.2 s.2)]⟩) ?_ (have hW := (aI @q06 @hl); q0h); (try dsimp only))
    exact ⟨⟨by omega, by omega, by rw [hl]; omega, hp⟩, by omega⟩
   ·rename_i hc1
    rw [show qpu (qpk r s) = [(max r.1 s.1, min r.2 s.2)] from if_pos hc1, if_neg hc] at hd
    rw [hd, ← List.append_assoc] at hp
    have hl : (o ++ [(max r.1 s.1, min r.2 s.2)]).length = o.length + 1 := by simp
    (refine Fin.nextW (⟨i, j + 1, o ++ [(max r.1 s.1, min r.2 s.2)]⟩) ?_ (have hW := (aI @q06 @hl); q0h); (try dsimp only))
    exact ⟨⟨by omega, by omega, by rw [hl]; omega, hp⟩, by omega⟩
   ·rename_i hc1
    rw [show qpu (qpk r s) = [] from if_neg hc1, if_pos hc] at hd
    rw [hd, List.nil_append] at hp
    (refine Fin.nextW (⟨i + 1, j, o⟩) ?_ (have hW := @q06; q0h); (try dsimp only))
    exact ⟨⟨by omega, by omega, by omega, hp⟩, by omega⟩
   ·rename_i hc1
    rw [show qpu (qpk r s) = [] from if_neg hc1, if_neg hc] at hd
    rw [hd, List.nil_append] at hp
    (refine Fin.nextW (⟨i, j + 1, o⟩) ?_ (have hW := @q06; q0h); (try dsimp only))
    exact ⟨⟨by omega, by omega, by omega, hp⟩, by omega⟩
  ·rw [List.drop_eq_nil_of_le (show y.length ≤ j by omega), q9i, List.append_nil] at hp
   rw [← hp]
   (have hF := (aI @e1 (aI @e2 @e3)); refine q01 (k:=?_); clear hF)
   exact qg8 (.sl 2 (q07 o))
 ·rw [List.drop_eq_nil_of_le (show x.length ≤ i by omega), show q5p [] (y.drop j) = [] by unfold q5p; rfl, List.append_nil] at hp
  rw [← hp]
  (have hF := (aI @e1 (aI @e2 @e3)); refine q01 (k:=?_); clear hF)
  exact qg8 (.sl 2 (q07 o))
def q2h : Int → List Rn → List Rn
 | k, [] => qpu (k, 1000000000)
 | k, r :: l => (if k < r.1 then [(k, r.1 - 1)] else []) ++ q2h (r.2 + 1) l
def q56 (l : List Rn) : List Rn := q2h 1 l
structure OtS where
 i : Nat
 k : Int
 o : List Rn
theorem ev_k161 (l : List Rn) (hl : l.length ≤ 400000000) (hb : ∀ r ∈ l, 1 ≤ r.1 ∧ r.1 ≤ 1000000000 ∧ 1 ≤ r.2 ∧ r.2 ≤ 1000000000) : Ev (En Tryz.prog rfl).P 161 [.sl 2 (q07 l)] (.ret (.sl 2 (q07 (q56 l)))) := by
 refine Ev.of_body it_k161 (by simp) (Run.start ?_)
 unfold t_k161
 have e1 := q0v l
 (have hF := @e1; refine q01 (k:=?_); clear hF)
 refine Run.wk (Wk.own_nil 3 24 2 rfl rfl) ?_
 refine Run.while (σ := OtS) (fun z => ⟨tms [(3, .os 24 z.o.length), (4, .int .i64 z.k), (7, .sl 2 (q07 l)), (8, .int .i64 (l.length : Int)), (9, .int .i64 (z.i : Int))], mms [(24, .arr z.o.length 2 (q07 z.o))]⟩)
  (fun z => z.i ≤ l.length ∧ z.o.length ≤ z.i ∧ 1 ≤ z.k ∧ z.k ≤ 1000000001 ∧ z.o ++ q2h z.k (l.drop z.i) = q56 l) (fun z => l.length - z.i) ⟨0, 1, []⟩ (have hW := @q06; q0h) ⟨Nat.zero_le _, Nat.le_refl _, by decide, by decide, rfl⟩ ?_
 rintro ⟨i, k, o⟩ ⟨hi, ho, hk1, hk2, hp⟩
 dsimp only at hi ho hp hk1 hk2 ⊢
 have e3 := q0v o
 unfold qio
 by_cases hlt : i < l.length
 ·obtain ⟨r, hr⟩ : ∃ r, l[i]? = some r := ⟨l[i], by simp [hlt]⟩
  have g1 := q3a hr
  have hbr := hb r (List.mem_of_getElem? hr)
  obtain ⟨_, hre⟩ := List.getElem?_eq_some_iff.1 hr
  rw [List.drop_eq_getElem_cons hlt, hre] at hp
  change o ++ ((if k < r.1 then [(k, r.1 - 1)] else []) ++ q2h (r.2 + 1) (l.drop (i + 1))) = _ at hp
  unfold q4h at g1
  (focus (have hF := (aI (aI @e1 @e3) (aI @g1 @q6m)); (repeat' (first | refine go1 (k:=?_) | with_reducible refine Ny.of ?_ ?_ | (refine Hyp.of ?_; intro hc; (try simp only [hc]); (try simp only [Bh] at hc)))); all_goals clear hF))
  ·rw [if_pos hc, ← List.append_assoc] at hp
   have hl : (o ++ [(k, r.1 - 1)]).length = o.length + 1 := by simp
   (refine Fin.nextW (⟨i + 1, r.2 + 1, o ++ [(k, r.1 - 1)]⟩) ?_ (have hW := (aI @q06 @hl); q0h); (try dsimp only))
   exact ⟨⟨by omega, by rw [hl]; omega, by omega, by omega, hp⟩, by omega⟩
  ·rw [if_neg hc, List.nil_append] at hp
   (refine Fin.nextW (⟨i + 1, r.2 + 1, o⟩) ?_ (have hW := @q06; q0h); (try dsimp only))
   exact ⟨⟨by omega, by omega, by omega, by omega, hp⟩, by omega⟩
 ·rw [List.drop_eq_nil_of_le (show l.length ≤ i by omega)] at hp
  change o ++ qpu (k, 1000000000) = _ at hp
  (focus (have hF := (aI @e1 (aI @e3 @q6m)); (repeat' (first | refine go1 (k:=?_) | with_reducible refine Ny.of ?_ ?_ | (refine Hyp.of ?_; intro hc; (try simp only [hc]); (try simp only [Bh] at hc)))); all_goals clear hF))
  ·rw [show qpu (k, 1000000000) = [(k, 1000000000)] from if_pos hc] at hp
   rw [← hp]
   exact qg8 (.sl 2 (q07 (o ++ [(k, 1000000000)])))
  ·rw [show qpu (k, 1000000000) = [] from if_neg hc, List.append_nil] at hp
   rw [← hp]
   exact qg8 (.sl 2 (q07 o))
theorem z9h (a b x y : List Rn) (hb : Ev (En Tryz.prog rfl).P 156 [.sl 2 (q07 b)] (.ret (.sl 2 (q07 y)))) (ho : Ev (En Tryz.prog rfl).P 161 [.sl 2 (q07 y)] (.ret (.sl 2 (q07 (q56 y)))))
 (hm : Ev (En Tryz.prog rfl).P 160 [.sl 2 (q07 a), .sl 2 (q07 (q56 y))] (.ret (.sl 2 (q07 x)))) : Ev (En Tryz.prog rfl).P 139 [.sl 2 (q07 a), .sl 2 (q07 b)] (.ret (.sl 2 (q07 x))) := by
 refine Ev.of_body it_k139 (by simp) (Run.start ?_)
 unfold t_k139
 (have hF := True.intro; refine q01 (k:=?_); clear hF)
 refine q00 [.sl 2 (q07 b)] (he := hb) (k:=?_)
 (have hF := True.intro; refine q01 (k:=?_); clear hF)
 refine q00 [.sl 2 (q07 y)] (he := ho) (k:=?_)
 (have hF := True.intro; refine q01 (k:=?_); clear hF)
 refine q00 [.sl 2 (q07 a), .sl 2 (q07 (q56 y))] (he := hm) (k:=?_)
 (have hF := True.intro; refine q01 (k:=?_); clear hF)
 exact qg8 (.sl 2 (q07 x))
theorem z9k (a b x : List Rn) (hx : x.length ≤ 1000000000) (hm : Ev (En Tryz.prog rfl).P 139 [.sl 2 (q07 a), .sl 2 (q07 b)] (.ret (.sl 2 (q07 x)))) : Ev (En Tryz.prog rfl).P 107 [.sl 2 (q07 a), .sl 2 (q07 b)] (.ret (.bool (decide (x = [])))) := by
 refine Ev.of_body it_k107 (by simp) (Run.start ?_)
 unfold t_k107
 have e1 := q0v x
 (have hF := @e1; refine q01 (k:=?_); clear hF)
 refine q00 [.sl 2 (q07 a), .sl 2 (q07 b)] (he := hm) (k:=?_)
 (have hF := @e1; refine q01 (k:=?_); clear hF)
 have hd : decide (x = []) = decide ((x.length : Int) = 0) := by
  rw [decide_eq_decide]
  constructor
  ·intro h; rw [h]; rfl
  ·intro h; exact List.eq_nil_of_length_eq_zero (by omega)
 rw [hd]
 exact Fin.tmp' rfl rfl

theorem z7c (x : Rn) (n : Int) : inR (qpu x) n ↔ x.1 ≤ n ∧ n ≤ x.2 := by
 unfold qpu
 by_cases h : x.1 ≤ x.2
 ·rw [if_pos h]; exact q70 x n
 ·rw [if_neg h]
  constructor
  ·intro hh; exact absurd hh (q29 n)
  ·intro hh; omega
theorem qgx : ∀ {l m : List Rn}, Can l → Can m → ∀ n, inR (q5p l m) n ↔ inR l n ∧ inR m n
 | [], m, _, _, n => by
  unfold q5p
  constructor
  ·intro h; exact absurd h (q29 n)
  ·intro h; exact absurd h.1 (q29 n)
 | x :: l, [], _, _, n => by
  rw [q9i]
  constructor
  ·intro h; exact absurd h (q29 n)
  ·intro h; exact absurd h.2 (q29 n)
 | x :: l, y :: m, hl, hm, n => by
  rw [q80, q2i, z7c, q0u, q0u]
  have a := fun h => hl.above (n := n) h
  have b := fun h => hm.above (n := n) h
  unfold qpk
  by_cases h : x.2 < y.2
  ·rw [if_pos h, qgx hl.tail hm n, q0u]
   constructor
   ·rintro (h1 | ⟨h1, h2⟩)
    ·exact ⟨.inl (by omega), .inl (by omega)⟩
    ·exact ⟨.inr h1, h2⟩
   ·rintro ⟨h1 | h1, h2⟩
    ·rcases h2 with h2 | h2
     ·exact .inl (by omega)
     ·have := b h2; omega
    ·exact .inr ⟨h1, h2⟩
  ·rw [if_neg h, qgx hl hm.tail n, q0u]
   constructor
   ·rintro (h1 | ⟨h1, h2⟩)
    ·exact ⟨.inl (by omega), .inl (by omega)⟩
    ·exact ⟨h1, .inr h2⟩
   ·rintro ⟨h1, h2 | h2⟩
    ·rcases h1 with h1 | h1
     ·exact .inl (by omega)
     ·have := a h1; omega
    ·exact .inr ⟨h1, h2⟩
termination_by l m => l.length + m.length
theorem qd6 : ∀ l m : List Rn, (q5p l m).length ≤ l.length + m.length
 | [], m => by unfold q5p; simp
 | x :: l, [] => by rw [q9i]; simp
 | x :: l, y :: m => by
  rw [q80, List.length_append]
  have h0 : (qpu (qpk x y)).length ≤ 1 := by unfold qpu; split <;> simp
  by_cases h : x.2 < y.2
  ·rw [if_pos h]
   have := qd6 l (y :: m)
   simp only [List.length_cons] at *
   omega
  ·rw [if_neg h]
   have := qd6 (x :: l) m
   simp only [List.length_cons] at *
   omega
termination_by l m => l.length + m.length
theorem q9h : ∀ {l : List Rn} (k : Int), Can l → 1 ≤ k → (∀ n, inR l n → k ≤ n) → ∀ n, inR (q2h k l) n ↔ k ≤ n ∧ n ≤ 1000000000 ∧ ¬ inR l n
 | [], k, _, hk, _, n => by
  unfold q2h
  rw [z7c]
  constructor
  ·intro h; exact ⟨h.1, h.2, q29 n⟩
  ·intro h; exact ⟨h.1, h.2.1⟩
 | r :: l, k, hl, hk, hb, n => by
  have hr := (Can.cons_iff.1 hl).1
  unfold okR at hr
  have hkr : k ≤ r.1 := hb r.1 ((q0u r l _).2 (.inl ⟨Int.le_refl _, hr.2.1⟩))
  have ih := q9h (l := l) (r.2 + 1) hl.tail (by omega) (fun n h => by have := hl.above h; omega) n
  show inR ((if k < r.1 then [(k, r.1 - 1)] else []) ++ q2h (r.2 + 1) l) n ↔ _
  rw [q2i, ih, q0u]
  have a := fun h => hl.above (n := n) h
  by_cases h : k < r.1
  ·rw [if_pos h, q70]
   constructor
   ·rintro (h1 | ⟨h1, h2, h3⟩)
    ·exact ⟨by omega, by omega, fun h4 => by
      rcases h4 with h4 | h4
      ·omega
      ·have := a h4; omega⟩
    ·exact ⟨by omega, h2, fun h4 => by
      rcases h4 with h4 | h4
      ·omega
      ·exact h3 h4⟩
   ·rintro ⟨h1, h2, h3⟩
    by_cases h4 : n < r.1
    ·exact .inl (by omega)
    ·refine .inr ⟨?_, h2, fun h5 => h3 (.inr h5)⟩
     have : ¬ (r.1 ≤ n ∧ n ≤ r.2) := fun h5 => h3 (.inl h5)
     omega
  ·rw [if_neg h]
   constructor
   ·rintro (h1 | ⟨h1, h2, h3⟩)
    ·exact absurd h1 (q29 n)
    ·exact ⟨by omega, h2, fun h4 => by
      rcases h4 with h4 | h4
      ·omega
      ·exact h3 h4⟩
   ·rintro ⟨h1, h2, h3⟩
    refine .inr ⟨?_, h2, fun h5 => h3 (.inr h5)⟩
    have : ¬ (r.1 ≤ n ∧ n ≤ r.2) := fun h5 => h3 (.inl h5)
    omega
theorem q68 : ∀ (l : List Rn) (k : Int), (q2h k l).length ≤ l.length + 1
 | [], k => by unfold q2h qpu; split <;> simp
 | r :: l, k => by
  have := q68 l (r.2 + 1)
  show ((if k < r.1 then [(k, r.1 - 1)] else []) ++ q2h (r.2 + 1) l).length ≤ _
  rw [List.length_append, List.length_cons]
  split <;> simp <;> omega
theorem qf2 {l : List Rn} (h : Can l) (n : Int) : inR (q56 l) n ↔ 1 ≤ n ∧ n ≤ 1000000000 ∧ ¬ inR l n :=
 q9h 1 h (by omega) (fun n hn => (h.bound hn).1) n
def q59 (a b : List Rn) : List Rn := q5p (q13 a) (q13 (q56 (q13 b)))
theorem q6i (a b : List Rn) (n : Int) : inR (q59 a b) n ↔ mem1 a n ∧ ¬ mem1 b n := by
 unfold q59
 rw [qgx (q1c _) (q1c _), q2p, q2p]
 constructor
 ·rintro ⟨h1, h2⟩
  refine ⟨h1, fun h3 => ?_⟩
  have := (qf2 (q1c b) n).1 h2.2.2
  exact this.2.2 ((q2p b n).2 h3)
 ·rintro ⟨h1, h2⟩
  refine ⟨h1, h1.1, h1.2.1, (qf2 (q1c b) n).2 ⟨h1.1, h1.2.1, fun h3 => h2 ((q2p b n).1 h3)⟩⟩

def zfb : List SOp := [zO 2 (.box 26 (.tmp 0)),zO 3 (.box 26 (.tmp 1)),zO 4 (.assign (.const (.bool false)))]
instance : Live zfb := ⟨[0,1]⟩
def zfa : List SOp := [zL 8 26 2,zO 9 (.buildSlice 116 1 #[(0,.tmp 8)]),zO 10 (.call ⟨.value (.func 96),#[.tmp 9],#[116]⟩),zL 11 26 3,zO 12 (.buildSlice 116 1 #[(0,.tmp 11)]),zO 13 (.call ⟨.value (.func 96),#[.tmp 12],#[116]⟩),zG 5 10,zG 6 13]
instance : Live zfa := ⟨[2,3]⟩
def zf9 : List SOp := [zO 14 (.move (.const (.int .i64 0)))]
instance : Live zf9 := ⟨[5,6]⟩
def zf8 : List SOp := [zO 15 (.binOp .lss 3 (.tmp 14) (.const (.int .i64 16)) 3)]
instance : Live zf8 := ⟨[5,6,14]⟩
def zf7 : List SOp := [zM 16 14,zG 7 16]
instance : Live zf7 := ⟨[5,6,14]⟩
def zf6 : List SOp := [zM 17 5,zM 18 7,zO 19 (.nilCheck (.tmp 17)),zI 20 151 19 18,zL 21 149 20,zO 22 (.call ⟨.builtin .len,#[.tmp 21],#[149]⟩),zO 23 (.binOp .gtr 3 (.tmp 22) (.const (.int .i64 0)) 3),zM 24 23,⟨some 25,.move (.tmp 5),some ((some 24),true)⟩,⟨some 26,.move (.tmp 7),some ((some 24),true)⟩,⟨some 27,.nilCheck (.tmp 25),some ((some 24),true)⟩,⟨some 28,.indexAddr 151 (.tmp 27) (.tmp 26),some ((some 24),true)⟩,⟨some 29,.load 149 (.tmp 28),some ((some 24),true)⟩,⟨some 30,.move (.tmp 6),some ((some 24),true)⟩,⟨some 31,.move (.tmp 7),some ((some 24),true)⟩,⟨some 32,.nilCheck (.tmp 30),some ((some 24),true)⟩,⟨some 33,.indexAddr 151 (.tmp 32) (.tmp 31),some ((some 24),true)⟩,⟨some 34,.load 149 (.tmp 33),some ((some 24),true)⟩,⟨some 35,.call ⟨.value (.func 107),#[.tmp 29,.tmp 34],#[149,149]⟩,some ((some 24),true)⟩,⟨some 36,.unOp .not 4 (.tmp 35),some ((some 24),true)⟩,zO 37 (.pick (.tmp 24) (.tmp 36) (.const (.bool false)))]
instance : Live zf6 := ⟨[5,6,7,14]⟩
def zf5 : List SOp := [zO 4 (.assign (.const (.bool false)))]
instance : Live zf5 := ⟨[]⟩
def zf4 : List SOp := [zO 38 (.binOp .add 3 (.tmp 14) (.const (.int .i64 1)) 3),zM 14 38]
instance : Live zf4 := ⟨[5,6,14]⟩
def zf3 : List SOp := [zO 4 (.assign (.const (.bool true)))]
instance : Live zf3 := ⟨[]⟩
def qs3 : SC :=
 (.seq (.ops false zf8) (.seq (.cond (.tmp 15) .skip (.exit 0)) (.seq (.block 1 (.seq (.ops false zf7) (.seq (.ops true zf6) (.cond (.tmp 37) (.seq (.ops false zf5) .ret) .skip)))) (.ops false zf4))))
def t_k56 : SC :=
 (.seq (.ops false zfb) (.seq (.ops true zfa) (.seq (.seq (.ops false zf9) (.block 0 (.loop qs3))) (.seq (.ops false zf3) .ret))))
theorem it_k56 : FnIs Tryz.prog 56 39 [.tmp 4] t_k56 := ⟨Tryz.f56, _, Tryz.func56, rfl, rfl, rfl, rfl, by kernel_rfl⟩

def zcv : List SOp := [zO 1 (.box 26 (.tmp 0)),zO 2 (.assign (.const (.bool false)))]
instance : Live zcv := ⟨[0]⟩
def zcu : List SOp := [zL 3 26 1,zO 4 (.call ⟨.value (.func 132),#[.tmp 3],#[26]⟩),zO 5 (.binOp .eql 3 (.tmp 4) (.const (.int .i64 0)) 3),zG 2 5]
instance : Live zcu := ⟨[1]⟩
def t_k92 : SC :=
 (.seq (.ops false zcv) (.seq (.ops false zcu) .ret))
theorem it_k92 : FnIs Tryz.prog 92 6 [.tmp 2] t_k92 := ⟨Tryz.f92, _, Tryz.func92, rfl, rfl, rfl, rfl, by kernel_rfl⟩

theorem ev_k160 (a b : List Rn) (ha : a.length ≤ 300000000) (hb : b.length ≤ 300000000) : Ev (En Tryz.prog rfl).P 160 [.sl 2 (q07 a), .sl 2 (q07 b)] (.ret (.sl 2 (q07 (q5p (q13 a) (q13 b))))) :=
 z9e a b _ _ (qdp a (by omega)) (qdp b (by omega)) (by have := q1z a; omega) (by have := q1z b; omega)
theorem zkh (a b : List Rn) (ha : a.length ≤ 200000000) (hb : b.length ≤ 200000000) : Ev (En Tryz.prog rfl).P 139 [.sl 2 (q07 a), .sl 2 (q07 b)] (.ret (.sl 2 (q07 (q59 a b)))) := by
 have h1 := q1z b
 have h2 := q68 (q13 b) 1
 exact z9h a b _ _ (qdp b (by omega)) (ev_k161 _ (by omega) fun r hr => by have := (q1c b).2 r hr; unfold okR at this; omega) (ev_k160 a _ (by omega) (by unfold q56; omega))
theorem q7z (a b : List Rn) : (q59 a b).length ≤ a.length + b.length + 1 := by
 have h1 := qd6 (q13 a) (q13 (q56 (q13 b)))
 have h2 := q1z a
 have h3 := q1z (q56 (q13 b))
 have h4 := q68 (q13 b) 1
 have h5 := q1z b
 unfold q59 q56 at *
 omega
theorem ev_k107 (a b : List Rn) (ha : a.length ≤ 200000000) (hb : b.length ≤ 200000000) : Ev (En Tryz.prog rfl).P 107 [.sl 2 (q07 a), .sl 2 (q07 b)] (.ret (.bool (decide (q59 a b = [])))) :=
 z9k a b _ (by have := q7z a b; omega) (zkh a b ha hb)
def za6 (t u : Tab) : Prop := ∀ r, r < 16 → q59 (t.getD r []) (u.getD r []) = []
open Classical in
noncomputable def q0n (p q : Pst) : Bool := decide (za6 (q0l [p]) (q0l [q]))
theorem qau {p q : Pst} (h : za6 (q0l [p]) (q0l [q])) : q0n p q = true := by
 classical
 exact decide_eq_true h
theorem q95 {p q : Pst} (h : ¬ za6 (q0l [p]) (q0l [q])) : q0n p q = false := by
 classical
 exact decide_eq_false h
theorem qgw : ∀ (l m : List Rn), ∀ r ∈ q5p l m, r.1 ≤ r.2
 | [], m, r, h => by unfold q5p at h; simp at h
 | x :: l, [], r, h => by rw [q9i] at h; simp at h
 | x :: l, y :: m, r, h => by
  rw [q80] at h
  rcases List.mem_append.1 h with h | h
  ·unfold qpu at h
   split at h
   ·rename_i hc
    simp at h
    subst h
    exact hc
   ·simp at h
  ·split at h
   ·exact qgw l (y :: m) r h
   ·exact qgw (x :: l) m r h
termination_by l m => l.length + m.length
theorem zaj {t u : Tab} : za6 t u ↔ ∀ r, r < 16 → ∀ n, inT t r n → inT u r n := by
 constructor
 ·intro h r hr n hn
  by_cases h' : inT u r n
  ·exact h'
  ·have := (q6i (t.getD r []) (u.getD r []) n).2 ⟨hn, h'⟩
   rw [h r hr] at this
   exact absurd this (q29 n)
 ·intro h r hr
  cases hm : q59 (t.getD r []) (u.getD r []) with
  | nil => rfl
  | cons x l =>
   have hx : x ∈ q59 (t.getD r []) (u.getD r []) := by rw [hm]; exact List.mem_cons_self
   have hok := qgw _ _ x hx
   have := (q6i (t.getD r []) (u.getD r []) x.1).1 ⟨x, hx, Int.le_refl _, hok⟩
   exact absurd (h r hr x.1 this.1) this.2
theorem q27 {p q : Pst} : q0n p q = true ↔ ∀ r, r < 16 → ∀ n, inP p r n → inP q r n := by
 have h : za6 (q0l [p]) (q0l [q]) ↔ ∀ r, r < 16 → ∀ n, inP p r n → inP q r n := by
  rw [zaj]
  constructor
  ·intro h r hr n
   have := h r hr n
   rw [q69 hr, q69 hr] at this
   simpa using this
  ·intro h r hr n
   rw [q69 hr, q69 hr]
   simpa using h r hr n
 rw [← h]
 constructor
 ·intro h1
  by_cases h2 : za6 (q0l [p]) (q0l [q])
  ·exact h2
  ·rw [q95 h2] at h1; simp at h1
 ·exact qau
theorem z8v (b : List Rn) : q59 [] b = [] := by
 unfold q59
 rw [q5v Can.nil]
 unfold q5p
 rfl
theorem ev_k56 (p q : Pst) (hp : wt p ≤ 100000000) (hq : wt q ≤ 100000000) : Ev (En Tryz.prog rfl).P 56 [q0g p, q0g q] (.ret (.bool (q0n p q))) := by
 refine Ev.of_body it_k56 (by simp) (Run.start ?_)
 unfold t_k56 q0g
 have c1 := qff [p] (by simp) (by simp; omega)
 have c2 := qff [q] (by simp) (by simp; omega)
 have ht : TabLe (q0l [p]) (wt p) := by simpa using q1h [p]
 have hu : TabLe (q0l [q]) (wt q) := by simpa using q1h [q]
 have hr := @qau p q
 have hr' := @q95 p q
 (have hF := True.intro; refine q01 (k:=?_); clear hF)
 refine q00 [.sl 2 (q1q [p])] (he := c1) (k:=?_)
 (have hF := True.intro; refine q01 (k:=?_); clear hF)
 refine q00 [.sl 2 (q1q [q])] (he := c2) (k:=?_)
 clear c1 c2
 generalize q0l [p] = t at ht hr hr' ⊢
 generalize q0l [q] = u at hu hr hr' ⊢
 have e1 : (q1w t).length = 16 := by rw [q5e, ht.1]
 have e2 : (q1w u).length = 16 := by rw [q5e, hu.1]
 (have hF := (aI @e1 @e2); refine q01 (k:=?_); clear hF)
 refine Run.while (σ := Nat) (fun i => ⟨tms [(5, .sptr (q1w t)), (6, .sptr (q1w u)), (14, .int .i64 (i : Int))], mms []⟩) (fun i => i ≤ 16 ∧ ∀ r, r < i → q59 (t.getD r []) (u.getD r []) = []) (fun i => 16 - i) 0 (have hW := @q1b; q0h) ⟨Nat.zero_le _, fun j hj => absurd hj (Nat.not_lt_zero _)⟩ ?_
 rintro i ⟨hi, hp⟩
 unfold qs3
 by_cases hlt : i < 16
 ·have hit : i < t.length := by rw [ht.1]; exact hlt
  have hiu : i < u.length := by rw [hu.1]; exact hlt
  have h1 := ht.2 i
  have h2 := hu.2 i
  have g1 := q7t (q6k hit)
  have g2 := q7t (q6k hiu)
  have c3 := ev_k107 (t.getD i []) (u.getD i []) (by omega) (by omega)
  have hs : q59 (t.getD i []) (u.getD i []) = [] → ∀ r, r < i + 1 → q59 (t.getD r []) (u.getD r []) = [] := fun h r hr => by
   by_cases e : r = i
   ·rw [e]; exact h
   ·exact hp r (by omega)
  have e3 := q0v (t.getD i [])
  by_cases hn : t.getD i [] = []
  ·have hs2 := hs (by rw [hn, z8v])
   have e4 : (q07 (t.getD i [])).length = 0 := by rw [e3, hn]; rfl
   (have hF := (aI (aI @e1 @e2) (aI @g1 (aI @g2 @e4))); refine q01 (k:=?_); clear hF)
   (refine Fin.nextW (i + 1) ?_ (have hW := @q1b; q0h); (try dsimp only))
   exact ⟨⟨hlt, hs2⟩, by omega⟩
  ·have e4 : 0 < (t.getD i []).length := List.length_pos_iff.2 hn
   (have hF := (aI (aI @e1 @e2) (aI @g1 (aI @g2 @e3))); refine q01 (k:=?_); clear hF)
   refine q00 [.sl 2 (q07 (t.getD i [])), .sl 2 (q07 (u.getD i []))] (he := c3) (k:=?_)
   (focus (have hF := (aI (aI @e1 @e2) (aI @g1 (aI @g2 @e3))); (repeat' (first | refine go1 (k:=?_) | with_reducible refine Ny.of ?_ ?_ | (refine Hyp.of ?_; intro hc; (try simp only [hc]); (try simp only [Bh] at hc)))); all_goals clear hF))
   ·rw [hr' fun h => hc (h i hlt)]
    exact Fin.tmp' rfl rfl
   ·have hs2 := hs hc
    (refine Fin.nextW (i + 1) ?_ (have hW := @q1b; q0h); (try dsimp only))
    exact ⟨⟨hlt, hs2⟩, by omega⟩
 ·rw [hr fun r hr => hp r (by omega)]
  (have hF := (aI @e1 @e2); refine q01 (k:=?_); clear hF)
  exact Fin.tmp' rfl rfl
theorem z7l (p : Pst) (hp : wt p ≤ 50000000) : Ev (En Tryz.prog rfl).P 92 [q0g p] (.ret (.bool (decide (q3x p = 0)))) := by
 refine Ev.of_body it_k92 (by simp) (Run.start ?_)
 unfold t_k92 q0g
 (have hF := True.intro; refine q01 (k:=?_); clear hF)
 refine q00 [q0g p] (he := ev_k132 p hp) (k:=?_)
 (have hF := True.intro; refine q01 (k:=?_); clear hF)
 exact Fin.tmp' rfl rfl

def qx6 : List SOp := [zO 3 (.box 26 (.tmp 0)),zO 4 (.box 26 (.tmp 1)),zO 6 (.alloc 26)]
instance : Live qx6 := ⟨[0,1,2]⟩
def qx5 : List SOp := [zL 10 26 3,zO 11 (.buildSlice 116 1 #[(0,.tmp 10)]),zO 12 (.call ⟨.value (.func 96),#[.tmp 11],#[116]⟩),zL 13 26 4,zO 14 (.buildSlice 116 1 #[(0,.tmp 13)]),zO 15 (.call ⟨.value (.func 96),#[.tmp 14],#[116]⟩),zG 7 12,zG 8 15]
instance : Live qx5 := ⟨[2,3,4,6]⟩
def qx4 : List SOp := [zO 16 (.move (.const (.int .i64 0)))]
instance : Live qx4 := ⟨[2,6,7,8]⟩
def qx3 : List SOp := [zO 17 (.binOp .lss 3 (.tmp 16) (.const (.int .i64 16)) 3)]
instance : Live qx3 := ⟨[2,6,7,8,16]⟩
def qx2 : List SOp := [zM 18 16,zG 9 18]
instance : Live qx2 := ⟨[2,6,7,8,16]⟩
def qx1 : List SOp := [zM 19 7,zM 20 9,zM 21 2,zM 22 7,zM 23 9,zO 24 (.nilCheck (.tmp 22)),zI 25 151 24 23,zL 26 149 25,zM 27 8,zM 28 9,zO 29 (.nilCheck (.tmp 27)),zI 30 151 29 28,zL 31 149 30,zO 32 (.call ⟨.value (.tmp 21),#[.tmp 26,.tmp 31],#[149,149]⟩),zO 33 (.nilCheck (.tmp 19)),zI 34 151 33 20,⟨none,.store 149 (.tmp 34) (.tmp 32),none⟩]
instance : Live qx1 := ⟨[2,6,7,8,9,16]⟩
def qx0 : List SOp := [zO 35 (.binOp .add 3 (.tmp 16) (.const (.int .i64 1)) 3),zM 16 35]
instance : Live qx0 := ⟨[2,6,7,8,16]⟩
def qwz : List SOp := [zM 36 7,zO 37 (.call ⟨.value (.func 97),#[.tmp 36],#[137]⟩),⟨none,.store 26 (.tmp 6) (.tmp 37),none⟩]
instance : Live qwz := ⟨[6,7]⟩
def qin : SC :=
 (.seq (.ops false qx3) (.seq (.cond (.tmp 17) .skip (.exit 0)) (.seq (.block 1 (.seq (.ops false qx2) (.ops true qx1))) (.ops false qx0))))
def t_k162 : SC :=
 (.seq (.ops false qx6) (.seq (.ops true qx5) (.seq (.seq (.ops false qx4) (.block 0 (.loop qin))) (.seq (.ops false qwz) .ret))))
theorem it_k162 : FnIs Tryz.prog 162 38 [.cell 6 26] t_k162 := ⟨Tryz.f162, _, Tryz.func162, rfl, rfl, rfl, rfl, by kernel_rfl⟩

def z0q : List SOp := [zO 2 (.box 26 (.tmp 0)),zO 3 (.box 26 (.tmp 1)),zO 4 (.alloc 26)]
instance : Live z0q := ⟨[0,1]⟩
def z0p : List SOp := [zL 5 26 2,zL 6 26 3,zO 7 (.call ⟨.value (.func 162),#[.tmp 5,.tmp 6,.func 139],#[26,26,186]⟩),⟨none,.store 26 (.tmp 4) (.tmp 7),none⟩]
instance : Live z0p := ⟨[2,3,4]⟩
def t_k140 : SC :=
 (.seq (.ops false z0q) (.seq (.ops false z0p) .ret))
theorem it_k140 : FnIs Tryz.prog 140 8 [.cell 4 26] t_k140 := ⟨Tryz.f140, _, Tryz.func140, rfl, rfl, rfl, rfl, by kernel_rfl⟩

theorem new_k96 (ps : List Pst) (hl : ps.length ≤ 1000000000) (hw : (ps.map wt).sum ≤ 900000000) : EvNew (En Tryz.prog rfl).P 96 [.sl 2 (q1q ps)] (q1w (q0l ps)) := by
 refine EvNew.of_body it_k96 (by simp) (Run.start ?_)
 unfold t_k96
 have e0 : (q1q ps).length = ps.length := q9r _
 (have hF := @e0; refine q1j (k:=?_); clear hF)
 refine Run.wk (Wk.trans (Wk.own_cells (k := 10) (cs' := q4v q6r) rfl rfl ?_) (Wk.toL [(3, .ptr 10 0), (11, .sl 2 (q1q ps)), (12, .int .i64 ps.length), (13, .int .i64 0)] [(10, .cells (q4v q6r))] ⟨rfl, rfl, rfl, rfl, trivial⟩ ⟨rfl, trivial⟩ ⟨rfl, q0b ps, rfl, rfl, trivial⟩ ⟨q2n _ _, trivial⟩)) ?_
 ·intro i x y hx hy
  have hx' : (List.replicate 16 AVal.nil)[i]? = some x := hx
  rw [List.getElem?_replicate] at hx'
  have hy' : (List.replicate 16 (AVal.own 2 []))[i]? = some y := hy
  rw [List.getElem?_replicate] at hy'
  split at hx'
  ·rename_i h16
   rw [if_pos h16] at hy'
   cases hx'; cases hy'
   exact .inr ⟨rfl, 2, rfl⟩
  ·cases hx'
 refine Run.range ps.length (fun i => ⟨tms [(3, .ptr 10 0), (11, .sl 2 (q1q ps)), (12, .int .i64 ps.length), (13, .int .i64 i)], mms [(10, .cells (q4v ((ps.take i).foldl q1k q6r)))]⟩) (Wk.refl _ _) (fun i hi => ?_) ?_
 ·have hq0 := TabLe.all qa5 (ps.take i)
  obtain ⟨p, hp⟩ : ∃ p, ps[i]? = some p := ⟨ps[i], by simp [hi]⟩
  rw [q32 q1k q6r ps hp]
  have hsum : ((ps.take i).map wt).sum + wt p ≤ (ps.map wt).sum := by
   have : ((ps.take (i + 1)).map wt).sum ≤ (ps.map wt).sum := by rw [List.map_take]; exact q8r _
   rw [List.take_add_one, hp] at this
   simpa using this
  generalize (ps.take i).foldl q1k q6r = u at hq0 ⊢
  generalize ((ps.take i).map wt).sum = m at hq0 hsum
  have hwt : wt p = p.vec.length + p.cloud.length := rfl
  have hv : p.vec.length ≤ 1000000000 := by omega
  have hc : p.cloud.length ≤ 1000000000 := by omega
  have e1 : ((i : Int) < (ps.length : Int)) = True := by simp only [eq_iff_iff, iff_true]; omega
  have e2 : (0 ≤ (i : Int)) = True := by simp
  have e3 : (q1q ps)[i]? = some (.agg [.sl 1 (q05 p.vec), .sl 3 (q0d p.cloud)]) := qdv hp
  have e4 : (q05 p.vec).length = p.vec.length := q0f _
  have e5 : (q0d p.cloud).length = p.cloud.length := q1f _
  have e13 : IntKind.i64.wrap ((i : Int) + 1) = ((i + 1 : Nat) : Int) := by rw [q3f (by omega)]; omega
  unfold q98
  (have hF := (aI (aI @e0 (aI @e1 @e2)) (aI @e3 (aI @e4 @e5))); refine q1j (k:=?_); clear hF)
  refine Run.wk (Wk.toL [(3, .ptr 10 0), (11, .sl 2 (q1q ps)), (12, .int .i64 ps.length), (13, .int .i64 i), (5, .ptr 5 0), (20, .int .i64 (min p.vec.length 16)), (21, .int .i64 0)] [(10, .cells (q4v u)), (5, .cells [.sl 1 (q05 p.vec), .sl 3 (q0d p.cloud)])] ⟨rfl, rfl, rfl, rfl, rfl, rfl, rfl, trivial⟩ ⟨rfl, rfl, trivial⟩ ⟨rfl, q0b ps, rfl, rfl, rfl, rfl, rfl, trivial⟩ ⟨q2n _ _, by simp [ABlk.no, AVal.noC, AVal.no, AVal.stb, q02, q03], trivial⟩) ?_
  refine zip (.sl 2 (q1q ps)) (q0b ps) _ _ p hv u (n0 := 0 + m) hq0 (by omega) ?_
  (have hF := (aI (aI @e0 (aI @e1 @e2)) (aI @e3 (aI @e4 @e5))); refine q1j (k:=?_); clear hF)
  refine Run.wk (Wk.toL [(3, .ptr 10 0), (11, .sl 2 (q1q ps)), (12, .int .i64 ps.length), (13, .int .i64 i), (43, .sl 3 (q0d p.cloud)), (44, .int .i64 p.cloud.length), (45, .int .i64 0)] [(10, .cells (q4v (q5l p.vec u)))] ⟨rfl, rfl, rfl, rfl, rfl, rfl, rfl, trivial⟩ ⟨rfl, trivial⟩ ⟨rfl, q0b ps, rfl, rfl, q03 _, rfl, rfl, trivial⟩ ⟨q2n _ _, trivial⟩) ?_
  refine zio (.sl 2 (q1q ps)) (q0b ps) _ _ p.cloud hc (q5l p.vec u) (n0 := 0 + m + min p.vec.length 16) (TabLe.range hq0 _) (by omega) ?_
  (have hF := (aI (aI @e0 (aI @e1 @e2)) (aI (aI @e3 @e4) (aI @e5 @e13))); refine q1j (k:=?_); clear hF)
  exact Fin.next (Wk.toL _ _ ⟨rfl, rfl, rfl, rfl, trivial⟩ ⟨rfl, trivial⟩ ⟨rfl, q0b ps, rfl, rfl, trivial⟩ ⟨q2n _ _, trivial⟩)
 ·have e1 : ((ps.length : Int) < (ps.length : Int)) = False := by simp
  have e3 : ps.take ps.length = ps := List.take_length
  rw [e3]
  refine Run.wk (Wk.freeze (k := 10) (cs := q4v (q0l ps)) rfl) ?_
  unfold q98
  (have hF := (aI @e0 @e1); refine q1j (k:=?_); clear hF)
  have hf : (q4v (q0l ps)).map frz = q1w (q0l ps) := by
   unfold q4v q1w
   rw [List.map_map]
   rfl
  refine Fin.done ⟨10, rfl, ?_, q1b _⟩
  rw [← hf]
  rfl
theorem encTs_fz (K : Nat → Bool) (M : Mem) (t : Tab) : (q1w t).map (fzc K M) = q1w t := by
 unfold q1w
 rw [List.map_map]
 rfl
theorem zko (t : Tab) (i : Nat) (l : List Rn) : (q1w t).set i (.sl 2 (q07 l)) = q1w (t.set i l) := by simp [q1w, List.map_set]
theorem z9d (p q : Pst) (g : FuncId) (h : Nat → List Rn) {N : Nat} (hp : wt p ≤ 100000000) (hq : wt q ≤ 100000000) (hN : N ≤ 50000000) (hlen : ∀ r, r < 16 → (h r).length ≤ N)
 (hf : ∀ r, r < 16 → Ev (En Tryz.prog rfl).P g [.sl 2 (q07 ((q0l [p]).getD r [])), .sl 2 (q07 ((q0l [q]).getD r []))] (.ret (.sl 2 (q07 (h r))))) :
 Ev (En Tryz.prog rfl).P 162 [q0g p, q0g q, .fn g []] (.ret (q0g (q67 ((List.range 16).map h)))) := by
 refine Ev.of_body it_k162 (by simp) (Run.start ?_)
 unfold t_k162 q0g
 have c1 := new_k96 [p] (by simp) (by simp; omega)
 have c2 := qff [q] (by simp) (by simp; omega)
 have ht : TabLe (q0l [p]) (wt p) := by simpa using q1h [p]
 have hu : TabLe (q0l [q]) (wt q) := by simpa using q1h [q]
 (have hF := True.intro; refine q01 (k:=?_); clear hF)
 refine stNew [.sl 2 (q1q [p])] (he := c1) (k:=?_)
 (have hF := True.intro; refine q01 (k:=?_); clear hF)
 refine q00 [.sl 2 (q1q [q])] (he := c2) (k:=?_)
 clear c1 c2
 generalize q0l [p] = t at ht hf ⊢
 generalize q0l [q] = u at hu hf ⊢
 have e2 : (q1w u).length = 16 := by rw [q5e, hu.1]
 have e1 : (q1w t).length = 16 := by rw [q5e, ht.1]
 (have hF := (aI @e1 @e2); refine q01 (k:=?_); clear hF)
 refine Run.while (σ := Nat × Tab) (fun z => ⟨tms [(2, .fn g []), (6, .ptr 6 0), (7, .ptr 12 0), (8, .sptr (q1w u)), (16, .int .i64 (z.1 : Int))], mms [(6, .cells [.nil, .nil]), (12, .cells (q1w z.2))]⟩)
  (fun z => z.1 ≤ 16 ∧ z.2.length = 16 ∧ ∀ r, r < 16 → z.2.getD r [] = if r < z.1 then h r else t.getD r []) (fun z => 16 - z.1) (0, t) (have hW := @q1b; q0h) ⟨Nat.zero_le _, ht.1, fun r _ => by rw [if_neg (Nat.not_lt_zero r)]⟩ ?_
 rintro ⟨i, T⟩ ⟨hi, hT, hrow⟩
 dsimp only at hi hT hrow ⊢
 have e3 : (q1w T).length = 16 := by rw [q5e, hT]
 unfold qin
 by_cases hlt : i < 16
 ·have hiT : i < T.length := by omega
  have hiu : i < u.length := by rw [hu.1]; exact hlt
  have hrT : T.getD i [] = t.getD i [] := by rw [hrow i hlt, if_neg (by omega)]
  have g1 := q6k hiT
  have g2 := q7t (q6k hiu)
  rw [hrT] at g1
  have c3 := hf i hlt
  have hs : List.take i (q1w T) ++ [AVal.sl 2 (q07 (h i))] ++ List.drop (i + 1) (q1w T) = q1w (T.set i (h i)) := by
   rw [← zko, List.set_eq_take_append_cons_drop, if_pos (by omega), List.append_assoc]
   rfl
  have hrow2 : ∀ r, r < 16 → (T.set i (h i)).getD r [] = if r < i + 1 then h r else t.getD r [] := fun r hr => by
   rw [List.getD_eq_getElem?_getD, List.getElem?_set]
   by_cases e : i = r
   ·subst e
    rw [if_pos rfl, if_pos hiT, if_pos (by omega)]
    rfl
   ·rw [if_neg e, ← List.getD_eq_getElem?_getD, hrow r hr]
    by_cases hr2 : r < i
    ·rw [if_pos hr2, if_pos (by omega)]
    ·rw [if_neg hr2, if_neg (by omega)]
  (have hF := (aI (aI @e2 @e3) (aI @g1 @g2)); refine q01 (k:=?_); clear hF)
  refine q00 [.sl 2 (q07 (t.getD i [])), .sl 2 (q07 (u.getD i []))] (he := c3) (k:=?_)
  (have hF := (aI (aI @e2 @e3) (aI @g1 @g2)); refine q01 (k:=?_); clear hF)
  rw [hs]
  (refine Fin.nextW ((i + 1, T.set i (h i))) ?_ (have hW := @q1b; q0h); (try dsimp only))
  exact ⟨⟨by show i + 1 ≤ 16; omega, by show (T.set i (h i)).length = 16; rw [List.length_set]; exact hT, hrow2⟩, by show 16 - (i + 1) < 16 - i; omega⟩
 ·have hTh : T = (List.range 16).map h := by
   refine List.ext_getElem (by simp [hT]) fun j h1 h2 => ?_
   have := hrow j (by omega)
   rw [if_pos (by omega), List.getD_eq_getElem?_getD, List.getElem?_eq_getElem h1] at this
   simpa using this
  rw [← hTh]
  have hTl : TabLe T N := by
   refine ⟨hT, fun r => ?_⟩
   by_cases hr : r < 16
   ·rw [hrow r hr, if_pos (by omega)]; exact hlen r hr
   ·rw [List.getD_eq_getElem?_getD, List.getElem?_eq_none (by omega)]; exact Nat.zero_le _
  have c4 := z7k T hTl hN
  (have hF := (aI @e2 @e3); refine q01 (k:=?_); clear hF)
  refine qhu (fun j => j == 12) (l := [.sptr (q1w T)]) rfl ?hl (by simp [q0j, AVal.stb, q1b]) c4 rfl ?k
  case hl =>
   show [AVal.sptr (((q1w T).map (fzc (fun j => j == 12) _)).drop 0)] = _
   rw [encTs_fz]
   rfl
  unfold q0g
  (have hF := True.intro; refine q01 (k:=?_); clear hF)
  exact Fin.all rfl (by simp [q0j, AVal.stb, q02, q03, fzc, q5q]) rfl
def q5x (p q : Pst) (r : Nat) : List Rn := q59 ((q0l [p]).getD r []) ((q0l [q]).getD r [])
def q2u (p q : Pst) : Pst := q67 ((List.range 16).map (q5x p q))
theorem q5u (p : Pst) (r : Nat) : ((q0l [p]).getD r []).length ≤ wt p := by
 have : TabLe (q0l [p]) (wt p) := by simpa using q1h [p]
 exact this.2 r
theorem ev_k140 (p q : Pst) (hp : wt p ≤ 20000000) (hq : wt q ≤ 20000000) : Ev (En Tryz.prog rfl).P 140 [q0g p, q0g q] (.ret (q0g (q2u p q))) := by
 have c := z9d p q 139 (q5x p q) (N := 40000001) (by omega) (by omega) (by omega) (fun r hr => by
  have h1 := q7z ((q0l [p]).getD r []) ((q0l [q]).getD r [])
  have h4 := q5u p r
  have h5 := q5u q r
  unfold q5x
  omega) (fun r hr => zkh _ _ (by have := q5u p r; omega) (by have := q5u q r; omega))
 refine Ev.of_body it_k140 (by simp) (Run.start ?_)
 unfold t_k140 q0g
 (have hF := True.intro; refine q01 (k:=?_); clear hF)
 refine q00 [q0g p, q0g q, .fn 139 []] (he := c) (k:=?_)
 unfold q2u q0g
 (have hF := True.intro; refine q01 (k:=?_); clear hF)
 exact Fin.all rfl (by simp [q0j, AVal.stb, q02, q03, fzc, q5q]) rfl

theorem rows_in {h : Nat → List Rn} {r : Nat} (hr : r < 16) (n : Int) : inP (q67 ((List.range 16).map h)) r n ↔ mem1 (h r) n := by
 rw [qgp _ hr]
 unfold inT
 have : ((List.range 16).map h).getD r [] = h r := by
  rw [List.getD_eq_getElem?_getD, List.getElem?_map, List.getElem?_range hr]
  rfl
 rw [this]
theorem zji (p : Pst) {r : Nat} (hr : r < 16) (n : Int) : mem1 ((q0l [p]).getD r []) n ↔ inP p r n := by
 show inT (q0l [p]) r n ↔ _
 rw [q69 hr]
 simp
theorem q7j (p q : Pst) {r : Nat} (hr : r < 16) (n : Int) : inP (q2u p q) r n ↔ inP p r n ∧ ¬ inP q r n := by
 unfold q2u
 rw [rows_in hr, ← zji p hr, ← zji q hr]
 unfold q5x
 constructor
 ·rintro ⟨h1, h2, h3⟩
  exact (q6i _ _ n).1 h3
 ·intro h
  exact ⟨h.1.1, h.1.2.1, (q6i _ _ n).2 h⟩
theorem qfu (p q : Pst) : CanP (q2u p q) := qrc _ (by simp)
theorem qi8 (p q : Pst) : q0n p (q1v [p, q]) = true := q27.2 fun r hr n h => by rw [q5z _ hr]; simp [h]
theorem qi7 (p q : Pst) : q0n q (q1v [p, q]) = true := q27.2 fun r hr n h => by rw [q5z _ hr]; simp [h]

def qzt : List SOp := [zO 3 (.box 168 (.tmp 0)),zO 4 (.box 168 (.tmp 1)),zO 6 (.alloc 168)]
instance : Live qzt := ⟨[0,1,2]⟩
def qzs : List SOp := [zO 7 (.alloc 168)]
instance : Live qzs := ⟨[2,3,4,6]⟩
def qzr : List SOp := [zO 8 (.assign (.const (.int .i64 0)))]
instance : Live qzr := ⟨[2,3,4,6,7]⟩
def qzq : List SOp := [zM 9 8,zO 10 (.binOp .lss 3 (.tmp 9) (.const (.int .i64 16)) 3)]
instance : Live qzq := ⟨[2,3,4,6,7,8]⟩
def qzp : List SOp := [zM 13 8,zM 14 8,zF 15 168 3 0,zI 16 166 15 14,zL 17 23 16,zM 18 8,zF 19 168 4 0,zI 20 166 19 18,zL 21 23 20,zM 22 2,zO 23 (.call ⟨.value (.func 166),#[.tmp 17,.tmp 21,.tmp 22],#[23,23,3]⟩),zF 24 168 7 0,zI 25 166 24 13,⟨none,.store 23 (.tmp 25) (.tmp 23),none⟩]
instance : Live qzp := ⟨[2,3,4,6,7,8]⟩
def qzo : List SOp := [zM 11 8,zO 12 (.binOp .add 3 (.tmp 11) (.const (.int .i64 1)) 3),zG 8 12]
instance : Live qzo := ⟨[2,3,4,6,7,8]⟩
def qzn : List SOp := [zL 26 168 7,⟨none,.store 168 (.tmp 6) (.tmp 26),none⟩]
instance : Live qzn := ⟨[6,7]⟩
def qiv : SC :=
 (.seq (.seq (.ops false qzq) (.cond (.tmp 10) .skip (.exit 0))) (.seq (.block 1 (.ops true qzp)) (.ops false qzo)))
def t_k148 : SC :=
 (.seq (.ops false qzt) (.seq (.ops false qzs) (.seq (.seq (.ops false qzr) (.block 0 (.loop qiv))) (.seq (.ops false qzn) .ret))))
theorem it_k148 : FnIs Tryz.prog 148 27 [.cell 6 168] t_k148 := ⟨Tryz.f148, _, Tryz.func148, rfl, rfl, rfl, rfl, by kernel_rfl⟩

def z3v : List SOp := [zO 1 (.box 26 (.tmp 0)),zO 2 (.alloc 26)]
instance : Live z3v := ⟨[0]⟩
def z3u : List SOp := [zL 3 26 1,zO 4 (.call ⟨.value (.func 127),#[.tmp 3],#[26]⟩),zO 5 (.call ⟨.value (.func 128),#[.tmp 4],#[168]⟩),⟨none,.store 26 (.tmp 2) (.tmp 5),none⟩]
instance : Live z3u := ⟨[1,2]⟩
def t_k117 : SC :=
 (.seq (.ops false z3v) (.seq (.ops false z3u) .ret))
theorem it_k117 : FnIs Tryz.prog 117 6 [.cell 2 26] t_k117 := ⟨Tryz.f117, _, Tryz.func117, rfl, rfl, rfl, rfl, by kernel_rfl⟩


def z3i : List SOp := [zO 2 (.box 26 (.tmp 0)),zO 3 (.box 26 (.tmp 1)),zO 4 (.alloc 26)]
instance : Live z3i := ⟨[0,1]⟩
def z3h : List SOp := [zL 5 26 2,zO 6 (.call ⟨.value (.func 127),#[.tmp 5],#[26]⟩),zL 7 26 3,zO 8 (.call ⟨.value (.func 127),#[.tmp 7],#[26]⟩),zO 9 (.call ⟨.value (.func 148),#[.tmp 6,.tmp 8,.const (.int .i64 2)],#[168,168,3]⟩),zO 10 (.call ⟨.value (.func 128),#[.tmp 9],#[168]⟩),⟨none,.store 26 (.tmp 4) (.tmp 10),none⟩]
instance : Live z3h := ⟨[2,3,4]⟩
def t_k120 : SC :=
 (.seq (.ops false z3i) (.seq (.ops true z3h) .ret))
theorem it_k120 : FnIs Tryz.prog 120 11 [.cell 4 26] t_k120 := ⟨Tryz.f120, _, Tryz.func120, rfl, rfl, rfl, rfl, by kernel_rfl⟩

def qej (h : Nat → List Rn) : Tab := (List.range 16).map h
theorem qjp (h : Nat → List Rn) {r : Nat} (hr : r < 16) : (qej h).getD r [] = h r := by
 unfold qej
 rw [List.getD_eq_getElem?_getD, List.getElem?_map, List.getElem?_range hr]
 rfl
theorem qce (h : Nat → List Rn) : (qej h).length = 16 := by simp [qej]
theorem ev_k148 (A B : List (List Int)) (hA : A.length = 16) (hB : B.length = 16) (h : Nat → List Rn) (rule : Int)
 (hrow : ∀ r, r < 16 → Ev (En Tryz.prog rfl).P 166 [.sl 1 (q05 (A.getD r [])), .sl 1 (q05 (B.getD r [])), .int .i64 rule] (.ret (.sl 1 (q05 (q0o (h r)))))) :
 Ev (En Tryz.prog rfl).P 148 [.agg (q0i A), .agg (q0i B), .int .i64 rule] (.ret (.agg (q0i ((qej h).map q0o)))) := by
 refine Ev.of_body it_k148 (by simp) (Run.start ?_)
 unfold t_k148
 have a1 : (q0i A).length = 16 := by simp [q0i, hA]
 have b1 : (q0i B).length = 16 := by simp [q0i, hB]
 have a2 := q4b A
 have b2 := q4b B
 have a3 := q2k A
 have b3 := q2k B
 have hu := qce h
 have hget := fun r hr => @qjp h r hr
 generalize qej h = u at hu hget ⊢
 (have hF := (aI (aI @a1 @b1) (aI @a2 @b2)); refine q01 (k:=?_); clear hF)
 refine Run.while (σ := Nat) (fun r => ⟨tms [(2, .int .i64 rule), (3, .ptr 3 0), (4, .ptr 4 0), (6, .ptr 6 0), (7, .ptr 7 0), (8, .int .i64 (r : Int))], mms [(3, .cells (q0i A)), (4, .cells (q0i B)), (6, .cells (List.replicate 16 .nil)), (7, .cells (q24 u r))]⟩)
  (fun r => r ≤ 16) (fun r => 16 - r) 0 (have hW := (aI @a3 (aI @b3 @q6v)); q0h) (Nat.zero_le _) ?_
 intro r hr
 have g0 := qcb u hu hr
 unfold qiv
 by_cases hlt : r < 16
 ·have g1 := q85 (t := A) (r := r) (by omega)
  have g2 := q85 (t := B) (r := r) (by omega)
  have g5 := qca u hu hlt
  rw [hget r hlt] at g5
  have hc := hrow r hlt
  have g6 : (q24 u r).take r ++ [AVal.sl 1 (q05 (q0o (h r)))] ++ (q24 u r).drop (r + 1) = q24 u (r + 1) := by rw [← g5, List.set_eq_take_append_cons_drop, if_pos (by omega), List.append_assoc]; rfl
  (have hF := (aI (aI @a1 @b1) (aI @g0 (aI @g1 @g2))); refine q01 (k:=?_); clear hF)
  refine q00 [.sl 1 (q05 (A.getD r [])), .sl 1 (q05 (B.getD r [])), .int .i64 rule] (he := hc) (k:=?_)
  (have hF := (aI (aI @a1 @b1) (aI @g0 (aI @g1 @g2))); refine q01 (k:=?_); clear hF)
  rw [g6]
  (refine Fin.nextW (r + 1) ?_ (have hW := (aI @a3 (aI @b3 @q6v)); q0h); (try dsimp only))
  omega
 ·have hre : r = 16 := by omega
  subst hre
  have q1 := qcc u hu
  have q2 : (q0i (u.map q0o)).length = 16 := by simp [q0i, hu]
  have q3 := q4b (u.map q0o)
  rw [q1]
  have htk : (q0i (u.map q0o)).take 16 = q0i (u.map q0o) := List.take_of_length_le (by omega)
  have q4 : (q0i (u.map q0o)).all AVal.plain = true := by
   rw [List.all_eq_true]
   intro x hx
   obtain ⟨l, _, rfl⟩ := List.mem_map.1 hx
   rfl
  have q5 : (List.replicate 16 AVal.nil).drop 16 = [] := rfl
  (have hF := (aI (aI @q2 (aI @q3 @q4)) (aI @q5 (aI @htk @List.length_replicate.{0}))); refine q01 (k:=?_); clear hF)
  refine Fin.all (xs := [.agg (q0i (u.map q0o))]) ?_ (by simp [q0j, AVal.stb, q2k]) rfl
  simp [q54, q8k, qba, TE_0, TE_3, TE_16, TE_23, TE_24, TE_26, zlr, zlq, zlp, z89, zlo, zln, TD.isAgg, upd, tms, q2, htk, qdu]
theorem qhe (p : Pst) (hw : wt p ≤ 800000000) : Ev (En Tryz.prog rfl).P 127 [q0g p] (.ret (.agg (q0i (q7k [p])))) :=
 z9j p (q7k [p]) (qd7 [p]) (ev_k129 [p] (by simp) (by simpa using hw))
theorem qfk (K : Nat → Bool) (M : Mem) (t : List (List Int)) : (q0i t).map (fzc K M) = q0i t := by
 unfold q0i
 rw [List.map_map]
 rfl
theorem qhf (p : Pst) (hw : wt p ≤ 40000000) : Ev (En Tryz.prog rfl).P 117 [q0g p] (.ret (q0g (q18 p))) := by
 have c1 := qhe p (by omega)
 have c2 := zki (q0l [p]) (n := wt p) (by simpa using q1h [p]) (by omega)
 refine Ev.of_body it_k117 (by simp) (Run.start ?_)
 unfold t_k117 q0g
 have hS := q2k
 have hL := qfk
 (have hF := True.intro; refine q01 (k:=?_); clear hF)
 refine q00 [q0g p] (he := c1) (k:=?_)
 (have hF := True.intro; refine q01 (k:=?_); clear hF)
 refine q00 [.agg (q0i (q7k [p]))] (he := c2) (k:=?_)
 unfold q18 q0g
 (have hF := True.intro; refine q01 (k:=?_); clear hF)
 exact Fin.all rfl (by simp [q0j, AVal.stb, q02, q03, fzc, q5q]) rfl
theorem qoc {q : Int → Prop} {t : List Int} (h : Turns q t) (m : Int) : odd (cnt t m) = true ↔ q m := by rw [zix, h.mem]
theorem q7f (l : List Rn) : Turns (inR (q13 l)) (q0o l) := qc0 (q1c l)
theorem qes (l : List Rn) : (q0o l).length ≤ 2 * l.length := by
 have := q1z l
 unfold q0o
 rw [qa4]
 omega
theorem z72 (p : Pst) {r : Nat} (hr : r < 16) : (q7k [p]).getD r [] = q0o ((q0l [p]).getD r []) := zj2 [p] hr
theorem z8t (p q : Pst) (r : Nat) (m : Int) : mem1 (q5x p q r) m ↔ mem1 ((q0l [p]).getD r []) m ∧ ¬ mem1 ((q0l [q]).getD r []) m := by
 unfold q5x
 constructor
 ·intro h
  exact (q6i _ _ m).1 h.2.2
 ·intro h
  exact ⟨h.1.1, h.1.2.1, (q6i _ _ m).2 h⟩
theorem zb7 (p q : Pst) (hp : wt p ≤ 20000000) (hq : wt q ≤ 20000000) (r : Nat) (hr : r < 16) :
 Ev (En Tryz.prog rfl).P 166 [.sl 1 (q05 ((q7k [p]).getD r [])), .sl 1 (q05 ((q7k [q]).getD r [])), .int .i64 2] (.ret (.sl 1 (q05 (q0o (q5x p q r))))) := by
 rw [z72 p hr, z72 q hr]
 have h1 := q5u p r
 have h2 := q5u q r
 refine ev_k166 (q7f _) (q7f _) (q7f _) (by have := qes ((q0l [p]).getD r []); omega) (by have := qes ((q0l [q]).getD r []); omega) 2 (fun x y => x && !y) (.inr ⟨rfl, rfl⟩) fun m => ?_
 rw [Bool.and_eq_true, Bool.not_eq_true', qoc (q7f _), q2p, q2p, z8t]
 have := qoc (q7f ((q0l [q]).getD r [])) m
 rw [q2p] at this
 rw [← this]
 cases odd (cnt (q0o ((q0l [q]).getD r [])) m) <;> simp
theorem rowsT_le (h : Nat → List Rn) {n : Nat} (hh : ∀ r, (h r).length ≤ n) : TabLe (qej h) n := by
 refine ⟨qce h, fun r => ?_⟩
 by_cases hr : r < 16
 ·rw [qjp h hr]; exact hh r
 ·rw [List.getD_eq_getElem?_getD, List.getElem?_eq_none (by rw [qce]; omega)]; exact Nat.zero_le _
theorem z8u (p q : Pst) (r : Nat) : (q5x p q r).length ≤ wt p + wt q + 1 := by
 have h1 := q7z ((q0l [p]).getD r []) ((q0l [q]).getD r [])
 have h4 := q5u p r
 have h5 := q5u q r
 unfold q5x
 omega
theorem ev_k120 (p q : Pst) (hp : wt p ≤ 20000000) (hq : wt q ≤ 20000000) : Ev (En Tryz.prog rfl).P 120 [q0g p, q0g q] (.ret (q0g (q2u p q))) := by
 have c1 := qhe p (by omega)
 have c2 := qhe q (by omega)
 have c3 := ev_k148 (q7k [p]) (q7k [q]) (qd7 [p]) (qd7 [q]) (q5x p q) 2 (zb7 p q hp hq)
 have c4 := zki (qej (q5x p q)) (rowsT_le _ (z8u p q)) (by omega)
 have hm : q2u p q = q67 (qej (q5x p q)) := rfl
 rw [hm]
 refine Ev.of_body it_k120 (by simp) (Run.start ?_)
 unfold t_k120 q0g
 have hS := q2k
 have hL := qfk
 (have hF := True.intro; refine q01 (k:=?_); clear hF)
 refine q00 [q0g p] (he := c1) (k:=?_)
 (have hF := True.intro; refine q01 (k:=?_); clear hF)
 refine q00 [q0g q] (he := c2) (k:=?_)
 (have hF := True.intro; refine q01 (k:=?_); clear hF)
 refine q00 [.agg (q0i (q7k [p])), .agg (q0i (q7k [q])), .int .i64 2] (he := c3) (k:=?_)
 (have hF := True.intro; refine q01 (k:=?_); clear hF)
 refine q00 [.agg (q0i ((qej (q5x p q)).map q0o))] (he := c4) (k:=?_)
 unfold q0g
 (have hF := True.intro; refine q01 (k:=?_); clear hF)
 exact Fin.all rfl (by simp [q0j, AVal.stb, q02, q03, fzc, q5q]) rfl

def z30 : List SOp := [zO 2 (.box 26 (.tmp 0)),zO 3 (.box 26 (.tmp 1)),zO 4 (.assign (.const (.int .i64 0)))]
instance : Live z30 := ⟨[0,1]⟩
def z2z : List SOp := [zL 10 26 2,zO 11 (.call ⟨.value (.func 64),#[.tmp 10],#[26]⟩),zL 12 26 3,zO 13 (.call ⟨.value (.func 64),#[.tmp 12],#[26]⟩),zO 5 (.alloc 26),zO 6 (.alloc 26),⟨none,.store 26 (.tmp 5) (.tmp 11),none⟩,⟨none,.store 26 (.tmp 6) (.tmp 13),none⟩]
instance : Live z2z := ⟨[2,3]⟩
def z2y : List SOp := [zO 14 (.move (.const (.int .i64 0)))]
instance : Live z2y := ⟨[5,6]⟩
def z2x : List SOp := [zO 15 (.binOp .lss 3 (.tmp 14) (.const (.int .i64 16)) 3)]
instance : Live z2x := ⟨[5,6,14]⟩
def z2w : List SOp := [zM 16 14,zG 7 16]
instance : Live z2w := ⟨[5,6,14]⟩
def z2v : List SOp := [zO 8 (.assign (.const (.int .i64 0))),zO 9 (.assign (.const (.int .i64 0)))]
instance : Live z2v := ⟨[5,6,7,14]⟩
def z2u : List SOp := [zM 17 7,zF 18 26 5 0,zL 19 23 18,zO 20 (.call ⟨.builtin .len,#[.tmp 19],#[23]⟩),zO 21 (.binOp .lss 3 (.tmp 17) (.tmp 20) 3)]
instance : Live z2u := ⟨[5,6,7,8,9,14]⟩
def z2t : List SOp := [zF 22 26 5 0,zL 23 23 22,zM 24 7,zI 25 23 23 24,zL 26 3 25,zG 8 26]
instance : Live z2t := ⟨[5,6,7,9,14]⟩
def z2s : List SOp := [zM 27 7,zF 28 26 6 0,zL 29 23 28,zO 30 (.call ⟨.builtin .len,#[.tmp 29],#[23]⟩),zO 31 (.binOp .lss 3 (.tmp 27) (.tmp 30) 3)]
instance : Live z2s := ⟨[5,6,7,8,9,14]⟩
def qn2 : List SOp := [zF 32 26 6 0,zL 33 23 32,zM 34 7,zI 35 23 33 34,zL 36 3 35,zG 9 36]
instance : Live qn2 := ⟨[5,6,7,8,14]⟩
def qn1 : List SOp := [zM 37 8,zM 38 9,zO 39 (.binOp .neq 3 (.tmp 37) (.tmp 38) 3)]
instance : Live qn1 := ⟨[5,6,8,9,14]⟩
def qn0 : List SOp := [zM 40 8,zM 41 9,zO 42 (.call ⟨.value (.func 149),#[.tmp 40,.tmp 41],#[3,3]⟩),zG 4 42]
instance : Live qn0 := ⟨[8,9]⟩
def qmz : List SOp := [zO 43 (.binOp .add 3 (.tmp 14) (.const (.int .i64 1)) 3),zM 14 43]
instance : Live qmz := ⟨[5,6,14]⟩
def qmy : List SOp := [zF 44 26 5 1,zL 45 24 44,zF 46 26 6 1,zL 47 24 46,zO 48 (.call ⟨.value (.func 150),#[.tmp 45,.tmp 47,.func 151],#[24,24,194]⟩),zG 4 48]
instance : Live qmy := ⟨[5,6]⟩
def qj8 : SC :=
 (.seq (.ops false z2x) (.seq (.cond (.tmp 15) .skip (.exit 0)) (.seq (.block 1 (.seq (.ops false z2w) (.seq (.ops false z2v) (.seq (.seq (.ops false z2u) (.cond (.tmp 21) (.ops false z2t) .skip)) (.seq (.seq (.ops false z2s) (.cond (.tmp 31) (.ops false qn2) .skip)) (.seq (.ops false qn1) (.cond (.tmp 39) (.seq (.ops false qn0) .ret) .skip))))))) (.ops false qmz))))
def t_k123 : SC :=
 (.seq (.ops false z30) (.seq (.ops true z2z) (.seq (.seq (.ops false z2y) (.block 0 (.loop qj8))) (.seq (.ops false qmy) .ret))))
theorem it_k123 : FnIs Tryz.prog 123 49 [.tmp 4] t_k123 := ⟨Tryz.f123, _, Tryz.func123, rfl, rfl, rfl, rfl, by kernel_rfl⟩

theorem zkj (p q : Pst) (hp : wt p ≤ 50000000) (hq : wt q ≤ 50000000) : Ev (En Tryz.prog rfl).P 123 [q0g p, q0g q] (.ret (.int .i64 (zaf p q))) := by
 refine Ev.of_body it_k123 (by simp) (Run.start ?_)
 unfold t_k123 q0g
 have c1 := qfg p (by omega)
 have c2 := qfg q (by omega)
 have h1 := q5w p
 have h2 := q5w q
 have hr : zaf p q = q5n (qf8 (q18 p)) (qf8 (q18 q)) := rfl
 rw [hr]
 (have hF := True.intro; refine q01 (k:=?_); clear hF)
 refine q00 [q0g p] (he := c1) (k:=?_)
 (have hF := True.intro; refine q01 (k:=?_); clear hF)
 refine q00 [q0g q] (he := c2) (k:=?_)
 clear c1 c2 hr
 generalize q18 p = x at h1 ⊢
 generalize q18 q = y at h2 ⊢
 unfold q0g
 have hw1 : x.vec.length + x.cloud.length = wt x := rfl
 have hw2 : y.vec.length + y.cloud.length = wt y := rfl
 have e1 := q0f x.vec
 have e2 := q0f y.vec
 (have hF := (aI @e1 @e2); refine q01 (k:=?_); clear hF)
 refine Run.while (σ := Nat) (fun i => ⟨tms [(5, .ptr 5 0), (6, .ptr 6 0), (14, .int .i64 (i : Int))], mms [(5, .cells [.sl 1 (q05 x.vec), .sl 3 (q0d x.cloud)]), (6, .cells [.sl 1 (q05 y.vec), .sl 3 (q0d y.cloud)])]⟩) (fun i => i ≤ 16 ∧ ∀ j, j < i → vv x j = vv y j) (fun i => 16 - i) 0 (have hW := (aI @q02 @q03); q0h) ⟨Nat.zero_le _, fun j hj => absurd hj (Nat.not_lt_zero _)⟩ ?_
 rintro i ⟨hi, hp⟩
 unfold qj8
 by_cases hlt : i < 16
 ·have hne : vv x i ≠ vv y i → q5n (qf8 x) (qf8 y) = q7e (vv x i) (vv y i) := fun hn =>
   qqk (qia x) (qia y) i _ _ _ _ (q4d x hlt) (q4d y hlt) (fun j hj => by rw [q4d x (by omega), q4d y (by omega), hp j hj]) hn
  have heq : vv x i = vv y i → ∀ j, j < i + 1 → vv x j = vv y j := fun he j hj => by
   by_cases e : j = i
   ·rw [e]; exact he
   ·exact hp j (by omega)
  have k1 := qhd (vv x i) (vv y i)
  unfold vv at hne heq k1
  by_cases hx : i < x.vec.length
  ·have g1 : (q05 x.vec)[i]? = some (.int .i64 (q1n x.vec i)) := q0w (by unfold q1n; rw [List.getD_eq_getElem?_getD, List.getElem?_eq_getElem hx]; rfl)
   simp only [if_pos hx] at hne heq k1
   by_cases hy : i < y.vec.length
   ·have g2 : (q05 y.vec)[i]? = some (.int .i64 (q1n y.vec i)) := q0w (by unfold q1n; rw [List.getD_eq_getElem?_getD, List.getElem?_eq_getElem hy]; rfl)
    simp only [if_pos hy] at hne heq k1
    (focus (have hF := (aI (aI @e1 @e2) (aI @g1 @g2)); (repeat' (first | refine go1 (k:=?_) | with_reducible refine Ny.of ?_ ?_ | (refine Hyp.of ?_; intro hc; (try simp only [hc]); (try simp only [Bh] at hc)))); all_goals clear hF))
    ·rw [hne hc]
     refine q00 [.int .i64 (q1n x.vec i), .int .i64 (q1n y.vec i)] (he := k1) (k:=?_)
     (have hF := True.intro; refine q01 (k:=?_); clear hF)
     exact Fin.tmp' rfl rfl
    ·have h := heq hc
     (refine Fin.nextW (i + 1) ?_ (have hW := (aI @q02 @q03); q0h); (try dsimp only))
     exact ⟨⟨hlt, h⟩, by omega⟩
   ·simp only [if_neg hy] at hne heq k1
    (focus (have hF := (aI @e1 (aI @e2 @g1)); (repeat' (first | refine go1 (k:=?_) | with_reducible refine Ny.of ?_ ?_ | (refine Hyp.of ?_; intro hc; (try simp only [hc]); (try simp only [Bh] at hc)))); all_goals clear hF))
    ·rw [hne hc]
     refine q00 [.int .i64 (q1n x.vec i), .int .i64 0] (he := k1) (k:=?_)
     (have hF := True.intro; refine q01 (k:=?_); clear hF)
     exact Fin.tmp' rfl rfl
    ·have h := heq hc
     (refine Fin.nextW (i + 1) ?_ (have hW := (aI @q02 @q03); q0h); (try dsimp only))
     exact ⟨⟨hlt, h⟩, by omega⟩
  ·simp only [if_neg hx] at hne heq k1
   by_cases hy : i < y.vec.length
   ·have g2 : (q05 y.vec)[i]? = some (.int .i64 (q1n y.vec i)) := q0w (by unfold q1n; rw [List.getD_eq_getElem?_getD, List.getElem?_eq_getElem hy]; rfl)
    simp only [if_pos hy] at hne heq k1
    (focus (have hF := (aI @e1 (aI @e2 @g2)); (repeat' (first | refine go1 (k:=?_) | with_reducible refine Ny.of ?_ ?_ | (refine Hyp.of ?_; intro hc; (try simp only [hc]); (try simp only [Bh] at hc)))); all_goals clear hF))
    ·rw [hne hc]
     refine q00 [.int .i64 0, .int .i64 (q1n y.vec i)] (he := k1) (k:=?_)
     (have hF := True.intro; refine q01 (k:=?_); clear hF)
     exact Fin.tmp' rfl rfl
    ·have h := heq hc
     (refine Fin.nextW (i + 1) ?_ (have hW := (aI @q02 @q03); q0h); (try dsimp only))
     exact ⟨⟨hlt, h⟩, by omega⟩
   ·simp only [if_neg hy] at hne heq k1
    (have hF := (aI @e1 @e2); refine q01 (k:=?_); clear hF)
    have h := heq trivial
    (refine Fin.nextW (i + 1) ?_ (have hW := (aI @q02 @q03); q0h); (try dsimp only))
    exact ⟨⟨hlt, h⟩, by omega⟩
 ·have hv : qia x = qia y := by
   unfold qia
   exact List.map_congr_left fun j hj => hp j (by rw [List.mem_range] at hj; omega)
  have k2 := q8i x.cloud y.cloud (by omega) (by omega)
  have hk : q5n (qf8 x) (qf8 y) = qi2 x.cloud y.cloud := by
   unfold qf8
   rw [hv, qh1, qe2]
  rw [hk]
  (have hF := (aI @e1 @e2); refine q01 (k:=?_); clear hF)
  refine q00 [.sl 3 (q0d x.cloud), .sl 3 (q0d y.cloud), .fn 151 []] (he := k2) (k:=?_)
  (have hF := (aI @e1 @e2); refine q01 (k:=?_); clear hF)
  exact Fin.tmp' rfl rfl

theorem zlc {q : Int → Prop} (h : ∀ n, ¬ q n) : q91 q = 0 := by
 classical
 rw [q64]
 exact List.countP_eq_zero.2 fun i _ => by simp [h]
theorem card_one {k : Int} (h1 : 1 ≤ k) (h2 : k ≤ 1000000000) : q91 (fun n => n = k) = 1 := by
 have h := z7v h1 (Int.le_refl k) h2
 have : q91 (fun n => k ≤ n ∧ n ≤ k) = q91 (fun n => n = k) := q6p fun n _ _ => by omega
 omega
theorem qfs {q : Nat → Int → Prop} (h : ∀ r n, ¬ q r n) : ∀ m, qb8 q m = 0
 | 0 => rfl
 | m + 1 => by
  show qb8 q m + q91 (q m) = 0
  rw [qfs h m, zlc (h m)]

theorem qaq {a b : Bool} (h : a = true ↔ b = true) : a = b := by cases a <;> cases b <;> simp_all
theorem card_pos {q : Int → Prop} {k : Int} (h1 : 1 ≤ k) (h2 : k ≤ 1000000000) (h : q k) : 1 ≤ q91 q := by
 have e := zld q (fun n => n = k)
 have : q91 (fun n => q n ∧ n = k) = q91 (fun n => n = k) := q6p fun n _ _ => ⟨fun x => x.2, fun x => ⟨x ▸ h, x⟩⟩
 rw [this, card_one h1 h2] at e
 omega
theorem qe7 {q : Nat → Int → Prop} {r : Nat} {k : Int} (h1 : 1 ≤ k) (h2 : k ≤ 1000000000) (h : q r k) : ∀ {m : Nat}, r < m → 1 ≤ qb8 q m
 | 0, hm => by omega
 | m + 1, hm => by
  show 1 ≤ qb8 q m + q91 (q m)
  by_cases e : r = m
  ·subst e
   have := card_pos h1 h2 h
   omega
  ·have := qe7 h1 h2 h (m := m) (by omega)
   omega

theorem zav (f a b : Nat → Nat) (c : Nat) (h : ∀ r, f r ≤ a r + b r + c) : ∀ m, ((List.range m).map f).sum ≤ ((List.range m).map a).sum + ((List.range m).map b).sum + m * c
 | 0 => by simp
 | m + 1 => by
  have ih := zav f a b c h m
  have := h m
  rw [List.range_succ, List.map_append, List.map_append, List.map_append, List.sum_append, List.sum_append, List.sum_append, Nat.succ_mul]
  simp only [List.map_cons, List.map_nil, List.sum_cons, List.sum_nil]
  omega
theorem rows_wt (p q : Pst) (h : Nat → List Rn) (c : Nat) (hh : ∀ r, (h r).length ≤ ((q0l [p]).getD r []).length + ((q0l [q]).getD r []).length + c) : wt (q67 ((List.range 16).map h)) ≤ 16 + wt p + wt q + 16 * c := by
 have h1 := qcv (t := (List.range 16).map h) (by simp)
 have h2 := zav (fun r => (h r).length) (fun r => ((q0l [p]).getD r []).length) (fun r => ((q0l [q]).getD r []).length) c hh 16
 have h3 := qa9 (q0l [p])
 have h4 := qa9 (q0l [q])
 have h5 := qc1 [p]
 have h6 := qc1 [q]
 rw [(q1h [p]).1] at h3
 rw [(q1h [q]).1] at h4
 simp only [List.map_cons, List.map_nil, List.sum_cons, List.sum_nil] at h5 h6
 have h7 : tot ((List.range 16).map h) = ((List.range 16).map fun r => (h r).length).sum := by
  unfold tot
  rw [List.map_map]
  rfl
 omega
theorem qd3 (p q : Pst) : wt (q2u p q) ≤ 32 + wt p + wt q := by
 have := rows_wt p q (q5x p q) 1 fun r => q7z _ _
 unfold q2u
 omega

def z2g : List SOp := [zO 1 (.box 26 (.tmp 0)),zO 2 (.assign (.const (.int .i64 0)))]
instance : Live z2g := ⟨[0]⟩
def z2f : List SOp := [zL 7 26 1,zO 8 (.call ⟨.value (.func 127),#[.tmp 7],#[26]⟩),zO 3 (.alloc 168),⟨none,.store 168 (.tmp 3) (.tmp 8),none⟩]
instance : Live z2f := ⟨[1]⟩
def z2e : List SOp := [zO 4 (.assign (.const (.int .i64 0)))]
instance : Live z2e := ⟨[3]⟩
def z2d : List SOp := [zO 5 (.assign (.const (.int .i64 0)))]
instance : Live z2d := ⟨[3,4]⟩
def z2c : List SOp := [zM 9 5,zO 10 (.binOp .lss 3 (.tmp 9) (.const (.int .i64 16)) 3)]
instance : Live z2c := ⟨[3,4,5]⟩
def z2b : List SOp := [zO 6 (.assign (.const (.int .i64 0)))]
instance : Live z2b := ⟨[3,4,5]⟩
def z2a : List SOp := [zM 13 6,zO 14 (.binOp .add 3 (.tmp 13) (.const (.int .i64 1)) 3),zM 15 5,zF 16 168 3 0,zI 17 166 16 15,zL 18 23 17,zO 19 (.call ⟨.builtin .len,#[.tmp 18],#[23]⟩),zO 20 (.binOp .lss 3 (.tmp 14) (.tmp 19) 3)]
instance : Live z2a := ⟨[3,4,5,6]⟩
def z29 : List SOp := [zM 23 4,zM 24 5,zF 25 168 3 0,zI 26 166 25 24,zL 27 23 26,zM 28 6,zO 29 (.binOp .add 3 (.tmp 28) (.const (.int .i64 1)) 3),zI 30 23 27 29,zL 31 3 30,zM 32 5,zF 33 168 3 0,zI 34 166 33 32,zL 35 23 34,zM 36 6,zI 37 23 35 36,zL 38 3 37,zO 39 (.binOp .sub 3 (.tmp 31) (.tmp 38) 3),zO 40 (.binOp .add 3 (.tmp 23) (.tmp 39) 3),zG 4 40]
instance : Live z29 := ⟨[3,4,5,6]⟩
def z28 : List SOp := [zM 21 6,zO 22 (.binOp .add 3 (.tmp 21) (.const (.int .i64 2)) 3),zG 6 22]
instance : Live z28 := ⟨[3,4,5,6]⟩
def qmv : List SOp := [zM 11 5,zO 12 (.binOp .add 3 (.tmp 11) (.const (.int .i64 1)) 3),zG 5 12]
instance : Live qmv := ⟨[3,4,5]⟩
def qmu : List SOp := [zM 41 4,zG 2 41]
instance : Live qmu := ⟨[4]⟩
def qj5 : SC :=
 (.seq (.seq (.ops false z2a) (.cond (.tmp 20) .skip (.exit 2))) (.seq (.block 3 (.ops true z29)) (.ops false z28)))
def qj6 : SC :=
 (.seq (.seq (.ops false z2c) (.cond (.tmp 10) .skip (.exit 0))) (.seq (.block 1 (.seq (.ops false z2b) (.block 2 (.loop qj5)))) (.ops false qmv)))
def t_k126 : SC :=
 (.seq (.ops false z2g) (.seq (.ops false z2f) (.seq (.ops false z2e) (.seq (.seq (.ops false z2d) (.block 0 (.loop qj6))) (.seq (.ops false qmu) .ret)))))
theorem it_k126 : FnIs Tryz.prog 126 42 [.tmp 2] t_k126 := ⟨Tryz.f126, _, Tryz.func126, rfl, rfl, rfl, rfl, by kernel_rfl⟩

def zcx : List SOp := [zO 1 (.box 26 (.tmp 0)),zO 2 (.assign (.const (.bool false)))]
instance : Live zcx := ⟨[0]⟩
def zcw : List SOp := [zL 3 26 1,zO 4 (.call ⟨.value (.func 126),#[.tmp 3],#[26]⟩),zO 5 (.binOp .eql 3 (.tmp 4) (.const (.int .i64 0)) 3),zG 2 5]
instance : Live zcw := ⟨[1]⟩
def t_k76 : SC :=
 (.seq (.ops false zcx) (.seq (.ops false zcw) .ret))
theorem it_k76 : FnIs Tryz.prog 76 6 [.tmp 2] t_k76 := ⟨Tryz.f76, _, Tryz.func76, rfl, rfl, rfl, rfl, by kernel_rfl⟩

def zdb : List SOp := [zO 2 (.box 26 (.tmp 0)),zO 3 (.box 26 (.tmp 1)),zO 4 (.assign (.const (.bool false)))]
instance : Live zdb := ⟨[0,1]⟩
def zda : List SOp := [zL 5 26 2,zL 6 26 3,zO 7 (.call ⟨.value (.func 120),#[.tmp 5,.tmp 6],#[26,26]⟩),zO 8 (.call ⟨.value (.func 76),#[.tmp 7],#[26]⟩),zG 4 8]
instance : Live zda := ⟨[2,3]⟩
def t_k70 : SC :=
 (.seq (.ops false zdb) (.seq (.ops false zda) .ret))
theorem it_k70 : FnIs Tryz.prog 70 9 [.tmp 4] t_k70 := ⟨Tryz.f70, _, Tryz.func70, rfl, rfl, rfl, rfl, by kernel_rfl⟩

def qzz : List SOp := [zO 4 (.assign (.const (.int .i64 0)))]
instance : Live qzz := ⟨[0,1]⟩
def qzy : List SOp := [zM 5 0,zM 6 1,zO 7 (.binOp .lss 3 (.tmp 5) (.tmp 6) 3)]
instance : Live qzy := ⟨[0,1]⟩
def qzx : List SOp := [zO 4 (.assign (.const (.int .i64 (-1))))]
instance : Live qzx := ⟨[]⟩
def qzw : List SOp := [zM 8 0,zM 9 1,zO 10 (.binOp .gtr 3 (.tmp 8) (.tmp 9) 3)]
instance : Live qzw := ⟨[0,1]⟩
def qzv : List SOp := [zO 4 (.assign (.const (.int .i64 1)))]
instance : Live qzv := ⟨[]⟩
def qzu : List SOp := [zO 4 (.assign (.const (.int .i64 0)))]
instance : Live qzu := ⟨[]⟩
def t_k147 : SC :=
 (.seq (.ops false qzz) (.seq (.seq (.ops false qzy) (.cond (.tmp 7) (.seq (.ops false qzx) .ret) .skip)) (.seq (.seq (.ops false qzw) (.cond (.tmp 10) (.seq (.ops false qzv) .ret) .skip)) (.seq (.ops false qzu) .ret))))
theorem it_k147 : FnIs Tryz.prog 147 11 [.tmp 4] t_k147 := ⟨Tryz.f147, _, Tryz.func147, rfl, rfl, rfl, rfl, by kernel_rfl⟩

def z3r : List SOp := [zO 2 (.box 26 (.tmp 0)),zO 3 (.box 26 (.tmp 1)),zO 4 (.assign (.const (.int .i64 0)))]
instance : Live z3r := ⟨[0,1]⟩
def z3q : List SOp := [zL 11 26 2,zO 12 (.call ⟨.value (.func 117),#[.tmp 11],#[26]⟩),⟨none,.store 26 (.tmp 2) (.tmp 12),none⟩]
instance : Live z3q := ⟨[2,3]⟩
def z3p : List SOp := [zL 13 26 3,zO 14 (.call ⟨.value (.func 117),#[.tmp 13],#[26]⟩),⟨none,.store 26 (.tmp 3) (.tmp 14),none⟩]
instance : Live z3p := ⟨[2,3]⟩
def z3o : List SOp := [zO 5 (.assign (.const (.int .i64 0)))]
instance : Live z3o := ⟨[2,3]⟩
def z3n : List SOp := [zM 15 5,zO 16 (.binOp .lss 3 (.tmp 15) (.const (.int .i64 16)) 3)]
instance : Live z3n := ⟨[2,3,5]⟩
def z3m : List SOp := [zO 6 (.assign (.const (.int .i64 0))),zO 7 (.assign (.const (.int .i64 0)))]
instance : Live z3m := ⟨[2,3,5]⟩
def z3l : List SOp := [zM 19 5,zF 20 26 2 0,zL 21 23 20,zO 22 (.call ⟨.builtin .len,#[.tmp 21],#[23]⟩),zO 23 (.binOp .lss 3 (.tmp 19) (.tmp 22) 3)]
instance : Live z3l := ⟨[2,3,5,6,7]⟩
def z3k : List SOp := [zF 24 26 2 0,zL 25 23 24,zM 26 5,zI 27 23 25 26,zL 28 3 27,zG 6 28]
instance : Live z3k := ⟨[2,3,5,7]⟩
def z3j : List SOp := [zM 29 5,zF 30 26 3 0,zL 31 23 30,zO 32 (.call ⟨.builtin .len,#[.tmp 31],#[23]⟩),zO 33 (.binOp .lss 3 (.tmp 29) (.tmp 32) 3)]
instance : Live z3j := ⟨[2,3,5,6,7]⟩
def qnh : List SOp := [zF 34 26 3 0,zL 35 23 34,zM 36 5,zI 37 23 35 36,zL 38 3 37,zG 7 38]
instance : Live qnh := ⟨[2,3,5,6]⟩
def qng : List SOp := [zM 39 6,zM 40 7,zO 41 (.binOp .neq 3 (.tmp 39) (.tmp 40) 3)]
instance : Live qng := ⟨[2,3,5,6,7]⟩
def qnf : List SOp := [zM 42 6,zM 43 7,zO 44 (.call ⟨.value (.func 147),#[.tmp 42,.tmp 43],#[3,3]⟩),zG 4 44]
instance : Live qnf := ⟨[6,7]⟩
def qne : List SOp := [zM 17 5,zO 18 (.binOp .add 3 (.tmp 17) (.const (.int .i64 1)) 3),zG 5 18]
instance : Live qne := ⟨[2,3,5]⟩
def qnd : List SOp := [zO 8 (.assign (.const (.int .i64 0)))]
instance : Live qnd := ⟨[2,3]⟩
def qnc : List SOp := [zM 45 8,zF 46 26 2 1,zL 47 24 46,zO 48 (.call ⟨.builtin .len,#[.tmp 47],#[24]⟩),zO 49 (.binOp .lss 3 (.tmp 45) (.tmp 48) 3),zM 50 49,⟨some 51,.move (.tmp 8),some ((some 50),true)⟩,⟨some 52,.fieldAddr 26 (.tmp 3) 1,some ((some 50),true)⟩,⟨some 53,.load 24 (.tmp 52),some ((some 50),true)⟩,⟨some 54,.call ⟨.builtin .len,#[.tmp 53],#[24]⟩,some ((some 50),true)⟩,⟨some 55,.binOp .lss 3 (.tmp 51) (.tmp 54) 3,some ((some 50),true)⟩,zO 56 (.pick (.tmp 50) (.tmp 55) (.const (.bool false)))]
instance : Live qnc := ⟨[2,3,8]⟩
def qcs : List SOp := [zF 59 26 2 1,zL 60 24 59,zM 61 8,zI 62 24 60 61,zL 63 127 62,zF 64 26 3 1,zL 65 24 64,zM 66 8,zI 67 24 65 66,zL 68 127 67,zO 9 (.alloc 127),zO 10 (.alloc 127),⟨none,.store 127 (.tmp 9) (.tmp 63),none⟩,⟨none,.store 127 (.tmp 10) (.tmp 68),none⟩]
instance : Live qcs := ⟨[2,3,8]⟩
instance : Rd qcs := ⟨fun j => j == 2 || j == 3⟩
def qnb : List SOp := [zF 69 127 9 0,zL 70 3 69,zF 71 127 10 0,zL 72 3 71,zO 73 (.binOp .neq 3 (.tmp 70) (.tmp 72) 3)]
instance : Live qnb := ⟨[2,3,8,9,10]⟩
def qna : List SOp := [zF 74 127 9 0,zL 75 3 74,zF 76 127 10 0,zL 77 3 76,zO 78 (.call ⟨.value (.func 147),#[.tmp 75,.tmp 77],#[3,3]⟩),zG 4 78]
instance : Live qna := ⟨[9,10]⟩
def qn9 : List SOp := [zF 79 127 9 1,zL 80 3 79,zF 81 127 10 1,zL 82 3 81,zO 83 (.binOp .neq 3 (.tmp 80) (.tmp 82) 3)]
instance : Live qn9 := ⟨[2,3,8,9,10]⟩
def qn8 : List SOp := [zF 84 127 9 1,zL 85 3 84,zF 86 127 10 1,zL 87 3 86,zO 88 (.call ⟨.value (.func 147),#[.tmp 85,.tmp 87],#[3,3]⟩),zG 4 88]
instance : Live qn8 := ⟨[9,10]⟩
def qn7 : List SOp := [zF 89 127 9 2,zL 90 3 89,zF 91 127 10 2,zL 92 3 91,zO 93 (.binOp .neq 3 (.tmp 90) (.tmp 92) 3)]
instance : Live qn7 := ⟨[2,3,8,9,10]⟩
def qn6 : List SOp := [zF 94 127 9 2,zL 95 3 94,zF 96 127 10 2,zL 97 3 96,zO 98 (.call ⟨.value (.func 147),#[.tmp 95,.tmp 97],#[3,3]⟩),zG 4 98]
instance : Live qn6 := ⟨[9,10]⟩
def qn5 : List SOp := [zM 57 8,zO 58 (.binOp .add 3 (.tmp 57) (.const (.int .i64 1)) 3),zG 8 58]
instance : Live qn5 := ⟨[2,3,8]⟩
def qn4 : List SOp := [zF 99 26 2 1,zL 100 24 99,zO 101 (.call ⟨.builtin .len,#[.tmp 100],#[24]⟩),zF 102 26 3 1,zL 103 24 102,zO 104 (.call ⟨.builtin .len,#[.tmp 103],#[24]⟩),zO 105 (.call ⟨.value (.func 147),#[.tmp 101,.tmp 104],#[3,3]⟩),zG 4 105]
instance : Live qn4 := ⟨[2,3]⟩
def qjc : SC :=
 (.seq (.seq (.ops false z3n) (.cond (.tmp 16) .skip (.exit 0))) (.seq (.block 1 (.seq (.ops false z3m) (.seq (.seq (.ops false z3l) (.cond (.tmp 23) (.ops false z3k) .skip)) (.seq (.seq (.ops false z3j) (.cond (.tmp 33) (.ops false qnh) .skip)) (.seq (.ops false qng) (.cond (.tmp 41) (.seq (.ops false qnf) .ret) .skip)))))) (.ops false qne)))
def qjb : SC :=
 (.seq (.seq (.ops false qnc) (.cond (.tmp 56) .skip (.exit 2))) (.seq (.block 3 (.seq (.opsW [] qcs) (.seq (.seq (.ops false qnb) (.cond (.tmp 73) (.seq (.ops false qna) .ret) .skip)) (.seq (.seq (.ops false qn9) (.cond (.tmp 83) (.seq (.ops false qn8) .ret) .skip)) (.seq (.ops false qn7) (.cond (.tmp 93) (.seq (.ops false qn6) .ret) .skip)))))) (.ops false qn5)))
def t_k119 : SC :=
 (.seq (.ops false z3r) (.seq (.ops false z3q) (.seq (.ops false z3p) (.seq (.seq (.ops false z3o) (.block 0 (.loop qjc))) (.seq (.seq (.ops false qnd) (.block 2 (.loop qjb))) (.seq (.ops false qn4) .ret))))))
theorem it_k119 : FnIs Tryz.prog 119 106 [.tmp 4] t_k119 := ⟨Tryz.f119, _, Tryz.func119, rfl, rfl, rfl, rfl, by kernel_rfl⟩


theorem ev_k126 (p : Pst) (hw : wt p ≤ 50000000) : Ev (En Tryz.prog rfl).P 126 [q0g p] (.ret (.int .i64 (q3x p))) := by
 have c1 := qhe p (by omega)
 refine Ev.of_body it_k126 (by simp) (Run.start ?_)
 unfold t_k126 q0g
 have ht : TabLe (q0l [p]) (wt p) := by simpa using q1h [p]
 have hS := q2k
 have hm : q7k [p] = (q0l [p]).map q0o := rfl
 have hp : q3x p = q28 (q0l [p]) 16 := rfl
 rw [hm] at c1
 rw [hp]
 have h16 : (q0i ((q0l [p]).map q0o)).length = 16 := by simp [q0i, ht.1]
 have hone := q4b ((q0l [p]).map q0o)
 have hst := q2k ((q0l [p]).map q0o)
 (have hF := True.intro; refine q01 (k:=?_); clear hF)
 refine q00 [q0g p] (he := c1) (k:=?_)
 clear c1 hm hp
 generalize q0l [p] = t at ht h16 hone hst ⊢
 (have hF := (aI @h16 @hone); refine q01 (k:=?_); clear hF)
 refine Run.while (σ := Nat) (fun r => ⟨tms [(3, .ptr 3 0), (4, .int .i64 (q28 t r)), (5, .int .i64 (r : Int))], mms [(3, .cells (q0i (t.map q0o)))]⟩)
  (fun r => r ≤ 16) (fun r => 16 - r) 0 (have hW := @hst; q0h) (Nat.zero_le _) ?_
 intro r hr
 unfold qj6
 by_cases hlt : r < 16
 ·have hrt : r < t.length := by rw [ht.1]; exact hlt
  have hq := ht.2 r
  have g1 : (q0i (t.map q0o))[r]? = some (.sl 1 (q05 (q3u (q13 (t.getD r []))))) := by
   rw [q85 (by rw [List.length_map]; exact hrt)]
   simp [List.getD_eq_getElem?_getD, hrt, q0o]
  have hml := q1z (t.getD r [])
  have hcan := q1c (t.getD r [])
  have hb := q6u ht r
  have hr16 : (r : Int) * (1000000000 * (wt p : Int)) ≤ 16 * (1000000000 * (wt p : Int)) := Int.mul_le_mul_of_nonneg_right (by omega) (by omega)
  have hnx := q5t t r
  unfold qei at hnx
  generalize q13 (t.getD r []) = m at g1 hml hcan hnx
  have g2 : (q05 (q3u m)).length = 2 * m.length := by rw [q0f, qa4]
  (have hF := (aI @h16 @hone); refine q01 (k:=?_); clear hF)
  refine Run.while (σ := Nat) (fun c => ⟨tms [(3, .ptr 3 0), (4, .int .i64 ((m.take c).foldl q1g (q28 t r))), (5, .int .i64 (r : Int)), (6, .int .i64 ((2 * c : Nat) : Int))], mms [(3, .cells (q0i (t.map q0o)))]⟩)
   (fun c => c ≤ m.length) (fun c => m.length - c) 0 (have hW := @hst; q0h) (Nat.zero_le _) ?_
  intro c hc
  unfold qj5
  by_cases hcl : c < m.length
  ·obtain ⟨x, hx⟩ : ∃ x, m[c]? = some x := ⟨m[c], by simp [hcl]⟩
   have ⟨k1, k2⟩ := qrp hx
   have k1' : (q05 (q3u m))[2 * c]? = some (.int .i64 x.1) := q0w k1
   have k2' : (q05 (q3u m))[2 * c + 1]? = some (.int .i64 (x.2 + 1)) := q0w k2
   have hxr := hcan.2 x (List.mem_of_getElem? hx)
   unfold okR at hxr
   have e8 : ((2 * c : Nat) : Int) + 1 = ((2 * c + 1 : Nat) : Int) := by omega
   have e9 : ((2 * c : Nat) : Int) + 2 = ((2 * (c + 1) : Nat) : Int) := by omega
   have hf : (m.take (c + 1)).foldl q1g (q28 t r) = (m.take c).foldl q1g (q28 t r) + (x.2 + 1 - x.1) := by
    rw [q32 q1g _ m hx]
    unfold q1g
    omega
   have hb2 := q8u (m := m.take c) (fun y hy => by have := hcan.2 y (List.mem_of_mem_take hy); unfold okR at this; omega) (q28 t r)
   have hb3 : (m.take c).length ≤ m.length := by rw [List.length_take]; omega
   generalize (m.take c).foldl q1g (q28 t r) = a at hf hb2 ⊢
   (have hF := (aI (aI (aI @h16 @hone) (aI @g1 @g2)) (aI (aI @k1' @k2') (aI @e8 @e9))); refine q01 (k:=?_); clear hF)
   (refine Fin.nextW (c + 1) ?_ (have hW := (aI @hst @hf); q0h); (try dsimp only))
   omega
  ·have hce : (m.take c).foldl q1g (q28 t r) = q28 t (r + 1) := by
    rw [show c = m.length by omega, List.take_length, q8j, hnx]
   rw [hce]
   (have hF := (aI (aI @h16 @hone) (aI @g1 @g2)); refine q01 (k:=?_); clear hF)
   (refine Fin.nextW (r + 1) ?_ (have hW := @hst; q0h); (try dsimp only))
   omega
 ·rw [show r = 16 by omega]
  (have hF := @h16; refine q01 (k:=?_); clear hF)
  exact Fin.tmp' rfl rfl
theorem ev_k76 (p : Pst) (hp : wt p ≤ 50000000) : Ev (En Tryz.prog rfl).P 76 [q0g p] (.ret (.bool (decide (q3x p = 0)))) := by
 refine Ev.of_body it_k76 (by simp) (Run.start ?_)
 unfold t_k76 q0g
 (have hF := True.intro; refine q01 (k:=?_); clear hF)
 refine q00 [q0g p] (he := ev_k126 p hp) (k:=?_)
 (have hF := True.intro; refine q01 (k:=?_); clear hF)
 exact Fin.tmp' rfl rfl
theorem qpx (p q : Pst) : decide (q3x (q2u p q) = 0) = q0n p q := by
 refine qaq ?_
 rw [decide_eq_true_eq, q27, qex]
 constructor
 ·intro h r hr n hn
  refine Classical.byContradiction fun h' => ?_
  have hin := (q7j p q hr n).2 ⟨hn, h'⟩
  have := qe7 hin.2.1 hin.2.2.1 hin hr
  omega
 ·intro h
  have := qfs (q := inP (q2u p q)) (fun r n hh => by
   have := (q7j p q hh.1 n).1 hh
   exact this.2 (h r hh.1 n this.1)) 16
  omega
theorem ev_k70 (p q : Pst) (hp : wt p ≤ 10000000) (hq : wt q ≤ 10000000) : Ev (En Tryz.prog rfl).P 70 [q0g p, q0g q] (.ret (.bool (q0n p q))) := by
 have w := qd3 p q
 have c1 := ev_k120 p q (by omega) (by omega)
 have c2 := ev_k76 (q2u p q) (by omega)
 rw [qpx] at c2
 refine Ev.of_body it_k70 (by simp) (Run.start ?_)
 unfold t_k70 q0g
 (have hF := True.intro; refine q01 (k:=?_); clear hF)
 refine q00 [q0g p, q0g q] (he := c1) (k:=?_)
 (have hF := True.intro; refine q01 (k:=?_); clear hF)
 refine q00 [q0g (q2u p q)] (he := c2) (k:=?_)
 (have hF := True.intro; refine q01 (k:=?_); clear hF)
 exact Fin.tmp' rfl rfl
theorem qdq (a b : Int) : Ev (En Tryz.prog rfl).P 147 [.int .i64 a, .int .i64 b] (.ret (.int .i64 (q7e a b))) := by
 refine Ev.of_body it_k147 (by simp) (Run.start ?_)
 unfold t_k147
 by_cases h1 : a < b
 ·rw [show q7e a b = -1 from if_pos h1]
  (have hF := True.intro; refine q01 (k:=?_); clear hF)
  exact Fin.tmp' rfl rfl
 ·by_cases h2 : b < a
  ·rw [show q7e a b = 1 by unfold q7e; rw [if_neg h1, if_pos h2]]
   (have hF := True.intro; refine q01 (k:=?_); clear hF)
   exact Fin.tmp' rfl rfl
  ·rw [show q7e a b = 0 by unfold q7e; rw [if_neg h1, if_neg h2]]
   (have hF := True.intro; refine q01 (k:=?_); clear hF)
   exact Fin.tmp' rfl rfl

theorem cmpS_def (s t : Sn) : cmpS s t = if q7e s.1 t.1 = 0 then (if q7e s.2.1 t.2.1 = 0 then q7e s.2.2 t.2.2 else q7e s.2.1 t.2.1) else q7e s.1 t.1 := by
 unfold cmpS
 simp only [orI]
 split
 ·split
  ·split
   ·rename_i h; exact h.symm
   ·rfl
  ·rfl
 ·rfl
theorem q6o {a b : Int} : q7e a b = 0 ↔ a = b := by
 unfold q7e
 split
 ·constructor
  ·intro h; simp at h
  ·intro h; omega
 ·split
  ·constructor
   ·intro h; simp at h
   ·intro h; omega
  ·constructor
   ·intro _; omega
   ·intro _; rfl
theorem ev_k119 (p q : Pst) (hp : wt p ≤ 30000000) (hq : wt q ≤ 30000000) : Ev (En Tryz.prog rfl).P 119 [q0g p, q0g q] (.ret (.int .i64 (zaf p q))) := by
 refine Ev.of_body it_k119 (by simp) (Run.start ?_)
 unfold t_k119 q0g
 have c1 := qhf p (by omega)
 have c2 := qhf q (by omega)
 have h1 := q5w p
 have h2 := q5w q
 have hr : zaf p q = q5n (qf8 (q18 p)) (qf8 (q18 q)) := rfl
 rw [hr]
 (have hF := True.intro; refine q01 (k:=?_); clear hF)
 refine q00 [q0g p] (he := c1) (k:=?_)
 unfold q0g
 (have hF := True.intro; refine q01 (k:=?_); clear hF)
 refine q00 [q0g q] (he := c2) (k:=?_)
 clear c1 c2 hr
 generalize q18 p = x at h1 ⊢
 generalize q18 q = y at h2 ⊢
 unfold q0g
 have hw1 : x.vec.length + x.cloud.length = wt x := rfl
 have hw2 : y.vec.length + y.cloud.length = wt y := rfl
 have e1 := q0f x.vec
 have e2 := q0f y.vec
 have e3 := q1f x.cloud
 have e4 := q1f y.cloud
 (have hF := (aI @e1 @e2); refine q01 (k:=?_); clear hF)
 refine Run.while (σ := Nat) (fun i => ⟨tms [(2, .ptr 2 0), (3, .ptr 3 0), (5, .int .i64 (i : Int))], mms [(2, .cells [.sl 1 (q05 x.vec), .sl 3 (q0d x.cloud)]), (3, .cells [.sl 1 (q05 y.vec), .sl 3 (q0d y.cloud)])]⟩) (fun i => i ≤ 16 ∧ ∀ j, j < i → vv x j = vv y j) (fun i => 16 - i) 0 (have hW := (aI @q02 @q03); q0h) ⟨Nat.zero_le _, fun j hj => absurd hj (Nat.not_lt_zero _)⟩ ?_
 rintro i ⟨hi, hp⟩
 unfold qjc
 by_cases hlt : i < 16
 ·have hne : vv x i ≠ vv y i → q5n (qf8 x) (qf8 y) = q7e (vv x i) (vv y i) := fun hn =>
   qqk (qia x) (qia y) i _ _ _ _ (q4d x hlt) (q4d y hlt) (fun j hj => by rw [q4d x (by omega), q4d y (by omega), hp j hj]) hn
  have heq : vv x i = vv y i → ∀ j, j < i + 1 → vv x j = vv y j := fun he j hj => by
   by_cases e : j = i
   ·rw [e]; exact he
   ·exact hp j (by omega)
  have k1 := qdq (vv x i) (vv y i)
  unfold vv at hne heq k1
  by_cases hx : i < x.vec.length
  ·have g1 : (q05 x.vec)[i]? = some (.int .i64 (q1n x.vec i)) := q0w (by unfold q1n; rw [List.getD_eq_getElem?_getD, List.getElem?_eq_getElem hx]; rfl)
   simp only [if_pos hx] at hne heq k1
   by_cases hy : i < y.vec.length
   ·have g2 : (q05 y.vec)[i]? = some (.int .i64 (q1n y.vec i)) := q0w (by unfold q1n; rw [List.getD_eq_getElem?_getD, List.getElem?_eq_getElem hy]; rfl)
    simp only [if_pos hy] at hne heq k1
    (focus (have hF := (aI (aI @e1 @e2) (aI @g1 @g2)); (repeat' (first | refine go1 (k:=?_) | with_reducible refine Ny.of ?_ ?_ | (refine Hyp.of ?_; intro hc; (try simp only [hc]); (try simp only [Bh] at hc)))); all_goals clear hF))
    ·rw [hne hc]
     refine q00 [.int .i64 (q1n x.vec i), .int .i64 (q1n y.vec i)] (he := k1) (k:=?_)
     (have hF := True.intro; refine q01 (k:=?_); clear hF)
     exact Fin.tmp' rfl rfl
    ·have h := heq hc
     (refine Fin.nextW (i + 1) ?_ (have hW := (aI @q02 @q03); q0h); (try dsimp only))
     exact ⟨⟨hlt, h⟩, by omega⟩
   ·simp only [if_neg hy] at hne heq k1
    (focus (have hF := (aI @e1 (aI @e2 @g1)); (repeat' (first | refine go1 (k:=?_) | with_reducible refine Ny.of ?_ ?_ | (refine Hyp.of ?_; intro hc; (try simp only [hc]); (try simp only [Bh] at hc)))); all_goals clear hF))
    ·rw [hne hc]
     refine q00 [.int .i64 (q1n x.vec i), .int .i64 0] (he := k1) (k:=?_)
     (have hF := True.intro; refine q01 (k:=?_); clear hF)
     exact Fin.tmp' rfl rfl
    ·have h := heq hc
     (refine Fin.nextW (i + 1) ?_ (have hW := (aI @q02 @q03); q0h); (try dsimp only))
     exact ⟨⟨hlt, h⟩, by omega⟩
  ·simp only [if_neg hx] at hne heq k1
   by_cases hy : i < y.vec.length
   ·have g2 : (q05 y.vec)[i]? = some (.int .i64 (q1n y.vec i)) := q0w (by unfold q1n; rw [List.getD_eq_getElem?_getD, List.getElem?_eq_getElem hy]; rfl)
    simp only [if_pos hy] at hne heq k1
    (focus (have hF := (aI @e1 (aI @e2 @g2)); (repeat' (first | refine go1 (k:=?_) | with_reducible refine Ny.of ?_ ?_ | (refine Hyp.of ?_; intro hc; (try simp only [hc]); (try simp only [Bh] at hc)))); all_goals clear hF))
    ·rw [hne hc]
     refine q00 [.int .i64 0, .int .i64 (q1n y.vec i)] (he := k1) (k:=?_)
     (have hF := True.intro; refine q01 (k:=?_); clear hF)
     exact Fin.tmp' rfl rfl
    ·have h := heq hc
     (refine Fin.nextW (i + 1) ?_ (have hW := (aI @q02 @q03); q0h); (try dsimp only))
     exact ⟨⟨hlt, h⟩, by omega⟩
   ·simp only [if_neg hy] at hne heq k1
    (have hF := (aI @e1 @e2); refine q01 (k:=?_); clear hF)
    have h := heq trivial
    (refine Fin.nextW (i + 1) ?_ (have hW := (aI @q02 @q03); q0h); (try dsimp only))
    exact ⟨⟨hlt, h⟩, by omega⟩
 ·have hv : qia x = qia y := by
   unfold qia
   exact List.map_congr_left fun j hj => hp j (by rw [List.mem_range] at hj; omega)
  have hk : q5n (qf8 x) (qf8 y) = qi2 x.cloud y.cloud := by
   unfold qf8
   rw [hv, qh1, qe2]
  rw [hk]
  (have hF := (aI @e1 @e2); refine q01 (k:=?_); clear hF)
  refine Run.while (σ := Nat) (fun i => ⟨tms [(2, .ptr 2 0), (3, .ptr 3 0), (8, .int .i64 (i : Int))], mms [(2, .cells [.sl 1 (q05 x.vec), .sl 3 (q0d x.cloud)]), (3, .cells [.sl 1 (q05 y.vec), .sl 3 (q0d y.cloud)])]⟩) (fun i => i ≤ x.cloud.length ∧ i ≤ y.cloud.length ∧ qi2 (x.cloud.drop i) (y.cloud.drop i) = qi2 x.cloud y.cloud) (fun i => x.cloud.length - i) 0 (have hW := (aI @q02 @q03); q0h) ⟨Nat.zero_le _, Nat.zero_le _, by rw [List.drop_zero, List.drop_zero]⟩ ?_
  clear hlt hi hp
  rintro i ⟨hi, hi2, hp⟩
  unfold qjb
  by_cases hlt : i < x.cloud.length ∧ i < y.cloud.length
  ·obtain ⟨hla, hlb⟩ := hlt
   obtain ⟨s, hs⟩ : ∃ s, x.cloud[i]? = some s := ⟨x.cloud[i], by simp [hla]⟩
   obtain ⟨t, ht⟩ : ∃ t, y.cloud[i]? = some t := ⟨y.cloud[i], by simp [hlb]⟩
   have g1 := q2e hs
   have g2 := q2e ht
   obtain ⟨_, hxa⟩ := List.getElem?_eq_some_iff.1 hs
   obtain ⟨_, hyb⟩ := List.getElem?_eq_some_iff.1 ht
   have hd : qi2 x.cloud y.cloud = if cmpS s t = 0 then qi2 (x.cloud.drop (i + 1)) (y.cloud.drop (i + 1)) else cmpS s t := by
    rw [← hp, List.drop_eq_getElem_cons hla, List.drop_eq_getElem_cons hlb, hxa, hyb]
    rfl
   rw [cmpS_def] at hd
   have k1 := qdq s.1 t.1
   have k2 := qdq s.2.1 t.2.1
   have k3 := qdq s.2.2 t.2.2
   unfold qr4 at g1 g2
   by_cases q1 : s.1 = t.1
   ·rw [if_pos (q6o.2 q1)] at hd
    by_cases q2 : s.2.1 = t.2.1
    ·rw [if_pos (q6o.2 q2)] at hd
     by_cases q3 : s.2.2 = t.2.2
     ·rw [if_pos (q6o.2 q3)] at hd
      (have hF := (aI (aI (aI @e1 @e2) (aI @e3 @e4)) (aI (aI @g1 @g2) (aI @q1 (aI @q2 @q3)))); refine run2 (k:=?_); clear hF)
      (refine Fin.nextW (i + 1) ?_ (have hW := (aI @q02 @q03); q0h); (try dsimp only))
      exact ⟨⟨hla, hlb, hd.symm⟩, by omega⟩
     ·rw [if_neg (fun h => q3 (q6o.1 h))] at hd
      rw [hd]
      (have hF := (aI (aI (aI @e1 @e2) (aI @e3 @e4)) (aI (aI @g1 @g2) (aI @q1 (aI @q2 @q3)))); refine run2 (k:=?_); clear hF)
      refine q00 [.int .i64 s.2.2, .int .i64 t.2.2] (he := k3) (k:=?_)
      (have hF := True.intro; refine q01 (k:=?_); clear hF)
      exact Fin.tmp' rfl rfl
    ·have hd2 : ¬ q7e s.2.1 t.2.1 = 0 := fun h => q2 (q6o.1 h)
     rw [if_neg hd2, if_neg hd2] at hd
     rw [hd]
     (have hF := (aI (aI (aI @e1 @e2) (aI @e3 @e4)) (aI (aI @g1 @g2) (aI @q1 @q2))); refine run2 (k:=?_); clear hF)
     refine q00 [.int .i64 s.2.1, .int .i64 t.2.1] (he := k2) (k:=?_)
     (have hF := True.intro; refine q01 (k:=?_); clear hF)
     exact Fin.tmp' rfl rfl
   ·have hd2 : ¬ q7e s.1 t.1 = 0 := fun h => q1 (q6o.1 h)
    rw [if_neg hd2, if_neg hd2] at hd
    rw [hd]
    (have hF := (aI (aI @e1 (aI @e2 @e3)) (aI (aI @e4 @g1) (aI @g2 @q1))); refine run2 (k:=?_); clear hF)
    refine q00 [.int .i64 s.1, .int .i64 t.1] (he := k1) (k:=?_)
    (have hF := True.intro; refine q01 (k:=?_); clear hF)
    exact Fin.tmp' rfl rfl
  ·have hd : qi2 x.cloud y.cloud = q7e (x.cloud.length : Int) (y.cloud.length : Int) := by
    rw [← hp]
    by_cases ha : i < x.cloud.length
    ·have hb : ¬ i < y.cloud.length := fun h => hlt ⟨ha, h⟩
     rw [List.drop_eq_getElem_cons ha, List.drop_eq_nil_of_le (show y.cloud.length ≤ i by omega)]
     unfold q7e
     rw [if_neg (by omega), if_pos (by omega)]
     rfl
    ·by_cases hb : i < y.cloud.length
     ·rw [List.drop_eq_nil_of_le (show x.cloud.length ≤ i by omega), List.drop_eq_getElem_cons hb]
      unfold q7e
      rw [if_pos (by omega)]
      rfl
     ·rw [List.drop_eq_nil_of_le (show x.cloud.length ≤ i by omega), List.drop_eq_nil_of_le (show y.cloud.length ≤ i by omega)]
      unfold q7e
      rw [if_neg (by omega), if_neg (by omega)]
      rfl
   rw [hd]
   have k1 := qdq (x.cloud.length : Int) (y.cloud.length : Int)
   by_cases ha : i < x.cloud.length
   ·have hb : ¬ i < y.cloud.length := fun h => hlt ⟨ha, h⟩
    (have hF := (aI (aI @e1 @e2) (aI @e3 @e4)); refine q01 (k:=?_); clear hF)
    refine q00 [.int .i64 (x.cloud.length : Int), .int .i64 (y.cloud.length : Int)] (he := k1) (k:=?_)
    (have hF := True.intro; refine q01 (k:=?_); clear hF)
    exact Fin.tmp' rfl rfl
   ·(have hF := (aI (aI @e1 @e2) (aI @e3 @e4)); refine q01 (k:=?_); clear hF)
    refine q00 [.int .i64 (x.cloud.length : Int), .int .i64 (y.cloud.length : Int)] (he := k1) (k:=?_)
    (have hF := True.intro; refine q01 (k:=?_); clear hF)
    exact Fin.tmp' rfl rfl

def qxv : List SOp := [zO 4 (.assign (.const (.int .i64 0)))]
instance : Live qxv := ⟨[0,1]⟩
def qxu : List SOp := [zM 5 0,zM 6 1,zO 7 (.call ⟨.value (.func 173),#[.tmp 5,.tmp 6],#[9,9]⟩),zG 4 7]
instance : Live qxu := ⟨[0,1]⟩
def t_k159 : SC :=
 (.seq (.ops false qxv) (.seq (.ops false qxu) .ret))
theorem it_k159 : FnIs Tryz.prog 159 8 [.tmp 4] t_k159 := ⟨Tryz.f159, _, Tryz.func159, rfl, rfl, rfl, rfl, by kernel_rfl⟩

def z0u : List SOp := [zO 4 (.assign (.const (.int .i64 0)))]
instance : Live z0u := ⟨[0,1]⟩
def z0t : List SOp := [zM 5 0,zM 6 1,zO 7 (.call ⟨.value (.func 159),#[.tmp 5,.tmp 6],#[9,9]⟩),zG 4 7]
instance : Live z0t := ⟨[0,1]⟩
def t_k138 : SC :=
 (.seq (.ops false z0u) (.seq (.ops false z0t) .ret))
theorem it_k138 : FnIs Tryz.prog 138 8 [.tmp 4] t_k138 := ⟨Tryz.f138, _, Tryz.func138, rfl, rfl, rfl, rfl, by kernel_rfl⟩

def z5o : List SOp := [zO 2 (.box 91 (.tmp 0)),zO 3 (.box 91 (.tmp 1)),zO 4 (.assign (.const (.int .i64 0)))]
instance : Live z5o := ⟨[0,1]⟩
def z5n : List SOp := [zF 6 91 2 0,zL 7 9 6,zF 8 91 3 0,zL 9 9 8,zO 10 (.call ⟨.value (.func 138),#[.tmp 7,.tmp 9],#[9,9]⟩),zG 5 10]
instance : Live z5n := ⟨[2,3]⟩
def z5m : List SOp := [zM 11 5,zO 12 (.binOp .neq 3 (.tmp 11) (.const (.int .i64 0)) 3)]
instance : Live z5m := ⟨[2,3,5]⟩
def z5l : List SOp := [zM 13 5,zG 4 13]
instance : Live z5l := ⟨[5]⟩
def z5k : List SOp := [zF 14 91 2 1,zL 15 26 14,zF 16 91 3 1,zL 17 26 16,zO 18 (.call ⟨.value (.func 123),#[.tmp 15,.tmp 17],#[26,26]⟩),zG 4 18]
instance : Live z5k := ⟨[2,3]⟩
def t_k106 : SC :=
 (.seq (.ops false z5o) (.seq (.seq (.ops false z5n) (.seq (.ops false z5m) (.cond (.tmp 12) (.seq (.ops false z5l) .ret) .skip))) (.seq (.ops false z5k) .ret)))
theorem it_k106 : FnIs Tryz.prog 106 19 [.tmp 4] t_k106 := ⟨Tryz.f106, _, Tryz.func106, rfl, rfl, rfl, rfl, by kernel_rfl⟩

def z5u : List SOp := [zO 1 (.box 91 (.tmp 0)),zO 2 (.assign (.const (.int .i64 0)))]
instance : Live z5u := ⟨[0]⟩
def z5t : List SOp := [zF 3 91 1 0,zL 4 9 3,zO 5 (.binOp .neq 9 (.tmp 4) (.const (.string ⟨#[]⟩)) 9),zM 6 5,⟨some 7,.fieldAddr 91 (.tmp 1) 0,some ((some 6),true)⟩,⟨some 8,.load 9 (.tmp 7),some ((some 6),true)⟩,⟨some 9,.call ⟨.value (.func 137),#[.tmp 8],#[9]⟩,some ((some 6),true)⟩,⟨some 10,.unOp .not 4 (.tmp 9),some ((some 6),true)⟩,zO 11 (.pick (.tmp 6) (.tmp 10) (.const (.bool false)))]
instance : Live z5t := ⟨[1]⟩
def z5s : List SOp := [zO 2 (.assign (.const (.int .i64 5)))]
instance : Live z5s := ⟨[]⟩
def z5r : List SOp := [zF 12 91 1 1,zL 13 26 12,zO 14 (.call ⟨.value (.func 54),#[.tmp 13],#[26]⟩),zO 15 (.unOp .not 4 (.tmp 14)),zM 16 15,⟨some 17,.fieldAddr 91 (.tmp 1) 1,some ((some 16),false)⟩,⟨some 18,.load 26 (.tmp 17),some ((some 16),false)⟩,⟨some 19,.call ⟨.value (.func 92),#[.tmp 18],#[26]⟩,some ((some 16),false)⟩,zO 20 (.pick (.tmp 16) (.const (.bool true)) (.tmp 19))]
instance : Live z5r := ⟨[1]⟩
def z5q : List SOp := [zO 2 (.assign (.const (.int .i64 1)))]
instance : Live z5q := ⟨[]⟩
def z5p : List SOp := [zO 2 (.assign (.const (.int .i64 0)))]
instance : Live z5p := ⟨[]⟩
def t_k105 : SC :=
 (.seq (.ops false z5u) (.seq (.seq (.ops false z5t) (.cond (.tmp 11) (.seq (.ops false z5s) .ret) .skip)) (.seq (.seq (.ops false z5r) (.cond (.tmp 20) (.seq (.ops false z5q) .ret) .skip)) (.seq (.ops false z5p) .ret))))
theorem it_k105 : FnIs Tryz.prog 105 21 [.tmp 2] t_k105 := ⟨Tryz.f105, _, Tryz.func105, rfl, rfl, rfl, rfl, by kernel_rfl⟩

def zfj : List SOp := [zO 2 (.assign (.const (.int .i64 0)))]
instance : Live zfj := ⟨[0]⟩
def zfi : List SOp := [zM 5 0,zO 6 (.call ⟨.builtin .len,#[.tmp 5],#[27]⟩),zO 7 (.move (.const (.int .i64 0)))]
instance : Live zfi := ⟨[0]⟩
def zfh : List SOp := [zO 8 (.binOp .lss 3 (.tmp 7) (.tmp 6) 3)]
instance : Live zfh := ⟨[0,5,6,7]⟩
def zfg : List SOp := [zM 9 7,zI 10 27 5 7,zL 11 91 10,zO 4 (.alloc 91),zG 3 9,⟨none,.store 91 (.tmp 4) (.tmp 11),none⟩]
instance : Live zfg := ⟨[0,5,6,7]⟩
def zff : List SOp := [zL 12 91 4,zO 13 (.call ⟨.value (.func 105),#[.tmp 12],#[91]⟩),zO 14 (.binOp .neq 32 (.tmp 13) (.const (.int .i64 0)) 32),zM 15 14,⟨some 16,.move (.tmp 3),some ((some 15),false)⟩,⟨some 17,.binOp .gtr 3 (.tmp 16) (.const (.int .i64 0)) 3,some ((some 15),false)⟩,⟨some 18,.move (.tmp 17),some ((some 15),false)⟩,⟨some 19,.move (.tmp 0),some ((some 18),true)⟩,⟨some 20,.move (.tmp 3),some ((some 18),true)⟩,⟨some 21,.binOp .sub 3 (.tmp 20) (.const (.int .i64 1)) 3,some ((some 18),true)⟩,⟨some 22,.indexAddr 27 (.tmp 19) (.tmp 21),some ((some 18),true)⟩,⟨some 23,.load 91 (.tmp 22),some ((some 18),true)⟩,⟨some 24,.load 91 (.tmp 4),some ((some 18),true)⟩,⟨some 25,.call ⟨.value (.func 106),#[.tmp 23,.tmp 24],#[91,91]⟩,some ((some 18),true)⟩,⟨some 26,.binOp .geq 3 (.tmp 25) (.const (.int .i64 0)) 3,some ((some 18),true)⟩,⟨some 27,.pick (.tmp 18) (.tmp 26) (.const (.bool false)),some ((some 15),false)⟩,zO 28 (.pick (.tmp 15) (.const (.bool true)) (.tmp 27))]
instance : Live zff := ⟨[0,3,4,5,6,7]⟩
def zfe : List SOp := [zO 2 (.assign (.const (.int .i64 1)))]
instance : Live zfe := ⟨[]⟩
def zfd : List SOp := [zO 29 (.binOp .add 3 (.tmp 7) (.const (.int .i64 1)) 3),zM 7 29]
instance : Live zfd := ⟨[0,5,6,7]⟩
def zfc : List SOp := [zO 2 (.assign (.const (.int .i64 0)))]
instance : Live zfc := ⟨[]⟩
def qs4 : SC :=
 (.seq (.ops false zfh) (.seq (.cond (.tmp 8) .skip (.exit 0)) (.seq (.block 1 (.seq (.ops false zfg) (.seq (.ops true zff) (.cond (.tmp 28) (.seq (.ops false zfe) .ret) .skip)))) (.ops false zfd))))
def t_k55 : SC :=
 (.seq (.ops false zfj) (.seq (.seq (.ops false zfi) (.block 0 (.loop qs4))) (.seq (.ops false zfc) .ret)))
theorem it_k55 : FnIs Tryz.prog 55 30 [.tmp 2] t_k55 := ⟨Tryz.f55, _, Tryz.func55, rfl, rfl, rfl, rfl, by kernel_rfl⟩

def z6o : List SOp := [zO 1 (.box 62 (.tmp 0)),zO 2 (.assign (.const (.int .i64 0)))]
instance : Live z6o := ⟨[0]⟩
def z6n : List SOp := [zF 4 62 1 0,zF 5 41 4 0,zL 6 3 5,zO 7 (.binOp .lss 3 (.tmp 6) (.const (.int .i64 0)) 3),zM 8 7,⟨some 9,.fieldAddr 62 (.tmp 1) 0,some ((some 8),false)⟩,⟨some 10,.fieldAddr 41 (.tmp 9) 0,some ((some 8),false)⟩,⟨some 11,.load 3 (.tmp 10),some ((some 8),false)⟩,⟨some 12,.binOp .geq 3 (.tmp 11) (.const (.int .i64 16)) 3,some ((some 8),false)⟩,zO 13 (.pick (.tmp 8) (.const (.bool true)) (.tmp 12)),zG 3 13]
instance : Live z6n := ⟨[1]⟩
def z6m : List SOp := [zO 2 (.assign (.const (.int .i64 3)))]
instance : Live z6m := ⟨[]⟩
def z6l : List SOp := [zF 15 62 1 0,zF 16 41 15 1,zL 17 3 16,zO 18 (.binOp .lss 3 (.tmp 17) (.const (.int .i64 1)) 3),zM 19 18,⟨some 20,.fieldAddr 62 (.tmp 1) 0,some ((some 19),false)⟩,⟨some 21,.fieldAddr 41 (.tmp 20) 1,some ((some 19),false)⟩,⟨some 22,.load 3 (.tmp 21),some ((some 19),false)⟩,⟨some 23,.binOp .gtr 3 (.tmp 22) (.const (.int .i64 1000000000)) 3,some ((some 19),false)⟩,zO 24 (.pick (.tmp 19) (.const (.bool true)) (.tmp 23)),zG 14 24]
instance : Live z6l := ⟨[1]⟩
def z6k : List SOp := [zO 2 (.assign (.const (.int .i64 2)))]
instance : Live z6k := ⟨[]⟩
def z6j : List SOp := [zF 26 62 1 1,zL 27 9 26,zO 28 (.call ⟨.value (.func 137),#[.tmp 27],#[9]⟩),zO 29 (.unOp .not 4 (.tmp 28)),zG 25 29]
instance : Live z6j := ⟨[1]⟩
def z6i : List SOp := [zO 2 (.assign (.const (.int .i64 5)))]
instance : Live z6i := ⟨[]⟩
def z6h : List SOp := [zF 31 62 1 2,zL 32 3 31,zO 33 (.binOp .lss 3 (.tmp 32) (.const (.int .i64 1)) 3),zM 34 33,⟨some 35,.fieldAddr 62 (.tmp 1) 2,some ((some 34),false)⟩,⟨some 36,.load 3 (.tmp 35),some ((some 34),false)⟩,⟨some 37,.binOp .gtr 3 (.tmp 36) (.const (.int .i64 1000000)) 3,some ((some 34),false)⟩,zO 38 (.pick (.tmp 34) (.const (.bool true)) (.tmp 37)),zG 30 38]
instance : Live z6h := ⟨[1]⟩
def z6g : List SOp := [zO 2 (.assign (.const (.int .i64 6)))]
instance : Live z6g := ⟨[]⟩
def qo8 : List SOp := [zO 2 (.assign (.const (.int .i64 0)))]
instance : Live qo8 := ⟨[]⟩
def t_k101 : SC :=
 (.seq (.ops false z6o) (.seq (.block 0 (.seq (.ops false z6n) (.cond (.tmp 3) (.seq (.ops false z6m) .ret) (.seq (.ops false z6l) (.cond (.tmp 14) (.seq (.ops false z6k) .ret) (.seq (.ops false z6j) (.cond (.tmp 25) (.seq (.ops false z6i) .ret) (.seq (.ops false z6h) (.cond (.tmp 30) (.seq (.ops false z6g) .ret) .skip))))))))) (.seq (.ops false qo8) .ret)))
theorem it_k101 : FnIs Tryz.prog 101 39 [.tmp 2] t_k101 := ⟨Tryz.f101, _, Tryz.func101, rfl, rfl, rfl, rfl, by kernel_rfl⟩

def z6f : List SOp := [zO 2 (.box 41 (.tmp 0)),zO 3 (.box 41 (.tmp 1)),zO 4 (.assign (.const (.bool false)))]
instance : Live z6f := ⟨[0,1]⟩
def z6e : List SOp := [zF 5 41 2 0,zL 6 3 5,zF 7 41 3 0,zL 8 3 7,zO 9 (.binOp .lss 3 (.tmp 6) (.tmp 8) 3),zM 10 9,⟨some 11,.fieldAddr 41 (.tmp 2) 0,some ((some 10),false)⟩,⟨some 12,.load 3 (.tmp 11),some ((some 10),false)⟩,⟨some 13,.fieldAddr 41 (.tmp 3) 0,some ((some 10),false)⟩,⟨some 14,.load 3 (.tmp 13),some ((some 10),false)⟩,⟨some 15,.binOp .eql 3 (.tmp 12) (.tmp 14) 3,some ((some 10),false)⟩,⟨some 16,.move (.tmp 15),some ((some 10),false)⟩,⟨some 17,.fieldAddr 41 (.tmp 2) 1,some ((some 16),true)⟩,⟨some 18,.load 3 (.tmp 17),some ((some 16),true)⟩,⟨some 19,.fieldAddr 41 (.tmp 3) 1,some ((some 16),true)⟩,⟨some 20,.load 3 (.tmp 19),some ((some 16),true)⟩,⟨some 21,.binOp .lss 3 (.tmp 18) (.tmp 20) 3,some ((some 16),true)⟩,⟨some 22,.pick (.tmp 16) (.tmp 21) (.const (.bool false)),some ((some 10),false)⟩,zO 23 (.pick (.tmp 10) (.const (.bool true)) (.tmp 22)),zG 4 23]
instance : Live z6e := ⟨[2,3]⟩
def t_k102 : SC :=
 (.seq (.ops false z6f) (.seq (.ops false z6e) .ret))
theorem it_k102 : FnIs Tryz.prog 102 24 [.tmp 4] t_k102 := ⟨Tryz.f102, _, Tryz.func102, rfl, rfl, rfl, rfl, by kernel_rfl⟩

def zfu : List SOp := [zO 2 (.assign (.const (.int .i64 0)))]
instance : Live zfu := ⟨[0]⟩
def zft : List SOp := [zM 5 0,zO 6 (.call ⟨.builtin .len,#[.tmp 5],#[22]⟩),zO 7 (.move (.const (.int .i64 0)))]
instance : Live zft := ⟨[0]⟩
def zfs : List SOp := [zO 8 (.binOp .lss 3 (.tmp 7) (.tmp 6) 3)]
instance : Live zfs := ⟨[0,5,6,7]⟩
def zfr : List SOp := [zM 9 7,zI 10 22 5 7,zL 11 62 10,zO 4 (.alloc 62),zG 3 9,⟨none,.store 62 (.tmp 4) (.tmp 11),none⟩]
instance : Live zfr := ⟨[0,5,6,7]⟩
def zfq : List SOp := [zL 12 62 4,zO 13 (.call ⟨.value (.func 101),#[.tmp 12],#[62]⟩),zO 14 (.binOp .neq 32 (.tmp 13) (.const (.int .i64 0)) 32),zM 15 14,⟨some 16,.move (.tmp 3),some ((some 15),false)⟩,⟨some 17,.binOp .gtr 3 (.tmp 16) (.const (.int .i64 0)) 3,some ((some 15),false)⟩,⟨some 18,.move (.tmp 17),some ((some 15),false)⟩,⟨some 19,.move (.tmp 0),some ((some 18),true)⟩,⟨some 20,.move (.tmp 3),some ((some 18),true)⟩,⟨some 21,.binOp .sub 3 (.tmp 20) (.const (.int .i64 1)) 3,some ((some 18),true)⟩,⟨some 22,.indexAddr 22 (.tmp 19) (.tmp 21),some ((some 18),true)⟩,⟨some 23,.fieldAddr 62 (.tmp 22) 0,some ((some 18),true)⟩,⟨some 24,.load 41 (.tmp 23),some ((some 18),true)⟩,⟨some 25,.fieldAddr 62 (.tmp 4) 0,some ((some 18),true)⟩,⟨some 26,.load 41 (.tmp 25),some ((some 18),true)⟩,⟨some 27,.call ⟨.value (.func 102),#[.tmp 24,.tmp 26],#[41,41]⟩,some ((some 18),true)⟩,⟨some 28,.unOp .not 4 (.tmp 27),some ((some 18),true)⟩,⟨some 29,.pick (.tmp 18) (.tmp 28) (.const (.bool false)),some ((some 15),false)⟩,zO 30 (.pick (.tmp 15) (.const (.bool true)) (.tmp 29))]
instance : Live zfq := ⟨[0,3,4,5,6,7]⟩
def zfp : List SOp := [zO 2 (.assign (.const (.int .i64 1)))]
instance : Live zfp := ⟨[]⟩
def zfo : List SOp := [zO 31 (.binOp .add 3 (.tmp 7) (.const (.int .i64 1)) 3),zM 7 31]
instance : Live zfo := ⟨[0,5,6,7]⟩
def zfn : List SOp := [zO 2 (.assign (.const (.int .i64 0)))]
instance : Live zfn := ⟨[]⟩
def qs5 : SC :=
 (.seq (.ops false zfs) (.seq (.cond (.tmp 8) .skip (.exit 0)) (.seq (.block 1 (.seq (.ops false zfr) (.seq (.ops true zfq) (.cond (.tmp 30) (.seq (.ops false zfp) .ret) .skip)))) (.ops false zfo))))
def t_k53 : SC :=
 (.seq (.ops false zfu) (.seq (.seq (.ops false zft) (.block 0 (.loop qs5))) (.seq (.ops false zfn) .ret)))
theorem it_k53 : FnIs Tryz.prog 53 32 [.tmp 2] t_k53 := ⟨Tryz.f53, _, Tryz.func53, rfl, rfl, rfl, rfl, by kernel_rfl⟩

def z4u : List SOp := [zO 1 (.box 41 (.tmp 0)),zO 2 (.assign (.const (.bool false)))]
instance : Live z4u := ⟨[0]⟩
def z4t : List SOp := [zF 3 41 1 0,zL 4 3 3,zO 5 (.binOp .geq 3 (.tmp 4) (.const (.int .i64 0)) 3),zM 6 5,⟨some 7,.fieldAddr 41 (.tmp 1) 0,some ((some 6),true)⟩,⟨some 8,.load 3 (.tmp 7),some ((some 6),true)⟩,⟨some 9,.binOp .lss 3 (.tmp 8) (.const (.int .i64 16)) 3,some ((some 6),true)⟩,zO 10 (.pick (.tmp 6) (.tmp 9) (.const (.bool false))),zM 11 10,⟨some 12,.fieldAddr 41 (.tmp 1) 1,some ((some 11),true)⟩,⟨some 13,.load 3 (.tmp 12),some ((some 11),true)⟩,⟨some 14,.binOp .geq 3 (.tmp 13) (.const (.int .i64 1)) 3,some ((some 11),true)⟩,zO 15 (.pick (.tmp 11) (.tmp 14) (.const (.bool false))),zM 16 15,⟨some 17,.fieldAddr 41 (.tmp 1) 1,some ((some 16),true)⟩,⟨some 18,.load 3 (.tmp 17),some ((some 16),true)⟩,⟨some 19,.binOp .leq 3 (.tmp 18) (.const (.int .i64 1000000000)) 3,some ((some 16),true)⟩,zO 20 (.pick (.tmp 16) (.tmp 19) (.const (.bool false))),zG 2 20]
instance : Live z4t := ⟨[1]⟩
def t_k111 : SC :=
 (.seq (.ops false z4u) (.seq (.ops false z4t) .ret))
theorem it_k111 : FnIs Tryz.prog 111 21 [.tmp 2] t_k111 := ⟨Tryz.f111, _, Tryz.func111, rfl, rfl, rfl, rfl, by kernel_rfl⟩

def zdl : List SOp := [zO 1 (.box 26 (.tmp 0)),zO 2 (.assign (.const (.bool false)))]
instance : Live zdl := ⟨[0]⟩
def zdk : List SOp := [zL 3 26 1,zL 4 26 1,zO 5 (.call ⟨.value (.func 117),#[.tmp 4],#[26]⟩),zO 6 (.call ⟨.value (.func 50),#[.tmp 3,.tmp 5],#[26,26]⟩),zG 2 6]
instance : Live zdk := ⟨[1]⟩
def t_k68 : SC :=
 (.seq (.ops false zdl) (.seq (.ops true zdk) .ret))
theorem it_k68 : FnIs Tryz.prog 68 7 [.tmp 2] t_k68 := ⟨Tryz.f68, _, Tryz.func68, rfl, rfl, rfl, rfl, by kernel_rfl⟩

theorem hook_cmp {P : Program} {f : FuncId} {fn : Func} (hf : P.funcs[f]? = some fn) (h1 : (fn.name = "runtime.NumGoroutine") = False) (h2 : (fn.body = none) = True) (h3 : Extern.findNext fn = none) (h4 : Extern.find fn = some Extern.BytealgCompare.compare) {s : AS} {x y : Operand} {ts : Array TypeId} {a b : ByteArray} (hx : ev s.T x = .str a) (hy : ev s.T y = .str b) :
 Hook P s (.call ⟨.value (.func f), #[x, y], ts⟩) (fun v M' => M' = s.M ∧ v = .int .i64 (q93 a b)) := by
 intro n B G act w hR o ho K Q hK
 have q1 := hR.ev x
 have q2 := hR.ev y
 rw [hx] at q1
 rw [hy] at q2
 generalize hxv : act.eval x = xv at q1
 generalize hyv : act.eval y = yv at q2
 cases q1
 cases q2
 have hrun : (execOp act.eval o).run P w = .ok (.value (.int .i64 (q93 a b))) w := by
  unfold execOp
  rw [ho]
  have hc := Go.Lib.run_compareString (P := P) a b w
  rw [qb2] at hc
  have hf0 : act.eval (.func f) = .func (.func f) #[] #[] := rfl
  simp [resolve, Deferred.ofValue, invoke, callFunc, hf, hf0, h1, h2, h3, h4, hxv, hyv, hc, Result.andThen, q93, bs]
 unfold Oper.wp
 rw [hrun]
 exact hK (.int .i64 (q93 a b)) _ s.M w G ⟨rfl, rfl⟩ (.refl G w) hR (.int _ _)
theorem ev_k159 (a b : ByteArray) : Ev (En Tryz.prog rfl).P 159 [.str a, .str b] (.ret (.int .i64 (q93 a b))) := by
 refine Ev.of_body it_k159 (by simp) (Run.start ?_)
 unfold t_k159
 (have hF := True.intro; refine q01 (k:=?_); clear hF)
 refine q4j (hook_cmp (f := 173) (fn := Tryz.f173) Tryz.func173 (eq_false (by decide)) (eq_true rfl) rfl rfl rfl rfl) ?_
 rintro v M' ⟨rfl, rfl⟩
 dsimp only [AS.put]
 (have hF := True.intro; refine q01 (k:=?_); clear hF)
 exact Fin.tmp' rfl rfl
theorem ev_k138 (a b : ByteArray) : Ev (En Tryz.prog rfl).P 138 [.str a, .str b] (.ret (.int .i64 (q93 a b))) := by
 refine Ev.of_body it_k138 (by simp) (Run.start ?_)
 unfold t_k138
 (have hF := True.intro; refine q01 (k:=?_); clear hF)
 refine q00 [.str a, .str b] (he := ev_k159 a b) (k:=?_)
 (have hF := True.intro; refine q01 (k:=?_); clear hF)
 exact Fin.tmp' rfl rfl
theorem qhg (a b : Rec) (ha : wt a.past ≤ 50000000) (hb : wt b.past ≤ 50000000) : Ev (En Tryz.prog rfl).P 106 [q4i a, q4i b] (.ret (.int .i64 (q3s a b))) := by
 refine Ev.of_body it_k106 (by simp) (Run.start ?_)
 unfold t_k106 q4i q3s
 have c1 := ev_k138 a.sku b.sku
 have c2 := zkj a.past b.past ha hb
 generalize q93 a.sku b.sku = v at c1 ⊢
 (have hF := True.intro; refine q01 (k:=?_); clear hF)
 refine q00 [.str a.sku, .str b.sku] (he := c1) (k:=?_)
 by_cases h : v = 0
 ·rw [if_pos h]
  (have hF := @h; refine q01 (k:=?_); clear hF)
  refine q00 [q0g a.past, q0g b.past] (he := c2) (k:=?_)
  (have hF := True.intro; refine q01 (k:=?_); clear hF)
  exact Fin.tmp' rfl rfl
 ·rw [if_neg h]
  (have hF := True.intro; refine q01 (k:=?_); clear hF)
  exact Fin.tmp' rfl rfl
theorem qol (p : Pst) : qq8 p (q18 p) = q1e p := by
 refine qaq ?_
 rw [q3g]
 constructor
 ·intro h
  have : ∀ a b : Pst, a.vec = b.vec → a.cloud = b.cloud → a = b := fun a b u v => by cases a; cases b; simp at u v; rw [u, v]
  have h' := of_decide_eq_true h
  exact (this _ _ h'.1 h'.2).symm
 ·intro h
  have h' : q18 p = p := h
  rw [h']
  exact qa7 ⟨rfl, rfl⟩
theorem ev_k68 (p : Pst) (hw : wt p ≤ 30000000) : Ev (En Tryz.prog rfl).P 68 [q0g p] (.ret (.bool (q1e p))) := by
 have c1 := qhf p (by omega)
 have w := q5w p
 have c2 := zk7 p (q18 p) (by unfold wt at *; omega) (by unfold wt at *; omega)
 rw [qol] at c2
 refine Ev.of_body it_k68 (by simp) (Run.start ?_)
 unfold t_k68 q0g
 (have hF := True.intro; refine q01 (k:=?_); clear hF)
 refine q00 [q0g p] (he := c1) (k:=?_)
 (have hF := True.intro; refine q01 (k:=?_); clear hF)
 refine q00 [q0g p, q0g (q18 p)] (he := c2) (k:=?_)
 (have hF := True.intro; refine q01 (k:=?_); clear hF)
 exact Fin.tmp' rfl rfl
theorem q8s (s : ByteArray) : (s = (⟨#[]⟩ : ByteArray)) = (s.size = 0) := propext q52
theorem ev_k105 (r : Rec) (hw : wt r.past ≤ 40000000) : Ev (En Tryz.prog rfl).P 105 [q4i r] (.ret (.int .i64 (q2o r))) := by
 refine Ev.of_body it_k105 (by simp) (Run.start ?_)
 unfold t_k105 q4i q2o
 have c1 := qqx r.sku
 have c2 := qow r.past hw
 have c3 := z7l r.past (by omega)
 have e := q8s r.sku
 generalize q7b r.sku = v1 at c1 ⊢
 generalize q1e r.past = v2 at c2 ⊢
 generalize q3x r.past = v3 at c3 ⊢
 have tail : ∀ (X : Prop), X → X := fun _ x => x
 by_cases h0 : r.sku.size = 0
 ·have h0' : (r.sku.size = 0) = True := eq_true h0
  simp only [h0', not_true_eq_false, false_and, if_false]
  rw [h0'] at e
  (have hF := (aI @e (aI @decide_true @Bool.not_true)); refine q01 (k:=?_); clear hF)
  refine q00 [q0g r.past] (he := c2) (k:=?_)
  cases v2
  ·(have hF := True.intro; refine q01 (k:=?_); clear hF)
   exact Fin.tmp' rfl rfl
  ·(have hF := True.intro; refine q01 (k:=?_); clear hF)
   refine q00 [q0g r.past] (he := c3) (k:=?_)
   by_cases h3 : v3 = 0
   ·(have hF := @h3; refine q01 (k:=?_); clear hF)
    simp only [h3, or_true, if_true]
    exact Fin.tmp' rfl rfl
   ·(have hF := @h3; refine q01 (k:=?_); clear hF)
    simp only [h3, reduceCtorEq, or_false, if_false]
    exact Fin.tmp' rfl rfl
 ·have h0' : (r.sku.size = 0) = False := eq_false h0
  rw [h0'] at e
  simp only [h0', not_false_eq_true, true_and]
  (have hF := (aI @e (aI @decide_false @Bool.not_false)); refine q01 (k:=?_); clear hF)
  refine q00 [.str r.sku] (he := c1) (k:=?_)
  cases v1
  ·(have hF := True.intro; refine q01 (k:=?_); clear hF)
   exact Fin.tmp' rfl rfl
  ·(have hF := True.intro; refine q01 (k:=?_); clear hF)
   refine q00 [q0g r.past] (he := c2) (k:=?_)
   cases v2
   ·(have hF := True.intro; refine q01 (k:=?_); clear hF)
    exact Fin.tmp' rfl rfl
   ·(have hF := True.intro; refine q01 (k:=?_); clear hF)
    refine q00 [q0g r.past] (he := c3) (k:=?_)
    by_cases h3 : v3 = 0
    ·(have hF := @h3; refine q01 (k:=?_); clear hF)
     simp only [h3, or_true, if_true, reduceCtorEq, if_false]
     exact Fin.tmp' rfl rfl
    ·(have hF := @h3; refine q01 (k:=?_); clear hF)
     simp only [h3, reduceCtorEq, or_false, if_false]
     exact Fin.tmp' rfl rfl
theorem qfc {l : List Rec} {i : Nat} {r : Rec} (hr : l[i]? = some r) (hI : (∀ (j : Nat) q, j < i → l[j]? = some q → q2o q = 0) ∧ ∀ (j : Nat) a b, j + 1 < i → l[j]? = some a → l[j + 1]? = some b → q3s a b < 0) (h0 : q2o r = 0)
 (h1 : ∀ q, 0 < i → l[i - 1]? = some q → q3s q r < 0) : (∀ (j : Nat) q, j < i + 1 → l[j]? = some q → q2o q = 0) ∧ ∀ (j : Nat) a b, j + 1 < i + 1 → l[j]? = some a → l[j + 1]? = some b → q3s a b < 0 := by
 refine ⟨fun j q hj hq => ?_, fun j a b hj ha hb => ?_⟩
 ·by_cases e : j = i
  ·subst e; rw [hr] at hq; cases hq; exact h0
  ·exact hI.1 j q (by omega) hq
 ·by_cases e : j + 1 = i
  ·subst e
   rw [hr] at hb
   cases hb
   exact h1 a (by omega) (by simpa using ha)
  ·exact hI.2 j a b (by omega) ha hb
theorem q33 (l : List Rec) (hl : l.length ≤ 1000000000) (hw : ∀ r ∈ l, wt r.past ≤ 40000000) : Ev (En Tryz.prog rfl).P 55 [.sl 3 (q08 l)] (.ret (.int .i64 (if q3h l = true then 0 else 1))) := by
 refine Ev.of_body it_k55 (by simp) (Run.start ?_)
 unfold t_k55
 have e1 := q0m l
 have hS := qps
 (have hF := @e1; refine q01 (k:=?_); clear hF)
 refine Run.while (σ := Nat) (fun i => ⟨tms [(0, .sl 3 (q08 l)), (5, .sl 3 (q08 l)), (6, .int .i64 (l.length : Int)), (7, .int .i64 (i : Int))], mms []⟩)
  (fun i => i ≤ l.length ∧ (∀ (j : Nat) q, j < i → l[j]? = some q → q2o q = 0) ∧ ∀ (j : Nat) a b, j + 1 < i → l[j]? = some a → l[j + 1]? = some b → q3s a b < 0) (fun i => l.length - i) 0 (have hW := @q04; q0h) ⟨Nat.zero_le _, fun j q hj => absurd hj (Nat.not_lt_zero _), fun j a b hj => by omega⟩ ?_
 rintro i ⟨hi, hI⟩
 unfold qs4
 by_cases hlt : i < l.length
 ·obtain ⟨r, hr⟩ : ∃ r, l[i]? = some r := ⟨l[i], by simp [hlt]⟩
  have g1 := q0x hr
  have hwr := hw r (List.mem_of_getElem? hr)
  have c1 := ev_k105 r (by omega)
  have hst := fun h0 h1 => qfc hr hI h0 h1
  have hbad : q2o r ≠ 0 → ¬ q3t l := fun h hf => h (hf.1 i r hr)
  generalize q2o r = v at c1 hst hbad
  (have hF := (aI @e1 @g1); refine q01 (k:=?_); clear hF)
  refine q00 [q4i r] (he := c1) (k:=?_)
  by_cases hv : v = 0
  ·by_cases h0 : i = 0
   ·have hst := hst hv (fun q hq => by omega)
    have h0' : (i : Int) = 0 := by omega
    (have hF := (aI (aI @e1 @g1) (aI @hv @h0')); refine q01 (k:=?_); clear hF)
    have hi1 : ((0 : Int) + 1) = ((i + 1 : Nat) : Int) := by omega
    (refine Fin.nextW (i + 1) ?_ (have hW := (aI @q04 @hi1); q0h); (try dsimp only))
    exact ⟨⟨hlt, hst⟩, by omega⟩
   ·obtain ⟨q, hq⟩ : ∃ q, l[i - 1]? = some q := ⟨l[i - 1]'(by omega), by simp [show i - 1 < l.length by omega]⟩
    have g2 := q0x hq
    have hpw : IntKind.i64.wrap ((i : Int) - 1) = ((i - 1 : Nat) : Int) := by rw [q2l (by omega)]; omega
    have hwq := hw q (List.mem_of_getElem? hq)
    have c2 := qhg q r (by omega) (by omega)
    have hst := hst hv
    have hbad2 : ¬ q3s q r < 0 → ¬ q3t l := fun h hf => h (hf.2 (i - 1) q r hq (by rw [show i - 1 + 1 = i by omega]; exact hr))
    have hst : q3s q r < 0 → _ := fun h => hst (fun q' _ hq' => by rw [hq] at hq'; cases hq'; exact h)
    generalize q3s q r = u at c2 hst hbad2
    (have hF := (aI (aI @e1 @g1) (aI @g2 (aI @hv @hpw))); refine q01 (k:=?_); clear hF)
    refine q00 [q4i q, q4i r] (he := c2) (k:=?_)
    by_cases hu : u < 0
    ·have hst := hst hu
     (have hF := (aI @e1 @g1); refine q01 (k:=?_); clear hF)
     (refine Fin.nextW (i + 1) ?_ (have hW := @q04; q0h); (try dsimp only))
     exact ⟨⟨hlt, hst⟩, by omega⟩
    ·rw [q5c (hbad2 hu)]
     (have hF := (aI @e1 @g1); refine q01 (k:=?_); clear hF)
     exact Fin.tmp' rfl rfl
  ·rw [q5c (hbad hv)]
   (have hF := (aI @e1 (aI @g1 @hv)); refine q01 (k:=?_); clear hF)
   exact Fin.tmp' rfl rfl
 ·rw [q2j ⟨fun j q hq => hI.1 j q (by
   rcases Nat.lt_or_ge j l.length with h | h
   ·omega
   ·rw [List.getElem?_eq_none h] at hq; cases hq) hq, fun j a b ha hb => hI.2 j a b (by
   rcases Nat.lt_or_ge (j + 1) l.length with h | h
   ·omega
   ·rw [List.getElem?_eq_none h] at hb; cases hb) ha hb⟩]
  (have hF := @e1; refine q01 (k:=?_); clear hF)
  exact Fin.tmp' rfl rfl
theorem ev_k55 (l : List Rec) (hw : q6e l ≤ 40000000) : Ev (En Tryz.prog rfl).P 55 [.sl 3 (q08 l)] (.ret (.int .i64 (if q3h l = true then 0 else 1))) := by
 have hlw := q7w l
 exact q33 l (by omega) (fun r hr => by have := qi4 hr; unfold wtK at this; omega)

end Go.Proofs.YthejoeiecenjkaaGreat.Avm
