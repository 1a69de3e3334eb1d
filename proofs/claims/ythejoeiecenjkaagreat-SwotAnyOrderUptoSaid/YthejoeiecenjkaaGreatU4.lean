/- Part 4 of the proof: lemmas. -/
import Derived.Test.YthejoeiecenjkaaGreatU3
import Derived.Test.YthejoeiecenjkaaGreatProg
import Derived.KernelRfl
import Derived.Lib.Bytealg
import Derived.Sort.Walk0
import Derived.Shelf.SlSortCmp.Insertion
import Derived.Test.YthejoeiecenjkaaGreatRows
import Derived.WalkKit
import Derived.ProofKit
import Derived.OpenShut
import Derived.JoinedCond
import Derived.Carry
set_option maxRecDepth 100000
set_option maxHeartbeats 4000000
set_option linter.unusedVariables false
set_option linter.unusedSimpArgs false
set_option linter.unusedSectionVars false
set_option linter.defProp false
namespace Go.Proofs.YthejoeiecenjkaaGreat.Avm
open Go.Proofs
def q8a (a b : Int) : Int := if a < b then -1 else if b < a then 1 else 0
theorem zr1 (a : Int) : Ev (En Tryz.prog rfl).P 167 [.int .i64 a] (.ret (.bool false)) := by
 refine Ev.of_body it_k167 (by simp) (Run.start ?_)
 unfold t_k167
 (have hF := True.intro; refine q01 (k:=?_); clear hF)
 all_goals first | exact Fin.tmp' rfl rfl | trace_state
theorem qiz (a b : Int) : Ev (En Tryz.prog rfl).P 149 [.int .i64 a, .int .i64 b] (.ret (.int .i64 (q8a a b))) := by
 refine Ev.of_body it_k149 (by simp) (Run.start ?_)
 unfold t_k149
 (have hF := True.intro; refine q01 (k:=?_); clear hF)
 refine q00 [.int .i64 a] (he := zr1 a) (k:=?_)
 (have hF := True.intro; refine q01 (k:=?_); clear hF)
 refine q00 [.int .i64 b] (he := zr1 b) (k:=?_)
 (focus (have hF := True.intro; (repeat' (first | refine go1 (k:=?_) | with_reducible refine Ny.of ?_ ?_ | (refine Hyp.of ?_; intro hc; (try simp only [hc]); (try simp only [Bh] at hc)))); all_goals clear hF))
 ·rw [show q8a a b = -1 from if_pos hc]
  exact Fin.tmp' rfl rfl
 ·rename_i hc1
  rw [show q8a a b = 1 by unfold q8a; rw [if_neg hc1, if_pos hc]]
  exact Fin.tmp' rfl rfl
 ·rename_i hc1
  rw [show q8a a b = 0 by unfold q8a; rw [if_neg hc1, if_neg hc]]
  exact Fin.tmp' rfl rfl
def orI : List Int → Int
 | [] => 0
 | x :: l => if x = 0 then orI l else x
theorem orI_drop {l : List Int} {i : Nat} {x : Int} (h : l[i]? = some x) : orI (l.drop i) = if x = 0 then orI (l.drop (i + 1)) else x := by
 obtain ⟨hi, hx⟩ := List.getElem?_eq_some_iff.1 h
 rw [List.drop_eq_getElem_cons hi, hx]
 rfl
theorem ev_k152 (l : List Int) (hl : l.length ≤ 1000000000) : Ev (En Tryz.prog rfl).P 152 [.sl 1 (q04 l)] (.ret (.int .i64 (orI l))) := by
 refine Ev.of_body it_k152 (by simp) (Run.start ?_)
 unfold t_k152
 have e1 := q0e l
 (have hF := @e1; refine q01 (k:=?_); clear hF)
 refine Run.while (σ := Nat) (fun i => ⟨tms [(3, .int .i64 0), (6, .sl 1 (q04 l)), (7, .int .i64 (l.length : Int)), (8, .int .i64 (i : Int))], mms []⟩) (fun i => i ≤ l.length ∧ orI (l.drop i) = orI l) (fun i => l.length - i) 0 (have hW := @q03; q0g) ⟨Nat.zero_le _, by rw [List.drop_zero]⟩ ?_
 rintro i ⟨hi, hp⟩
 unfold qkh
 by_cases hlt : i < l.length
 ·obtain ⟨x, hx⟩ : ∃ x, l[i]? = some x := ⟨l[i], by simp [hlt]⟩
  have g1 := q0r hx
  have hd := orI_drop hx
  (focus (have hF := (aI @e1 @g1); (repeat' (first | refine go1 (k:=?_) | with_reducible refine Ny.of ?_ ?_ | (refine Hyp.of ?_; intro hc; (try simp only [hc]); (try simp only [Bh] at hc)))); all_goals clear hF))
  ·rw [if_neg hc] at hd
   rw [← hp, hd]
   exact Fin.tmp' rfl rfl
  ·rw [if_pos hc] at hd
   (refine Fin.nextW (i + 1) ?_ (have hW := @q03; q0g); (try dsimp only))
   exact ⟨⟨hlt, hd.symm.trans hp⟩, by omega⟩
 ·rw [← hp, List.drop_eq_nil_of_le (by omega)]
  (have hF := @e1; refine q01 (k:=?_); clear hF)
  exact Fin.tmp' rfl rfl
def cmpS (s t : Sn) : Int := orI [q8a s.1 t.1, q8a s.2.1 t.2.1, q8a s.2.2 t.2.2]
theorem ev_k151 (s t : Sn) : Ev (En Tryz.prog rfl).P 151 [qsy s, qsy t] (.ret (.int .i64 (cmpS s t))) := by
 refine Ev.of_body it_k151 (by simp) (Run.start ?_)
 unfold t_k151 qsy
 (have hF := True.intro; refine q01 (k:=?_); clear hF)
 refine q00 [.int .i64 s.1, .int .i64 t.1] (he := qiz _ _) (k:=?_)
 (have hF := True.intro; refine q01 (k:=?_); clear hF)
 refine q00 [.int .i64 s.2.1, .int .i64 t.2.1] (he := qiz _ _) (k:=?_)
 (have hF := True.intro; refine q01 (k:=?_); clear hF)
 refine q00 [.int .i64 s.2.2, .int .i64 t.2.2] (he := qiz _ _) (k:=?_)
 (have hF := True.intro; refine q01 (k:=?_); clear hF)
 refine q00 [.sl 1 (q04 [q8a s.1 t.1, q8a s.2.1 t.2.1, q8a s.2.2 t.2.2])] (he := ev_k152 _ (by simp)) (k:=?_)
 (have hF := True.intro; refine q01 (k:=?_); clear hF)
 exact Fin.tmp' rfl rfl
def qjo : List Sn → List Sn → Int
 | [], [] => 0
 | [], _ :: _ => -1
 | _ :: _, [] => 1
 | x :: l, y :: m => if cmpS x y = 0 then qjo l m else cmpS x y
theorem q98 (a b : List Sn) (ha : a.length ≤ 1000000000) (hb : b.length ≤ 1000000000) : Ev (En Tryz.prog rfl).P 150 [.sl 3 (q0c a), .sl 3 (q0c b), .fn 151 []] (.ret (.int .i64 (qjo a b))) := by
 refine Ev.of_body it_k150 (by simp) (Run.start ?_)
 unfold t_k150
 have e1 := q1n a
 have e2 := q1n b
 (have hF := (aI @e1 @e2); refine q01 (k:=?_); clear hF)
 refine Run.while (σ := Nat) (fun i => ⟨tms [(0, .sl 3 (q0c a)), (1, .sl 3 (q0c b)), (2, .fn 151 []), (11, .sl 3 (q0c a)), (12, .int .i64 (a.length : Int)), (13, .int .i64 (i : Int))], mms []⟩) (fun i => i ≤ a.length ∧ i ≤ b.length ∧ qjo (a.drop i) (b.drop i) = qjo a b) (fun i => a.length - i) 0 (have hW := @q05; q0g) ⟨Nat.zero_le _, Nat.zero_le _, by rw [List.drop_zero, List.drop_zero]⟩ ?_
 rintro i ⟨hi, hi2, hp⟩
 unfold qki
 by_cases hlt : i < a.length
 ·obtain ⟨x, hx⟩ : ∃ x, a[i]? = some x := ⟨a[i], by simp [hlt]⟩
  have g1 := q2o hx
  obtain ⟨_, hxa⟩ := List.getElem?_eq_some_iff.1 hx
  by_cases hlb : i < b.length
  ·obtain ⟨y, hy⟩ : ∃ y, b[i]? = some y := ⟨b[i], by simp [hlb]⟩
   have g2 := q2o hy
   obtain ⟨_, hyb⟩ := List.getElem?_eq_some_iff.1 hy
   have hd : qjo a b = if cmpS x y = 0 then qjo (a.drop (i + 1)) (b.drop (i + 1)) else cmpS x y := by
    rw [← hp, List.drop_eq_getElem_cons hlt, List.drop_eq_getElem_cons hlb, hxa, hyb]
    rfl
   unfold qsy at g1 g2
   (have hF := (aI (aI @e1 @e2) (aI @g1 @g2)); refine q01 (k:=?_); clear hF)
   refine q00 [.agg [.int .i64 x.1, .int .i64 x.2.1, .int .i64 x.2.2], .agg [.int .i64 y.1, .int .i64 y.2.1, .int .i64 y.2.2]] (he := ev_k151 x y) (k:=?_)
   (focus (have hF := (aI (aI @e1 @e2) (aI @g1 @g2)); (repeat' (first | refine go1 (k:=?_) | with_reducible refine Ny.of ?_ ?_ | (refine Hyp.of ?_; intro hc; (try simp only [hc]); (try simp only [Bh] at hc)))); all_goals clear hF))
   ·rw [if_neg hc] at hd
    rw [hd]
    exact Fin.tmp' rfl rfl
   ·rw [if_pos hc] at hd
    (refine Fin.nextW (i + 1) ?_ (have hW := @q05; q0g); (try dsimp only))
    exact ⟨⟨hlt, hlb, hd.symm⟩, by omega⟩
  ·have hd : qjo a b = 1 := by
    rw [← hp, List.drop_eq_getElem_cons hlt, List.drop_eq_nil_of_le (show b.length ≤ i by omega)]
    rfl
   rw [hd]
   (have hF := (aI @e1 (aI @e2 @g1)); refine q01 (k:=?_); clear hF)
   exact Fin.tmp' rfl rfl
 ·have hia : i = a.length := by omega
  (focus (have hF := (aI @e1 @e2); (repeat' (first | refine go1 (k:=?_) | with_reducible refine Ny.of ?_ ?_ | (refine Hyp.of ?_; intro hc; (try simp only [hc]); (try simp only [Bh] at hc)))); all_goals clear hF))
  ·have hd : qjo a b = -1 := by
    rw [← hp, List.drop_eq_nil_of_le (show a.length ≤ i by omega), List.drop_eq_getElem_cons (show i < b.length by omega)]
    rfl
   rw [hd]
   exact Fin.tmp' rfl rfl
  ·have hd : qjo a b = 0 := by
    rw [← hp, List.drop_eq_nil_of_le (show a.length ≤ i by omega), List.drop_eq_nil_of_le (show b.length ≤ i by omega)]
    rfl
   rw [hd]
   exact Fin.tmp' rfl rfl

def q67 : List Int → List Int → Int
 | [], [] => 0
 | [], _ :: _ => -1
 | _ :: _, [] => 1
 | x :: l, y :: m => if x < y then -1 else if y < x then 1 else q67 l m
theorem qbf : ∀ l m : List Int, q67 l m = -1 ∨ q67 l m = 0 ∨ q67 l m = 1
 | [], [] => .inr (.inl rfl)
 | [], _ :: _ => .inl rfl
 | _ :: _, [] => .inr (.inr rfl)
 | x :: l, y :: m => by
  unfold q67
  split
  ·exact .inl rfl
  ·split
   ·exact .inr (.inr rfl)
   ·exact qbf l m
theorem qim : ∀ l m : List Int, q67 m l = - q67 l m
 | [], [] => rfl
 | [], _ :: _ => rfl
 | _ :: _, [] => rfl
 | x :: l, y :: m => by
  have ih := qim l m
  unfold q67
  by_cases h1 : x < y
  ·rw [if_neg (show ¬ y < x by omega), if_pos h1, if_pos h1]; rfl
  ·by_cases h2 : y < x
   ·rw [if_pos h2, if_neg h1, if_pos h2]
   ·rw [if_neg h1, if_neg h2, if_neg h2, if_neg h1, ih]
theorem qet : ∀ l : List Int, q67 l l = 0
 | [] => rfl
 | x :: l => by unfold q67; rw [if_neg (by omega), if_neg (by omega), qet l]
theorem qsa : ∀ {l m : List Int}, q67 l m = 0 → l = m
 | [], [], _ => rfl
 | [], _ :: _, h => by simp [q67] at h
 | _ :: _, [], h => by simp [q67] at h
 | x :: l, y :: m, h => by
  unfold q67 at h
  by_cases h1 : x < y
  ·rw [if_pos h1] at h; simp at h
  ·by_cases h2 : y < x
   ·rw [if_neg h1, if_pos h2] at h; simp at h
   ·rw [if_neg h1, if_neg h2] at h
    rw [qsa h, show x = y by omega]
theorem qbe : ∀ {l m k : List Int}, q67 l m ≤ 0 → q67 m k ≤ 0 → q67 l k ≤ 0
 | [], _, [], _, _ => by simp [q67]
 | [], _, _ :: _, _, _ => by simp [q67]
 | _ :: _, [], _, h, _ => by simp [q67] at h
 | _ :: _, _ :: _, [], _, h => by simp [q67] at h
 | x :: l, y :: m, z :: k, h, h' => by
  unfold q67 at h h' ⊢
  by_cases a1 : x < y
  ·by_cases b1 : y < z
   ·rw [if_pos (by omega)]; omega
   ·by_cases b2 : z < y
    ·rw [if_neg b1, if_pos b2] at h'; omega
    ·rw [if_pos (by omega)]; omega
  ·by_cases a2 : y < x
   ·rw [if_neg a1, if_pos a2] at h; omega
   ·rw [if_neg a1, if_neg a2] at h
    by_cases b1 : y < z
    ·rw [if_pos (by omega)]; omega
    ·by_cases b2 : z < y
     ·rw [if_neg b1, if_pos b2] at h'; omega
     ·rw [if_neg b1, if_neg b2] at h'
      rw [if_neg (by omega), if_neg (by omega)]
      exact qbe h h'
theorem qin : ∀ (l : List Int) (c d : List Int), q67 (l ++ c) (l ++ d) = q67 c d
 | [], _, _ => rfl
 | x :: l, c, d => by
  show (if x < x then (-1 : Int) else if x < x then 1 else q67 (l ++ c) (l ++ d)) = _
  rw [if_neg (by omega), if_neg (by omega), qin l]
theorem qsb : ∀ (l m : List Int) (i : Nat) (x y : Int) (c d : List Int), l[i]? = some x → m[i]? = some y → (∀ j, j < i → l[j]? = m[j]?) → x ≠ y → q67 (l ++ c) (m ++ d) = q8a x y
 | [], _, _, _, _, _, _, h, _, _, _ => by simp at h
 | _ :: _, [], _, _, _, _, _, _, h, _, _ => by simp at h
 | a :: l, b :: m, 0, x, y, c, d, h1, h2, _, hn => by
  simp at h1 h2
  subst h1; subst h2
  show q67 (a :: (l ++ c)) (b :: (m ++ d)) = _
  unfold q67 q8a
  by_cases e1 : a < b
  ·rw [if_pos e1, if_pos e1]
  ·rw [if_neg e1, if_neg e1, if_pos (by omega), if_pos (by omega)]
 | a :: l, b :: m, i + 1, x, y, c, d, h1, h2, hj, hn => by
  have e := hj 0 (by omega)
  simp at e
  subst e
  show q67 (a :: (l ++ c)) (a :: (m ++ d)) = _
  unfold q67
  rw [if_neg (by omega), if_neg (by omega)]
  refine qsb l m i x y c d (by simpa using h1) (by simpa using h2) (fun j hjl => ?_) hn
  have := hj (j + 1) (by omega)
  simpa using this
def qg1 : List Sn → List Int
 | [] => []
 | s :: l => s.1 :: s.2.1 :: s.2.2 :: qg1 l
theorem qqh : ∀ {l m : List Sn}, qg1 l = qg1 m → l = m
 | [], [], _ => rfl
 | [], _ :: _, h => by simp [qg1] at h
 | _ :: _, [], h => by simp [qg1] at h
 | x :: l, y :: m, h => by
  simp only [qg1, List.cons.injEq] at h
  rw [qqh h.2.2.2, show x = y from Prod.ext h.1 (Prod.ext h.2.1 h.2.2.1)]
theorem qfi : ∀ l m : List Sn, q67 (qg1 l) (qg1 m) = qjo l m
 | [], [] => rfl
 | [], _ :: _ => rfl
 | _ :: _, [] => rfl
 | x :: l, y :: m => by
  have ih := qfi l m
  simp only [qg1, q67, qjo, cmpS, orI, q8a, ih]
  by_cases a1 : x.1 < y.1
  ·simp [a1]
  ·by_cases a2 : y.1 < x.1
   ·simp [a1, a2]
   ·by_cases b1 : x.2.1 < y.2.1
    ·simp [a1, a2, b1]
    ·by_cases b2 : y.2.1 < x.2.1
     ·simp [a1, a2, b1, b2]
     ·by_cases c1 : x.2.2 < y.2.2
      ·simp [a1, a2, b1, b2, c1]
      ·by_cases c2 : y.2.2 < x.2.2
       ·simp [a1, a2, b1, b2, c1, c2]
       ·simp [a1, a2, b1, b2, c1, c2]
def vv (p : Pst) (r : Nat) : Int := if r < p.vec.length then q1y p.vec r else 0
def qjw (p : Pst) : List Int := (List.range 16).map (vv p)
def qgq (p : Pst) : List Int := qjw p ++ qg1 p.cloud
def cmpP (p q : Pst) : Int := q67 (qgq (q1g p)) (qgq (q1g q))
theorem q4o (p : Pst) {r : Nat} (hr : r < 16) : (qjw p)[r]? = some (vv p r) := by
 unfold qjw
 rw [List.getElem?_map, List.getElem?_range hr]
 rfl
theorem qcv (p : Pst) : (qjw p).length = 16 := by simp [qjw]
theorem keyP_inj {p q : Pst} (hp : CanP p) (hq : CanP q) (h : qgq p = qgq q) : p = q := by
 have h1 : qjw p = qjw q := by
  have := congrArg (List.take 16) h
  unfold qgq at this
  rwa [List.take_left' (qcv p), List.take_left' (qcv q)] at this
 have h2 : p.cloud = q.cloud := by
  have := congrArg (List.drop 16) h
  unfold qgq at this
  rw [List.drop_left' (qcv p), List.drop_left' (qcv q)] at this
  exact qqh this
 refine hp.ext hq fun r hr n => ?_
 have e : vv p r = vv q r := by
  have a := q4o p hr
  rw [h1, q4o q hr] at a
  exact (Option.some.inj a).symm
 have k : ∀ z : Pst, 1 ≤ n → ((r < z.vec.length ∧ n ≤ q1y z.vec r) ↔ n ≤ vv z r) := fun z hn => by
  unfold vv
  by_cases hz : r < z.vec.length
  ·rw [if_pos hz]; exact ⟨fun h => h.2, fun h => ⟨hz, h⟩⟩
  ·rw [if_neg hz]; exact ⟨fun h => absurd h.1 hz, fun h => by omega⟩
 unfold inP
 rw [h2]
 constructor
 ·rintro ⟨a, b, c, d⟩
  refine ⟨a, b, c, d.imp (fun d => ?_) id⟩
  rw [k q b, ← e, ← k p b]; exact d
 ·rintro ⟨a, b, c, d⟩
  refine ⟨a, b, c, d.imp (fun d => ?_) id⟩
  rw [k p b, e, ← k q b]; exact d
theorem qqx {p q : Pst} : cmpP p q = 0 ↔ q1g p = q1g q := by
 constructor
 ·intro h
  exact keyP_inj (qay p) (qay q) (qsa h)
 ·intro h
  unfold cmpP
  rw [h, qet]

def qyl : List SOp := [zO 2 (.assign (.const (.bool false)))]
instance : Live qyl := ⟨[0]⟩
def qyk : List SOp := [zM 3 0,zO 4 (.binOp .leq 5 (.const (.int .u8 65)) (.tmp 3) 5),zM 5 4,⟨some 6,.move (.tmp 0),some ((some 5),true)⟩,⟨some 7,.binOp .leq 5 (.tmp 6) (.const (.int .u8 90)) 5,some ((some 5),true)⟩,zO 8 (.pick (.tmp 5) (.tmp 7) (.const (.bool false))),zG 2 8]
instance : Live qyk := ⟨[0]⟩
def t_k170 : SC :=
 (.seq (.ops false qyl) (.seq (.ops false qyk) .ret))
theorem it_k170 : FnIs Tryz.prog 170 9 [.tmp 2] t_k170 := ⟨Tryz.f170, _, Tryz.func170, rfl, rfl, rfl, rfl, by kernel_rfl⟩

def qyj : List SOp := [zO 2 (.assign (.const (.bool false)))]
instance : Live qyj := ⟨[0]⟩
def qyi : List SOp := [zM 3 0,zO 4 (.binOp .leq 5 (.const (.int .u8 48)) (.tmp 3) 5),zM 5 4,⟨some 6,.move (.tmp 0),some ((some 5),true)⟩,⟨some 7,.binOp .leq 5 (.tmp 6) (.const (.int .u8 57)) 5,some ((some 5),true)⟩,zO 8 (.pick (.tmp 5) (.tmp 7) (.const (.bool false))),zG 2 8]
instance : Live qyi := ⟨[0]⟩
def t_k171 : SC :=
 (.seq (.ops false qyj) (.seq (.ops false qyi) .ret))
theorem it_k171 : FnIs Tryz.prog 171 9 [.tmp 2] t_k171 := ⟨Tryz.f171, _, Tryz.func171, rfl, rfl, rfl, rfl, by kernel_rfl⟩

def qyh : List SOp := [zO 2 (.assign (.const (.bool false)))]
instance : Live qyh := ⟨[0]⟩
def qyg : List SOp := [zM 3 0,zO 4 (.binOp .eql 5 (.tmp 3) (.const (.int .u8 45)) 5),zM 5 4,⟨some 6,.move (.tmp 0),some ((some 5),false)⟩,⟨some 7,.binOp .eql 5 (.tmp 6) (.const (.int .u8 46)) 5,some ((some 5),false)⟩,zO 8 (.pick (.tmp 5) (.const (.bool true)) (.tmp 7)),zG 2 8]
instance : Live qyg := ⟨[0]⟩
def t_k172 : SC :=
 (.seq (.ops false qyh) (.seq (.ops false qyg) .ret))
theorem it_k172 : FnIs Tryz.prog 172 9 [.tmp 2] t_k172 := ⟨Tryz.f172, _, Tryz.func172, rfl, rfl, rfl, rfl, by kernel_rfl⟩

def z10 : List SOp := [zO 2 (.assign (.const (.int .i64 0))),zO 3 (.assign (.const (.int .i64 0)))]
instance : Live z10 := ⟨[0]⟩
def z0z : List SOp := [zM 6 0,zO 7 (.binOp .eql 9 (.tmp 6) (.const (.string ⟨#[]⟩)) 9)]
instance : Live z0z := ⟨[0]⟩
def z0y : List SOp := [zO 2 (.assign (.const (.int .i64 0))),zO 3 (.assign (.const (.int .i64 20)))]
instance : Live z0y := ⟨[]⟩
def z0x : List SOp := [zM 8 0,zO 9 (.call ⟨.builtin .len,#[.tmp 8],#[9]⟩),zO 10 (.binOp .gtr 3 (.tmp 9) (.const (.int .i64 24)) 3)]
instance : Live z0x := ⟨[0]⟩
def z0w : List SOp := [zO 2 (.assign (.const (.int .i64 0))),zO 3 (.assign (.const (.int .i64 21)))]
instance : Live z0w := ⟨[]⟩
def z0v : List SOp := [zM 11 0,zO 12 (.call ⟨.builtin .len,#[.tmp 11],#[9]⟩),zO 13 (.move (.const (.int .i64 0)))]
instance : Live z0v := ⟨[0]⟩
def z0u : List SOp := [zO 14 (.binOp .lss 3 (.tmp 13) (.tmp 12) 3)]
instance : Live z0u := ⟨[0,12,13]⟩
def z0t : List SOp := [zM 15 13,zG 4 15]
instance : Live z0t := ⟨[0,12,13]⟩
def z0s : List SOp := [zM 16 0,zM 17 4,zO 18 (.index 9 (.tmp 16) (.tmp 17)),zG 5 18]
instance : Live z0s := ⟨[0,4,12,13]⟩
def qmy : List SOp := [zM 19 5,zO 20 (.call ⟨.value (.func 170),#[.tmp 19],#[5]⟩),zM 21 20,⟨some 22,.move (.tmp 5),some ((some 21),false)⟩,⟨some 23,.call ⟨.value (.func 171),#[.tmp 22],#[5]⟩,some ((some 21),false)⟩,zO 24 (.pick (.tmp 21) (.const (.bool true)) (.tmp 23))]
instance : Live qmy := ⟨[0,4,5,12,13]⟩
def qmx : List SOp := [zM 25 5,zO 26 (.call ⟨.value (.func 172),#[.tmp 25],#[5]⟩),zO 27 (.unOp .not 4 (.tmp 26)),zM 28 27,⟨some 29,.move (.tmp 4),some ((some 28),false)⟩,⟨some 30,.binOp .eql 3 (.tmp 29) (.const (.int .i64 0)) 3,some ((some 28),false)⟩,zO 31 (.pick (.tmp 28) (.const (.bool true)) (.tmp 30)),zM 32 31,⟨some 33,.move (.tmp 4),some ((some 32),false)⟩,⟨some 34,.move (.tmp 0),some ((some 32),false)⟩,⟨some 35,.call ⟨.builtin .len,#[.tmp 34],#[9]⟩,some ((some 32),false)⟩,⟨some 36,.binOp .sub 3 (.tmp 35) (.const (.int .i64 1)) 3,some ((some 32),false)⟩,⟨some 37,.binOp .eql 3 (.tmp 33) (.tmp 36) 3,some ((some 32),false)⟩,zO 38 (.pick (.tmp 32) (.const (.bool true)) (.tmp 37)),zM 39 38,⟨some 40,.move (.tmp 0),some ((some 39),false)⟩,⟨some 41,.move (.tmp 4),some ((some 39),false)⟩,⟨some 42,.binOp .sub 3 (.tmp 41) (.const (.int .i64 1)) 3,some ((some 39),false)⟩,⟨some 43,.index 9 (.tmp 40) (.tmp 42),some ((some 39),false)⟩,⟨some 44,.call ⟨.value (.func 172),#[.tmp 43],#[5]⟩,some ((some 39),false)⟩,zO 45 (.pick (.tmp 39) (.const (.bool true)) (.tmp 44))]
instance : Live qmx := ⟨[0,4,5,12,13]⟩
def qmw : List SOp := [zM 46 4,zG 2 46,zO 3 (.assign (.const (.int .i64 22)))]
instance : Live qmw := ⟨[4]⟩
def qmv : List SOp := [zO 47 (.binOp .add 3 (.tmp 13) (.const (.int .i64 1)) 3),zM 13 47]
instance : Live qmv := ⟨[0,12,13]⟩
def qmu : List SOp := [zO 2 (.assign (.const (.int .i64 0))),zO 3 (.assign (.const (.int .i64 0)))]
instance : Live qmu := ⟨[]⟩
def qke : SC :=
 (.seq (.ops false z0u) (.seq (.cond (.tmp 14) .skip (.exit 0)) (.seq (.block 1 (.seq (.ops false z0t) (.seq (.ops false z0s) (.seq (.seq (.ops false qmy) (.cond (.tmp 24) (.exit 1) .skip)) (.seq (.ops false qmx) (.cond (.tmp 45) (.seq (.ops false qmw) .ret) .skip)))))) (.ops false qmv))))
def t_k158 : SC :=
 (.seq (.ops false z10) (.seq (.seq (.ops false z0z) (.cond (.tmp 7) (.seq (.ops false z0y) .ret) .skip)) (.seq (.seq (.ops false z0x) (.cond (.tmp 10) (.seq (.ops false z0w) .ret) .skip)) (.seq (.seq (.ops false z0v) (.block 0 (.loop qke))) (.seq (.ops false qmu) .ret)))))
theorem it_k158 : FnIs Tryz.prog 158 48 [.tmp 2, .tmp 3] t_k158 := ⟨Tryz.f158, _, Tryz.func158, rfl, rfl, rfl, rfl, by kernel_rfl⟩

def z3w : List SOp := [zO 2 (.assign (.const (.bool false)))]
instance : Live z3w := ⟨[0]⟩
def z3v : List SOp := [zM 6 0,zO 7 (.call ⟨.value (.func 158),#[.tmp 6],#[9]⟩),zM 5 7,zX 8 5 0,zX 9 5 1,zG 3 8,zG 4 9]
instance : Live z3v := ⟨[0]⟩
def z3u : List SOp := [zM 10 4,zO 11 (.binOp .eql 32 (.tmp 10) (.const (.int .i64 0)) 32),zG 2 11]
instance : Live z3u := ⟨[4]⟩
def t_k137 : SC :=
 (.seq (.ops false z3w) (.seq (.ops false z3v) (.seq (.ops false z3u) .ret)))
theorem it_k137 : FnIs Tryz.prog 137 12 [.tmp 2] t_k137 := ⟨Tryz.f137, _, Tryz.func137, rfl, rfl, rfl, rfl, by kernel_rfl⟩

def qxd : List SOp := [zO 2 (.assign (.const (.bool false)))]
instance : Live qxd := ⟨[0]⟩
def qxc : List SOp := [zM 3 0,zO 4 (.binOp .geq 5 (.tmp 3) (.const (.int .u8 65)) 5),zM 5 4,⟨some 6,.move (.tmp 0),some ((some 5),true)⟩,⟨some 7,.binOp .leq 5 (.tmp 6) (.const (.int .u8 90)) 5,some ((some 5),true)⟩,zO 8 (.pick (.tmp 5) (.tmp 7) (.const (.bool false))),zG 2 8]
instance : Live qxc := ⟨[0]⟩
def t_k193 : SC :=
 (.seq (.ops false qxd) (.seq (.ops false qxc) .ret))
theorem it_k193 : FnIs Tryz.prog 193 9 [.tmp 2] t_k193 := ⟨Tryz.f193, _, Tryz.func193, rfl, rfl, rfl, rfl, by kernel_rfl⟩

def qxb : List SOp := [zO 2 (.assign (.const (.bool false)))]
instance : Live qxb := ⟨[0]⟩
def qxa : List SOp := [zM 3 0,zO 4 (.binOp .geq 5 (.tmp 3) (.const (.int .u8 48)) 5),zM 5 4,⟨some 6,.move (.tmp 0),some ((some 5),true)⟩,⟨some 7,.binOp .leq 5 (.tmp 6) (.const (.int .u8 57)) 5,some ((some 5),true)⟩,zO 8 (.pick (.tmp 5) (.tmp 7) (.const (.bool false))),zG 2 8]
instance : Live qxa := ⟨[0]⟩
def t_k194 : SC :=
 (.seq (.ops false qxb) (.seq (.ops false qxa) .ret))
theorem it_k194 : FnIs Tryz.prog 194 9 [.tmp 2] t_k194 := ⟨Tryz.f194, _, Tryz.func194, rfl, rfl, rfl, rfl, by kernel_rfl⟩

def qx9 : List SOp := [zO 2 (.assign (.const (.bool false)))]
instance : Live qx9 := ⟨[0]⟩
def qx8 : List SOp := [zM 3 0,zO 4 (.binOp .eql 5 (.tmp 3) (.const (.int .u8 45)) 5),zM 5 4,⟨some 6,.move (.tmp 0),some ((some 5),false)⟩,⟨some 7,.binOp .eql 5 (.tmp 6) (.const (.int .u8 46)) 5,some ((some 5),false)⟩,zO 8 (.pick (.tmp 5) (.const (.bool true)) (.tmp 7)),zG 2 8]
instance : Live qx8 := ⟨[0]⟩
def t_k195 : SC :=
 (.seq (.ops false qx9) (.seq (.ops false qx8) .ret))
theorem it_k195 : FnIs Tryz.prog 195 9 [.tmp 2] t_k195 := ⟨Tryz.f195, _, Tryz.func195, rfl, rfl, rfl, rfl, by kernel_rfl⟩

def qy0 : List SOp := [zO 4 (.assign (.const (.bool false)))]
instance : Live qy0 := ⟨[0,1]⟩
def qxz : List SOp := [zM 6 0,zM 7 1,zO 8 (.index 9 (.tmp 6) (.tmp 7)),zG 5 8]
instance : Live qxz := ⟨[0,1]⟩
def qxy : List SOp := [zM 9 5,zO 10 (.call ⟨.value (.func 193),#[.tmp 9],#[5]⟩),zM 11 10,⟨some 12,.move (.tmp 5),some ((some 11),false)⟩,⟨some 13,.call ⟨.value (.func 194),#[.tmp 12],#[5]⟩,some ((some 11),false)⟩,zO 14 (.pick (.tmp 11) (.const (.bool true)) (.tmp 13))]
instance : Live qxy := ⟨[0,1,5]⟩
def qxx : List SOp := [zO 4 (.assign (.const (.bool true)))]
instance : Live qxx := ⟨[]⟩
def qxw : List SOp := [zM 15 5,zO 16 (.call ⟨.value (.func 195),#[.tmp 15],#[5]⟩),zO 17 (.unOp .not 4 (.tmp 16))]
instance : Live qxw := ⟨[0,1,5]⟩
def qxv : List SOp := [zO 4 (.assign (.const (.bool false)))]
instance : Live qxv := ⟨[]⟩
def qxu : List SOp := [zM 18 1,zO 19 (.binOp .eql 3 (.tmp 18) (.const (.int .i64 0)) 3),zM 20 19,⟨some 21,.move (.tmp 1),some ((some 20),false)⟩,⟨some 22,.move (.tmp 0),some ((some 20),false)⟩,⟨some 23,.call ⟨.builtin .len,#[.tmp 22],#[9]⟩,some ((some 20),false)⟩,⟨some 24,.binOp .sub 3 (.tmp 23) (.const (.int .i64 1)) 3,some ((some 20),false)⟩,⟨some 25,.binOp .eql 3 (.tmp 21) (.tmp 24) 3,some ((some 20),false)⟩,zO 26 (.pick (.tmp 20) (.const (.bool true)) (.tmp 25))]
instance : Live qxu := ⟨[0,1]⟩
def qxt : List SOp := [zO 4 (.assign (.const (.bool false)))]
instance : Live qxt := ⟨[]⟩
def qxs : List SOp := [zM 27 0,zM 28 1,zO 29 (.binOp .sub 3 (.tmp 28) (.const (.int .i64 1)) 3),zO 30 (.index 9 (.tmp 27) (.tmp 29)),zO 31 (.call ⟨.value (.func 195),#[.tmp 30],#[5]⟩),zO 32 (.unOp .not 4 (.tmp 31)),zG 4 32]
instance : Live qxs := ⟨[0,1]⟩
def t_k184 : SC :=
 (.seq (.ops false qy0) (.seq (.ops false qxz) (.seq (.seq (.ops false qxy) (.cond (.tmp 14) (.seq (.ops false qxx) .ret) .skip)) (.seq (.seq (.ops false qxw) (.cond (.tmp 17) (.seq (.ops false qxv) .ret) .skip)) (.seq (.seq (.ops false qxu) (.cond (.tmp 26) (.seq (.ops false qxt) .ret) .skip)) (.seq (.ops false qxs) .ret))))))
theorem it_k184 : FnIs Tryz.prog 184 33 [.tmp 4] t_k184 := ⟨Tryz.f184, _, Tryz.func184, rfl, rfl, rfl, rfl, by kernel_rfl⟩

def qzi : List SOp := [zO 2 (.assign (.const (.int .i64 0))),zO 3 (.assign (.const (.int .i64 0)))]
instance : Live qzi := ⟨[0]⟩
def qzh : List SOp := [zM 5 0,zO 6 (.call ⟨.builtin .len,#[.tmp 5],#[9]⟩),zO 7 (.binOp .eql 3 (.tmp 6) (.const (.int .i64 0)) 3)]
instance : Live qzh := ⟨[0]⟩
def qzg : List SOp := [zO 2 (.assign (.const (.int .i64 0))),zO 3 (.assign (.const (.int .i64 20)))]
instance : Live qzg := ⟨[]⟩
def qzf : List SOp := [zM 8 0,zO 9 (.call ⟨.builtin .len,#[.tmp 8],#[9]⟩),zO 10 (.binOp .gtr 3 (.tmp 9) (.const (.int .i64 24)) 3)]
instance : Live qzf := ⟨[0]⟩
def qze : List SOp := [zO 2 (.assign (.const (.int .i64 0))),zO 3 (.assign (.const (.int .i64 21)))]
instance : Live qze := ⟨[]⟩
def qzd : List SOp := [zO 4 (.assign (.const (.int .i64 0)))]
instance : Live qzd := ⟨[0]⟩
def qzc : List SOp := [zM 11 4,zM 12 0,zO 13 (.call ⟨.builtin .len,#[.tmp 12],#[9]⟩),zO 14 (.binOp .lss 3 (.tmp 11) (.tmp 13) 3)]
instance : Live qzc := ⟨[0,4]⟩
def qzb : List SOp := [zM 17 0,zM 18 4,zO 19 (.call ⟨.value (.func 184),#[.tmp 17,.tmp 18],#[9,3]⟩),zO 20 (.unOp .not 4 (.tmp 19))]
instance : Live qzb := ⟨[0,4]⟩
def qza : List SOp := [zM 21 4,zG 2 21,zO 3 (.assign (.const (.int .i64 22)))]
instance : Live qza := ⟨[4]⟩
def qm0 : List SOp := [zM 15 4,zO 16 (.binOp .add 3 (.tmp 15) (.const (.int .i64 1)) 3),zG 4 16]
instance : Live qm0 := ⟨[0,4]⟩
def qlz : List SOp := [zO 2 (.assign (.const (.int .i64 0))),zO 3 (.assign (.const (.int .i64 0)))]
instance : Live qlz := ⟨[]⟩
def qk9 : SC :=
 (.seq (.seq (.ops false qzc) (.cond (.tmp 14) .skip (.exit 0))) (.seq (.block 1 (.seq (.ops false qzb) (.cond (.tmp 20) (.seq (.ops false qza) .ret) .skip))) (.ops false qm0)))
def t_k165 : SC :=
 (.seq (.ops false qzi) (.seq (.seq (.ops false qzh) (.cond (.tmp 7) (.seq (.ops false qzg) .ret) .skip)) (.seq (.seq (.ops false qzf) (.cond (.tmp 10) (.seq (.ops false qze) .ret) .skip)) (.seq (.seq (.ops false qzd) (.block 0 (.loop qk9))) (.seq (.ops false qlz) .ret)))))
theorem it_k165 : FnIs Tryz.prog 165 22 [.tmp 2, .tmp 3] t_k165 := ⟨Tryz.f165, _, Tryz.func165, rfl, rfl, rfl, rfl, by kernel_rfl⟩

def z30 : List SOp := [zO 2 (.assign (.const (.bool false)))]
instance : Live z30 := ⟨[0]⟩
def z2z : List SOp := [zM 6 0,zO 7 (.call ⟨.value (.func 165),#[.tmp 6],#[9]⟩),zM 5 7,zX 8 5 0,zX 9 5 1,zG 3 8,zG 4 9]
instance : Live z2z := ⟨[0]⟩
def z2y : List SOp := [zM 10 4,zO 11 (.binOp .eql 3 (.tmp 10) (.const (.int .i64 0)) 3),zG 2 11]
instance : Live z2y := ⟨[4]⟩
def t_k146 : SC :=
 (.seq (.ops false z30) (.seq (.ops false z2z) (.seq (.ops false z2y) .ret)))
theorem it_k146 : FnIs Tryz.prog 146 12 [.tmp 2] t_k146 := ⟨Tryz.f146, _, Tryz.func146, rfl, rfl, rfl, rfl, by kernel_rfl⟩

def qsh (c : Int) : Bool := decide (65 ≤ c) && decide (c ≤ 90)
def qsi (c : Int) : Bool := decide (48 ≤ c) && decide (c ≤ 57)
def zq0 (c : Int) : Bool := decide (c = 45) || decide (c = 46)
def qfn (s : ByteArray) (i : Nat) : Int := match s[i]? with | some b => (b.toNat : Int) | none => 0
theorem q95 {s : ByteArray} {i : Nat} (h : i < s.size) : ∃ b : UInt8, s[i]? = some b ∧ qfn s i = (b.toNat : Int) := by
 have e : s[i]? = some s[i] := by
  rw [getElem?_pos s i h]
 exact ⟨s[i], e, by unfold qfn; rw [e]⟩
def q6c (s : ByteArray) (i : Nat) : Bool := (qsh (qfn s i) || qsi (qfn s i)) || (zq0 (qfn s i) && (!decide (i = 0) && (!decide (i = s.size - 1) && !zq0 (qfn s (i - 1)))))
def badS (s : ByteArray) : Option Nat := (List.range s.size).find? fun i => !q6c s i
def qr1 (s : ByteArray) : Int × Int := if s.size = 0 then (0, 20) else if 24 < s.size then (0, 21) else match badS s with | some i => (i, 22) | none => (0, 0)
def q88 (s : ByteArray) : Bool := decide ((qr1 s).2 = 0)
theorem ev_k170 (c : Int) : Ev (En Tryz.prog rfl).P 170 [.int .u8 c] (.ret (.bool (qsh c))) := by
 refine Ev.of_body it_k170 (by simp) (Run.start ?_)
 unfold t_k170 qsh
 by_cases h1 : 65 ≤ c <;> by_cases h2 : c ≤ 90
 all_goals
  simp only [h1, h2, decide_true, decide_false, Bool.and_true, Bool.and_false, Bool.true_and, Bool.false_and]
  (have hF := True.intro; refine q01 (k:=?_); clear hF)
  all_goals first | exact Fin.tmp' rfl rfl | (exfalso; omega)
theorem ev_k171 (c : Int) : Ev (En Tryz.prog rfl).P 171 [.int .u8 c] (.ret (.bool (qsi c))) := by
 refine Ev.of_body it_k171 (by simp) (Run.start ?_)
 unfold t_k171 qsi
 by_cases h1 : 48 ≤ c <;> by_cases h2 : c ≤ 57
 all_goals
  simp only [h1, h2, decide_true, decide_false, Bool.and_true, Bool.and_false, Bool.true_and, Bool.false_and]
  (have hF := True.intro; refine q01 (k:=?_); clear hF)
  all_goals first | exact Fin.tmp' rfl rfl | (exfalso; omega)
theorem zqz (c : Int) : Ev (En Tryz.prog rfl).P 172 [.int .u8 c] (.ret (.bool (zq0 c))) := by
 refine Ev.of_body it_k172 (by simp) (Run.start ?_)
 unfold t_k172 zq0
 by_cases h1 : c = 45 <;> by_cases h2 : c = 46
 all_goals
  simp only [h1, h2, decide_true, decide_false, Bool.or_true, Bool.or_false, Bool.true_or, Bool.false_or]
  (have hF := True.intro; refine q01 (k:=?_); clear hF)
  all_goals first | exact Fin.tmp' rfl rfl | (exfalso; omega)
theorem ev_k193 (c : Int) : Ev (En Tryz.prog rfl).P 193 [.int .u8 c] (.ret (.bool (qsh c))) := by
 refine Ev.of_body it_k193 (by simp) (Run.start ?_)
 unfold t_k193 qsh
 by_cases h1 : 65 ≤ c <;> by_cases h2 : c ≤ 90
 all_goals
  simp only [h1, h2, decide_true, decide_false, Bool.and_true, Bool.and_false, Bool.true_and, Bool.false_and]
  (have hF := True.intro; refine q01 (k:=?_); clear hF)
  all_goals first | exact Fin.tmp' rfl rfl | (exfalso; omega)
theorem ev_k194 (c : Int) : Ev (En Tryz.prog rfl).P 194 [.int .u8 c] (.ret (.bool (qsi c))) := by
 refine Ev.of_body it_k194 (by simp) (Run.start ?_)
 unfold t_k194 qsi
 by_cases h1 : 48 ≤ c <;> by_cases h2 : c ≤ 57
 all_goals
  simp only [h1, h2, decide_true, decide_false, Bool.and_true, Bool.and_false, Bool.true_and, Bool.false_and]
  (have hF := True.intro; refine q01 (k:=?_); clear hF)
  all_goals first | exact Fin.tmp' rfl rfl | (exfalso; omega)
theorem zqy (c : Int) : Ev (En Tryz.prog rfl).P 195 [.int .u8 c] (.ret (.bool (zq0 c))) := by
 refine Ev.of_body it_k195 (by simp) (Run.start ?_)
 unfold t_k195 zq0
 by_cases h1 : c = 45 <;> by_cases h2 : c = 46
 all_goals
  simp only [h1, h2, decide_true, decide_false, Bool.or_true, Bool.or_false, Bool.true_or, Bool.false_or]
  (have hF := True.intro; refine q01 (k:=?_); clear hF)
  all_goals first | exact Fin.tmp' rfl rfl | (exfalso; omega)
theorem zqf {q : Nat → Bool} {n i : Nat} (hi : i < n) (h0 : ∀ j, j < i → q j = false) (h : q i = true) : (List.range n).find? q = some i := by
 rw [List.find?_eq_some_iff_getElem]
 refine ⟨h, i, by simpa using hi, by simp, fun j hj => by simp [h0 j hj]⟩
theorem zqg {q : Nat → Bool} {n : Nat} (h0 : ∀ j, j < n → q j = false) : (List.range n).find? q = none := by
 rw [List.find?_eq_none]
 intro j hj
 simp [h0 j (by simpa using hj)]
theorem zbq {s : ByteArray} (h1 : ¬ s.size = 0) (h2 : ¬ 24 < s.size) {i : Nat} (hi : i < s.size) (h0 : ∀ j, j < i → q6c s j = true) (h : q6c s i = false) : qr1 s = ((i : Int), 22) := by
 unfold qr1 badS
 rw [if_neg h1, if_neg h2, zqf hi (fun j hj => by simp [h0 j hj]) (by simp [h])]
theorem zru {s : ByteArray} (h1 : ¬ s.size = 0) (h2 : ¬ 24 < s.size) (h0 : ∀ j, j < s.size → q6c s j = true) : qr1 s = (0, 0) := by
 unfold qr1 badS
 rw [if_neg h1, if_neg h2, zqg (fun j hj => by simp [h0 j hj])]
theorem q5n {s : ByteArray} : s = ByteArray.empty ↔ s.size = 0 := by
 constructor
 ·intro h; rw [h]; rfl
 ·intro h
  cases s with
  | mk d =>
   have : d = #[] := Array.eq_empty_of_size_eq_zero h
   rw [this]; rfl
theorem ev_k158 (s : ByteArray) : Ev (En Tryz.prog rfl).P 158 [.str s] (.ret (.tup [.int .i64 (qr1 s).1, .int .i64 (qr1 s).2])) := by
 refine Ev.of_body it_k158 (by simp) (Run.start ?_)
 unfold t_k158
 by_cases h1 : s.size = 0
 ·have h1' : (s = (⟨#[]⟩ : ByteArray)) = True := eq_true (q5n.2 h1)
  have : qr1 s = (0, 20) := by unfold qr1; rw [if_pos h1]
  rw [this]
  (have hF := @h1'; refine q01 (k:=?_); clear hF)
  exact Fin.all rfl rfl rfl
 ·have h1' : (s = (⟨#[]⟩ : ByteArray)) = False := eq_false fun h => h1 (q5n.1 h)
  by_cases h2 : 24 < s.size
  ·have : qr1 s = (0, 21) := by unfold qr1; rw [if_neg h1, if_pos h2]
   rw [this]
   (have hF := @h1'; refine q01 (k:=?_); clear hF)
   exact Fin.all rfl rfl rfl
  ·(have hF := @h1'; refine q01 (k:=?_); clear hF)
   refine Run.while (σ := Nat) (fun i => ⟨tms [(0, .str s), (12, .int .i64 (s.size : Int)), (13, .int .i64 (i : Int))], mms []⟩) (fun i => i ≤ s.size ∧ ∀ j, j < i → q6c s j = true) (fun i => s.size - i) 0 (have hW := True.intro; q0g) ⟨Nat.zero_le _, fun j hj => absurd hj (Nat.not_lt_zero _)⟩ ?_
   rintro i ⟨hi, hp⟩
   unfold qke
   by_cases hlt : i < s.size
   ·obtain ⟨b, hb, hbe⟩ := q95 hlt
    have hok : q6c s i = true → ∀ j, j < i + 1 → q6c s j = true := fun h j hj => by
     by_cases e : j = i
     ·rw [e]; exact h
     ·exact hp j (by omega)
    have hbad := zbq h1 h2 hlt hp
    have c1 := ev_k170 (b.toNat : Int)
    have c2 := ev_k171 (b.toNat : Int)
    have c3 := zqz (b.toNat : Int)
    unfold q6c at hok hbad
    rw [hbe] at hok hbad
    generalize qsh (b.toNat : Int) = v1 at c1 hok hbad
    generalize qsi (b.toNat : Int) = v2 at c2 hok hbad
    generalize zq0 (b.toNat : Int) = v3 at c3 hok hbad
    (have hF := @hb; refine q01 (k:=?_); clear hF)
    refine q00 [.int .u8 (b.toNat : Int)] (he := c1) (k:=?_)
    cases v1
    case' true =>
     have hn := hok (by simp)
     (have hF := @hb; refine q01 (k:=?_); clear hF)
     (refine Fin.nextW (i + 1) ?_ (have hW := True.intro; q0g); (try dsimp only))
     exact ⟨⟨hlt, hn⟩, by omega⟩
    case' false =>
     (have hF := @hb; refine q01 (k:=?_); clear hF)
     refine q00 [.int .u8 (b.toNat : Int)] (he := c2) (k:=?_)
     cases v2
     case' true =>
      have hn := hok (by simp)
      (have hF := @hb; refine q01 (k:=?_); clear hF)
      (refine Fin.nextW (i + 1) ?_ (have hW := True.intro; q0g); (try dsimp only))
      exact ⟨⟨hlt, hn⟩, by omega⟩
     case' false =>
      (have hF := @hb; refine q01 (k:=?_); clear hF)
      refine q00 [.int .u8 (b.toNat : Int)] (he := c3) (k:=?_)
      cases v3
      case' false =>
       rw [hbad (by simp)]
       (have hF := @hb; refine q01 (k:=?_); clear hF)
       exact Fin.all rfl rfl rfl
      case' true =>
       by_cases i0 : i = 0
       ·rw [hbad (by simp [i0])]
        subst i0
        (have hF := @hb; refine q01 (k:=?_); clear hF)
        exact Fin.all rfl rfl rfl
       ·by_cases i1 : i = s.size - 1
        ·rw [hbad (by simp [i1])]
         have i1' : (i : Int) = (s.size : Int) - 1 := by omega
         have i0' : ¬ (i : Int) = 0 := by omega
         have i2' : IntKind.i64.wrap ((s.size : Int) - 1) = (i : Int) := by rw [q2d (by omega)]; omega
         (have hF := (aI @hb (aI @i0' @i2')); refine q01 (k:=?_); clear hF)
         exact Fin.all rfl rfl rfl
        ·have i0' : ¬ (i : Int) = 0 := by omega
         have i1' : ¬ (i : Int) = (s.size : Int) - 1 := by omega
         obtain ⟨c, hc, hce⟩ := q95 (s := s) (i := i - 1) (by omega)
         have c4 := zqz (c.toNat : Int)
         have hpw : IntKind.i64.wrap ((i : Int) - 1) = ((i - 1 : Nat) : Int) := by rw [q2d (by omega)]; omega
         rw [hce] at hok hbad
         generalize zq0 (c.toNat : Int) = v4 at c4 hok hbad
         (have hF := (aI (aI @hb @i0') (aI @i1' (aI @hpw @hc))); refine q01 (k:=?_); clear hF)
         refine q00 [.int .u8 (c.toNat : Int)] (he := c4) (k:=?_)
         cases v4
         ·have hn := hok (by simp [i0, i1])
          (have hF := @hb; refine q01 (k:=?_); clear hF)
          (refine Fin.nextW (i + 1) ?_ (have hW := True.intro; q0g); (try dsimp only))
          exact ⟨⟨hlt, hn⟩, by omega⟩
         ·rw [hbad (by simp)]
          (have hF := @hb; refine q01 (k:=?_); clear hF)
          exact Fin.all rfl rfl rfl
   ·rw [zru h1 h2 fun j hj => hp j (by omega)]
    (have hF := True.intro; refine q01 (k:=?_); clear hF)
    exact Fin.all rfl rfl rfl
theorem qso (s : ByteArray) : Ev (En Tryz.prog rfl).P 137 [.str s] (.ret (.bool (q88 s))) := by
 refine Ev.of_body it_k137 (by simp) (Run.start ?_)
 unfold t_k137 q88
 (have hF := True.intro; refine q01 (k:=?_); clear hF)
 refine q00 [.str s] (he := ev_k158 s) (k:=?_)
 (have hF := True.intro; refine q01 (k:=?_); clear hF)
 exact Fin.tmp' rfl rfl
theorem ev_k184 (s : ByteArray) (i : Nat) (hi : i < s.size) (hs : s.size ≤ 1000000) : Ev (En Tryz.prog rfl).P 184 [.str s, .int .i64 (i : Int)] (.ret (.bool (q6c s i))) := by
 refine Ev.of_body it_k184 (by simp) (Run.start ?_)
 unfold t_k184 q6c
 obtain ⟨b, hb, hbe⟩ := q95 hi
 rw [hbe]
 have c1 := ev_k193 (b.toNat : Int)
 have c2 := ev_k194 (b.toNat : Int)
 have c3 := zqy (b.toNat : Int)
 generalize qsh (b.toNat : Int) = v1 at c1 ⊢
 generalize qsi (b.toNat : Int) = v2 at c2 ⊢
 generalize zq0 (b.toNat : Int) = v3 at c3 ⊢
 (have hF := @hb; refine q01 (k:=?_); clear hF)
 refine q00 [.int .u8 (b.toNat : Int)] (he := c1) (k:=?_)
 cases v1
 case' true =>
  (have hF := @hb; refine q01 (k:=?_); clear hF)
  exact Fin.tmp' rfl rfl
 case' false =>
  (have hF := @hb; refine q01 (k:=?_); clear hF)
  refine q00 [.int .u8 (b.toNat : Int)] (he := c2) (k:=?_)
  cases v2
  case' true =>
   (have hF := @hb; refine q01 (k:=?_); clear hF)
   exact Fin.tmp' rfl rfl
  case' false =>
   (have hF := @hb; refine q01 (k:=?_); clear hF)
   refine q00 [.int .u8 (b.toNat : Int)] (he := c3) (k:=?_)
   cases v3
   case' false =>
    (have hF := @hb; refine q01 (k:=?_); clear hF)
    exact Fin.tmp' rfl rfl
   case' true =>
    by_cases i0 : i = 0
    ·subst i0
     (have hF := @hb; refine q01 (k:=?_); clear hF)
     exact Fin.tmp' rfl rfl
    ·by_cases i1 : i = s.size - 1
     ·have e : (false || false || (true && (!decide (i = 0) && (!decide (i = s.size - 1) && !zq0 (qfn s (i - 1)))))) = false := by simp [i1]
      rw [e]
      (have hF := @hb; refine q01 (k:=?_); clear hF)
      all_goals first | exact Fin.tmp' rfl rfl | (exfalso; omega)
     ·obtain ⟨c, hc, hce⟩ := q95 (s := s) (i := i - 1) (by omega)
      have c4 := zqy (c.toNat : Int)
      have hpw : IntKind.i64.wrap ((i : Int) - 1) = ((i - 1 : Nat) : Int) := by rw [q2d (by omega)]; omega
      rw [hce]
      generalize zq0 (c.toNat : Int) = v4 at c4 ⊢
      have e : (false || false || (true && (!decide (i = 0) && (!decide (i = s.size - 1) && !v4)))) = !v4 := by simp [i0, i1]
      rw [e]
      have i1' : ¬ (i : Int) = (s.size : Int) - 1 := by omega
      (have hF := (aI (aI @hb @i1') (aI @hpw @hc)); refine q01 (k:=?_); clear hF)
      refine q00 [.int .u8 (c.toNat : Int)] (he := c4) (k:=?_)
      (have hF := @hb; refine q01 (k:=?_); clear hF)
      exact Fin.tmp' rfl rfl
theorem ev_k165 (s : ByteArray) : Ev (En Tryz.prog rfl).P 165 [.str s] (.ret (.tup [.int .i64 (qr1 s).1, .int .i64 (qr1 s).2])) := by
 refine Ev.of_body it_k165 (by simp) (Run.start ?_)
 unfold t_k165
 by_cases h1 : s.size = 0
 ·have : qr1 s = (0, 20) := by unfold qr1; rw [if_pos h1]
  rw [this]
  have h1' : ((s.size : Int) = 0) = True := eq_true (by omega)
  (have hF := @h1'; refine q01 (k:=?_); clear hF)
  exact Fin.all rfl rfl rfl
 ·by_cases h2 : 24 < s.size
  ·have : qr1 s = (0, 21) := by unfold qr1; rw [if_neg h1, if_pos h2]
   rw [this]
   (have hF := True.intro; refine q01 (k:=?_); clear hF)
   exact Fin.all rfl rfl rfl
  ·(have hF := True.intro; refine q01 (k:=?_); clear hF)
   refine Run.while (σ := Nat) (fun i => ⟨tms [(0, .str s), (4, .int .i64 (i : Int))], mms []⟩) (fun i => i ≤ s.size ∧ ∀ j, j < i → q6c s j = true) (fun i => s.size - i) 0 (have hW := True.intro; q0g) ⟨Nat.zero_le _, fun j hj => absurd hj (Nat.not_lt_zero _)⟩ ?_
   rintro i ⟨hi, hp⟩
   unfold qk9
   by_cases hlt : i < s.size
   ·have hok : q6c s i = true → ∀ j, j < i + 1 → q6c s j = true := fun h j hj => by
     by_cases e : j = i
     ·rw [e]; exact h
     ·exact hp j (by omega)
    have hbad := zbq h1 h2 hlt hp
    have c1 := ev_k184 s i hlt (by omega)
    generalize q6c s i = v at c1 hok hbad
    (have hF := True.intro; refine q01 (k:=?_); clear hF)
    refine q00 [.str s, .int .i64 (i : Int)] (he := c1) (k:=?_)
    cases v
    ·rw [hbad rfl]
     (have hF := True.intro; refine q01 (k:=?_); clear hF)
     exact Fin.all rfl rfl rfl
    ·have hn := hok rfl
     (have hF := True.intro; refine q01 (k:=?_); clear hF)
     (refine Fin.nextW (i + 1) ?_ (have hW := True.intro; q0g); (try dsimp only))
     exact ⟨⟨hlt, hn⟩, by omega⟩
   ·rw [zru h1 h2 fun j hj => hp j (by omega)]
    (have hF := True.intro; refine q01 (k:=?_); clear hF)
    exact Fin.all rfl rfl rfl
theorem zr3 (s : ByteArray) : Ev (En Tryz.prog rfl).P 146 [.str s] (.ret (.bool (q88 s))) := by
 refine Ev.of_body it_k146 (by simp) (Run.start ?_)
 unfold t_k146 q88
 (have hF := True.intro; refine q01 (k:=?_); clear hF)
 refine q00 [.str s] (he := ev_k165 s) (k:=?_)
 (have hF := True.intro; refine q01 (k:=?_); clear hF)
 exact Fin.tmp' rfl rfl

def bs (s : ByteArray) : List Int := s.data.toList.map fun b => (b.toNat : Int)
def q8p (a b : ByteArray) : Int := q67 (bs a) (bs b)
theorem qch : ∀ a b : List UInt8, Go.Lib.compareBytes a b = q67 (a.map fun b => (b.toNat : Int)) (b.map fun b => (b.toNat : Int))
 | [], [] => rfl
 | [], _ :: _ => rfl
 | _ :: _, [] => rfl
 | x :: a, y :: b => by
  have ih := qch a b
  unfold Go.Lib.compareBytes
  simp only [List.map_cons]
  unfold q67
  rw [ih]
  by_cases h1 : x < y
  ·have h2 : ((x.toNat : Int) < (y.toNat : Int)) := by have := UInt8.lt_iff_toNat_lt.1 h1; omega
   rw [if_pos h1, if_pos h2]
  ·have h2 : ¬ ((x.toNat : Int) < (y.toNat : Int)) := fun h => h1 (UInt8.lt_iff_toNat_lt.2 (by omega))
   rw [if_neg h1, if_neg h2]
   by_cases h3 : y < x
   ·have h4 : ((y.toNat : Int) < (x.toNat : Int)) := by have := UInt8.lt_iff_toNat_lt.1 h3; omega
    rw [if_pos h3, if_pos h4]
   ·have h4 : ¬ ((y.toNat : Int) < (x.toNat : Int)) := fun h => h3 (UInt8.lt_iff_toNat_lt.2 (by omega))
    rw [if_neg h3, if_neg h4]
theorem zb3 : ∀ a b : List UInt8, Op.bytesLess a b = decide (q67 (a.map fun b => (b.toNat : Int)) (b.map fun b => (b.toNat : Int)) < 0)
 | [], [] => rfl
 | [], _ :: _ => rfl
 | _ :: _, [] => rfl
 | x :: a, y :: b => by
  have ih := zb3 a b
  unfold Op.bytesLess
  simp only [List.map_cons]
  unfold q67
  rw [ih]
  by_cases h1 : x < y
  ·have h2 : ((x.toNat : Int) < (y.toNat : Int)) := by have := UInt8.lt_iff_toNat_lt.1 h1; omega
   rw [if_pos h2]
   simp [h1]
  ·have h2 : ¬ ((x.toNat : Int) < (y.toNat : Int)) := fun h => h1 (UInt8.lt_iff_toNat_lt.2 (by omega))
   rw [if_neg h2]
   by_cases h3 : y < x
   ·have h4 : ((y.toNat : Int) < (x.toNat : Int)) := by have := UInt8.lt_iff_toNat_lt.1 h3; omega
    have h5 : ¬ x = y := fun e => by rw [e] at h4; omega
    rw [if_pos h4]
    simp [h1, h5]
   ·have h4 : ¬ ((y.toNat : Int) < (x.toNat : Int)) := fun h => h3 (UInt8.lt_iff_toNat_lt.2 (by omega))
    have h5 : x = y := UInt8.toNat_inj.1 (by omega)
    rw [if_neg h4]
    subst h5
    simp [h1]
theorem qdp (s : ByteArray) : s.toList = s.data.toList := by
 have := ByteArray.toList_eq (bs := s)
 exact this
theorem qqy (a b : ByteArray) : Op.bytesLess a.toList b.toList = decide (q8p a b < 0) := by
 rw [qdp, qdp, zb3]
 rfl
theorem bs_inj {a b : ByteArray} (h : bs a = bs b) : a = b := by
 have : ∀ l m : List UInt8, l.map (fun b => (b.toNat : Int)) = m.map (fun b => (b.toNat : Int)) → l = m := by
  intro l
  induction l with
  | nil => intro m h; cases m with | nil => rfl | cons y m => simp at h
  | cons x l ih =>
   intro m h
   cases m with
   | nil => simp at h
   | cons y m =>
    simp only [List.map_cons, List.cons.injEq] at h
    rw [ih m h.2, show x = y from UInt8.toNat_inj.1 (by omega)]
 cases a with
 | mk da => cases b with
  | mk db =>
   have := this _ _ h
   congr 1
   exact Array.toList_inj.1 this
theorem q4x {a b : ByteArray} : q8p a b = 0 ↔ a = b := ⟨fun h => bs_inj (qsa h), fun h => by rw [h]; exact qet _⟩
structure Ent where
 rep : Int
 num : Int
 sku : ByteArray
 qty : Int
structure Rec where
 sku : ByteArray
 past : Pst
def qcn (e : Ent) : AVal := .agg [.int .i64 e.rep, .int .i64 e.num, .str e.sku, .int .i64 e.qty]
def q4w (r : Rec) : AVal := .agg [.str r.sku, .sl 1 (q04 r.past.vec), .sl 3 (q0c r.past.cloud)]
def q0a (l : List Ent) : List AVal := l.map qcn
def q08 (l : List Rec) : List AVal := l.map q4w
theorem qjc (e : Ent) : (qcn e).stb = true := rfl
theorem qja (r : Rec) : (q4w r).stb = true := by simp [q4w, AVal.stb, q0k, q03, q05]
theorem q09 (l : List Ent) : q0k (q0a l) = true := q30 qjc
theorem q02 (l : List Rec) : q0k (q08 l) = true := q30 qja
theorem qrk : (∀ e, (qcn e).stb = true) ∧ (∀ r, (q4w r).stb = true) ∧ (∀ l, q0k (q0a l) = true) ∧ (∀ l, q0k (q08 l) = true) := ⟨qjc, qja, q09, q02⟩
theorem q0o (l : List Ent) : (q0a l).length = l.length := by simp [q0a]
theorem q0j (l : List Rec) : (q08 l).length = l.length := by simp [q08]
theorem q16 {l : List Ent} {i : Nat} {e : Ent} (h : l[i]? = some e) : (q0a l)[i]? = some (.agg [.int .i64 e.rep, .int .i64 e.num, .str e.sku, .int .i64 e.qty]) := by simp [q0a, h, qcn]
theorem q0t {l : List Rec} {i : Nat} {r : Rec} (h : l[i]? = some r) : (q08 l)[i]? = some (.agg [.str r.sku, .sl 1 (q04 r.past.vec), .sl 3 (q0c r.past.cloud)]) := by simp [q08, h, q4w]
theorem q15 (l : List Ent) (a b : Int) (s : ByteArray) (q : Int) : q0a l ++ [.agg [.int .i64 a, .int .i64 b, .str s, .int .i64 q]] = q0a (l ++ [⟨a, b, s, q⟩]) := by simp [q0a, qcn]
theorem q2v (l : List Rec) (s : ByteArray) (v : List Int) (c : List Sn) : q08 l ++ [.agg [.str s, .sl 1 (q04 v), .sl 3 (q0c c)]] = q08 (l ++ [⟨s, ⟨v, c⟩⟩]) := by simp [q08, q4w]
def q3h (a b : Rn) : Bool := decide (a.1 < b.1) || (decide (a.1 = b.1) && decide (a.2 < b.2))
def Ent.dot (e : Ent) : Rn := (e.rep, e.num)
def q2b (e : Ent) : Int := if e.rep < 0 ∨ 16 ≤ e.rep then 3 else if e.num < 1 ∨ 1000000000 < e.num then 2 else if q88 e.sku = false then 5 else if e.qty < 1 ∨ 1000000 < e.qty then 6 else 0
def q80 (l : List Ent) : Prop := (∀ (i : Nat) e, l[i]? = some e → q2b e = 0) ∧ ∀ (i : Nat) a b, l[i]? = some a → l[i + 1]? = some b → q3h a.dot b.dot = true
open Classical in
noncomputable def q6v (l : List Ent) : Bool := decide (q80 l)
theorem q4j {l : List Ent} (h : q80 l) : q6v l = true := by classical exact decide_eq_true h
theorem q7v {l : List Ent} (h : ¬ q80 l) : q6v l = false := by classical exact decide_eq_false h
theorem qam {l : List Ent} : q6v l = true ↔ q80 l := by classical exact decide_eq_true_iff
def q3x (a b : Rec) : Int := if q8p a.sku b.sku = 0 then cmpP a.past b.past else q8p a.sku b.sku
def q31 (r : Rec) : Int := if ¬ r.sku.size = 0 ∧ q88 r.sku = false then 5 else if q18 r.past = false ∨ q2x r.past = 0 then 1 else 0
def q3s (l : List Rec) : Prop := (∀ (i : Nat) r, l[i]? = some r → q31 r = 0) ∧ ∀ (i : Nat) a b, l[i]? = some a → l[i + 1]? = some b → q3x a b < 0
open Classical in
noncomputable def q34 (l : List Rec) : Bool := decide (q3s l)
theorem q2s {l : List Rec} (h : q3s l) : q34 l = true := by classical exact decide_eq_true h
theorem q5z {l : List Rec} (h : ¬ q3s l) : q34 l = false := by classical exact decide_eq_false h
theorem q74 {l : List Rec} : q34 l = true ↔ q3s l := by classical exact decide_eq_true_iff
def wtK (r : Rec) : Nat := wt r.past + 1
def q4y (l : List Rec) : Nat := (l.map wtK).sum
theorem qg5 {l : List Rec} {r : Rec} (h : r ∈ l) : wtK r ≤ q4y l := by
 unfold q4y
 obtain ⟨i, hi, rfl⟩ := List.getElem_of_mem h
 have := zeu (l.map wtK) i
 simpa [List.getD_eq_getElem?_getD, hi] using this
theorem q7h (l : List Rec) : l.length ≤ q4y l := by
 induction l with
 | nil => exact Nat.zero_le _
 | cons r l ih =>
  unfold q4y at *
  simp only [List.map_cons, List.sum_cons, List.length_cons, wtK]
  omega

section
open Go.Proofs Go.Shelf Go.RowKit Go.Lib Go.Sort
theorem zro (a b : ByteArray) : q8p b a = - q8p a b := qim _ _
theorem cmpP_neg (p q : Pst) : cmpP q p = - cmpP p q := qim _ _
theorem q5b (a b : Rec) : q3x b a = - q3x a b := by
 unfold q3x
 rw [zro a.sku b.sku, cmpP_neg a.past b.past]
 by_cases h : q8p a.sku b.sku = 0
 ·rw [if_pos (by omega), if_pos h]
 ·rw [if_neg (by omega), if_neg h]
theorem qqw (a : Rec) : q3x a a = 0 := by
 unfold q3x
 rw [if_pos (q4x.2 rfl)]
 exact qqx.2 rfl
theorem qt3 {a b c : Rec} (h1 : q3x a b ≤ 0) (h2 : q3x b c ≤ 0) : q3x a c ≤ 0 := by
 have s1 : q8p a.sku b.sku ≤ 0 := by
  unfold q3x at h1
  split at h1
  ·omega
  ·exact h1
 have s2 : q8p b.sku c.sku ≤ 0 := by
  unfold q3x at h2
  split at h2
  ·omega
  ·exact h2
 have s3 : q8p a.sku c.sku ≤ 0 := qbe s1 s2
 by_cases h : q8p a.sku c.sku = 0
 ·have e := q4x.1 h
  have s4 : q8p a.sku b.sku = 0 := by
   have := zro b.sku c.sku
   rw [← e] at this s2
   omega
  have s5 : q8p b.sku c.sku = 0 := by rw [← q4x.1 s4]; exact h
  unfold q3x at h1 h2 ⊢
  rw [if_pos s4] at h1
  rw [if_pos s5] at h2
  rw [if_pos h]
  exact qbe h1 h2
 ·unfold q3x
  rw [if_neg h]
  exact s3
theorem q9u {a b c : Rec} (h1 : q3x a b < 0) (h2 : q3x b c < 0) : q3x a c < 0 := by
 have h3 := qt3 (a := a) (b := b) (c := c) (by omega) (by omega)
 rcases Int.lt_or_eq_of_le h3 with h | h
 ·exact h
 ·have h4 := qt3 (a := b) (b := c) (c := a) (by omega) (by have := q5b a c; omega)
  have := q5b a b
  omega
theorem cmpR_SWO : SWO (ltOf q3x) := by
 refine ⟨fun x => ?_, fun x y z h1 h2 => ?_, fun x y z h1 h2 => ?_⟩
 ·unfold ltOf
  rw [qqw]
  rfl
 ·unfold ltOf at *
  simp only [decide_eq_true_eq] at *
  exact q9u h1 h2
 ·unfold ltOf at *
  simp only [decide_eq_false_iff_not] at *
  have := qt3 (a := z) (b := y) (c := x) (by have := q5b y z; omega) (by have := q5b x y; omega)
  have := q5b x z
  omega
def q96 (r : Rec) : Prop := q1g r.past = r.past
theorem qje {a b : Rec} (ha : q96 a) (hb : q96 b) (h : q3x a b = 0) : a = b := by
 unfold q3x at h
 split at h
 ·rename_i hs
  have e1 := q4x.1 hs
  have e2 := qqx.1 h
  unfold q96 at ha hb
  rw [ha, hb] at e2
  cases a; cases b
  simp only at e1 e2
  rw [e1, e2]
 ·rename_i hs
  exact absurd h hs
def SrtR (l : List Rec) : Prop := l.Pairwise fun a b => q3x a b < 0
theorem SrtR.ext : ∀ {l m : List Rec}, SrtR l → SrtR m → (∀ x, x ∈ l ↔ x ∈ m) → l = m
 | [], [], _, _, _ => rfl
 | [], y :: m, _, _, h => absurd ((h y).2 (by simp)) (by simp)
 | x :: l, [], _, _, h => absurd ((h x).1 (by simp)) (by simp)
 | x :: l, y :: m, hl, hm, h => by
  unfold SrtR at hl hm
  rw [List.pairwise_cons] at hl hm
  have irr : ∀ a : Rec, ¬ q3x a a < 0 := fun a => by rw [qqw]; omega
  have e : x = y := by
   rcases List.mem_cons.1 ((h x).1 (by simp)) with e | e
   ·exact e
   ·rcases List.mem_cons.1 ((h y).2 (by simp)) with e' | e'
    ·exact e'.symm
    ·have h1 := hm.1 x e
     have h2 := hl.1 y e'
     exact absurd (q9u h1 h2) (irr _)
  subst e
  have : l = m := by
   refine SrtR.ext hl.2 hm.2 fun z => ⟨fun hz => ?_, fun hz => ?_⟩
   ·rcases List.mem_cons.1 ((h z).1 (by simp [hz])) with e | e
    ·subst e; exact absurd (hl.1 z hz) (irr z)
    ·exact e
   ·rcases List.mem_cons.1 ((h z).2 (by simp [hz])) with e | e
    ·subst e; exact absurd (hm.1 z hz) (irr z)
    ·exact e
  rw [this]
def zbb (x : Rec) : List Rec → List Rec
 | [] => [x]
 | y :: l => if q3x x y < 0 then x :: y :: l else if q3x x y = 0 then y :: l else y :: zbb x l
def q84 : List Rec → List Rec
 | [] => []
 | x :: l => zbb x (q84 l)
theorem qio {x : Rec} : ∀ {l : List Rec} {z : Rec}, z ∈ zbb x l → z = x ∨ z ∈ l
 | [], z, h => by simp only [zbb, List.mem_singleton] at h; exact .inl h
 | y :: l, z, h => by
  unfold zbb at h
  split at h
  ·simpa using h
  ·split at h
   ·exact .inr h
   ·rcases List.mem_cons.1 h with h | h
    ·exact .inr (by simp [h])
    ·rcases qio h with h | h
     ·exact .inl h
     ·exact .inr (by simp [h])
theorem qsj {x : Rec} (hx : q96 x) : ∀ {l : List Rec}, (∀ y ∈ l, q96 y) → ∀ z, (z = x ∨ z ∈ l) → z ∈ zbb x l
 | [], _, z, h => by
  rcases h with h | h
  ·simp [zbb, h]
  ·cases h
 | y :: l, hl, z, h => by
  unfold zbb
  split
  ·rcases h with h | h
   ·simp [h]
   ·exact List.mem_cons_of_mem _ h
  ·split
   ·rename_i h0
    rcases h with h | h
    ·rw [h, qje hx (hl y (by simp)) h0]; simp
    ·exact h
   ·rcases h with h | h
    ·exact List.mem_cons_of_mem _ (qsj hx (fun y hy => hl y (by simp [hy])) z (.inl h))
    ·rcases List.mem_cons.1 h with h | h
     ·simp [h]
     ·exact List.mem_cons_of_mem _ (qsj hx (fun y hy => hl y (by simp [hy])) z (.inr h))
theorem zba {x : Rec} : ∀ {l : List Rec}, SrtR l → SrtR (zbb x l)
 | [], _ => by simp [zbb, SrtR]
 | y :: l, h => by
  unfold SrtR at h
  rw [List.pairwise_cons] at h
  unfold zbb
  split
  ·rename_i hxy
   unfold SrtR
   rw [List.pairwise_cons, List.pairwise_cons]
   refine ⟨fun z hz => ?_, h⟩
   rcases List.mem_cons.1 hz with e | e
   ·rw [e]; exact hxy
   ·exact q9u hxy (h.1 z e)
  ·split
   ·unfold SrtR
    rw [List.pairwise_cons]
    exact h
   ·rename_i h1 h2
    unfold SrtR
    rw [List.pairwise_cons]
    refine ⟨fun z hz => ?_, zba h.2⟩
    rcases qio hz with e | e
    ·rw [e]; have := q5b x y; omega
    ·exact h.1 z e
theorem q8u : ∀ l : List Rec, SrtR (q84 l)
 | [] => List.Pairwise.nil
 | x :: l => zba (q8u l)
theorem q8t : ∀ {l : List Rec} {z : Rec}, z ∈ q84 l → z ∈ l
 | [], z, h => by cases h
 | x :: l, z, h => by
  rcases qio h with h | h
  ·simp [h]
  ·exact List.mem_cons_of_mem _ (q8t h)
theorem zoz : ∀ {l : List Rec}, (∀ y ∈ l, q96 y) → ∀ z, z ∈ l → z ∈ q84 l
 | [], _, z, h => by cases h
 | x :: l, hl, z, h => by
  refine qsj (hl x (by simp)) (fun y hy => hl y (List.mem_cons_of_mem _ (q8t hy))) z ?_
  rcases List.mem_cons.1 h with h | h
  ·exact .inl h
  ·exact .inr (zoz (fun y hy => hl y (by simp [hy])) z h)
theorem q3u {l : List Rec} (hl : ∀ y ∈ l, q96 y) (z : Rec) : z ∈ q84 l ↔ z ∈ l := ⟨q8t, zoz hl z⟩
theorem q8d {l m : List Rec} (hl : ∀ y ∈ l, q96 y) (hm : SrtR m) (h : ∀ x, x ∈ m ↔ x ∈ l) : m = q84 l :=
 hm.ext (q8u l) fun x => by rw [h x, q3u hl]
def cpt (l : List Rec) : Nat → List Rec
 | 0 => []
 | n + 1 => cpt l n ++ match l[n]? with
  | none => []
  | some x => if n = 0 then [x] else match l[n - 1]? with
   | none => []
   | some y => if q3x x y = 0 then [] else [x]
theorem qd8 {l : List Rec} {n : Nat} {x y : Rec} (hn : 0 < n) (hx : l[n]? = some x) (hy : l[n - 1]? = some y) : cpt l (n + 1) = cpt l n ++ if q3x x y = 0 then [] else [x] := by
 conv => lhs; unfold cpt
 rw [hx]
 simp only
 rw [if_neg (by omega), hy]
theorem zrl {l : List Rec} {x : Rec} (hx : l[0]? = some x) : cpt l 1 = [x] := by
 simp [cpt, hx]
theorem qd9 {l : List Rec} : ∀ {n : Nat}, n ≤ l.length → (∀ (j : Nat) x y, j + 1 < n → l[j]? = some y → l[j + 1]? = some x → q3x x y ≠ 0) → cpt l n = l.take n
 | 0, _, _ => by simp [cpt]
 | n + 1, hn, h => by
  have ih := qd9 (l := l) (n := n) (by omega) fun j x y hj => h j x y (by omega)
  obtain ⟨x, hx⟩ : ∃ x, l[n]? = some x := ⟨l[n], by simp [show n < l.length by omega]⟩
  rcases Nat.eq_zero_or_pos n with h0 | h0
  ·subst h0
   rw [zrl hx, List.take_add_one, hx]
   simp
  ·obtain ⟨y, hy⟩ : ∃ y, l[n - 1]? = some y := ⟨l[n - 1], by simp [show n - 1 < l.length by omega]⟩
   rw [qd8 h0 hx hy, ih, if_neg (h (n - 1) x y (by omega) hy (by rw [show n - 1 + 1 = n by omega]; exact hx)), List.take_add_one, hx]
   rfl
theorem zbo {l : List Rec} (hs : l.Pairwise fun a b => q3x a b ≤ 0) (hc : ∀ y ∈ l, q96 y) : ∀ {n : Nat}, n ≤ l.length → SrtR (cpt l n) ∧ (∀ x, x ∈ cpt l n ↔ x ∈ l.take n) ∧ (∀ x, l[n - 1]? = some x → 0 < n → ∀ z ∈ cpt l n, z = x ∨ q3x z x < 0)
 | 0, _ => ⟨List.Pairwise.nil, fun x => by simp [cpt], fun x _ h => by omega⟩
 | n + 1, hn => by
  obtain ⟨i1, i2, i3⟩ := zbo hs hc (n := n) (by omega)
  obtain ⟨x, hx⟩ : ∃ x, l[n]? = some x := ⟨l[n], by simp [show n < l.length by omega]⟩
  have hxl := List.mem_of_getElem? hx
  rcases Nat.eq_zero_or_pos n with h0 | h0
  ·subst h0
   rw [zrl hx]
   refine ⟨by simp [SrtR], fun z => by rw [List.take_add_one, hx]; simp, fun z hz _ w hw => ?_⟩
   simp only [Nat.add_sub_cancel] at hz
   rw [hx] at hz
   cases hz
   exact .inl (by simpa using hw)
  ·obtain ⟨y, hy⟩ : ∃ y, l[n - 1]? = some y := ⟨l[n - 1], by simp [show n - 1 < l.length by omega]⟩
   have hyl := List.mem_of_getElem? hy
   have hle : q3x y x ≤ 0 := by
    rw [List.pairwise_iff_getElem] at hs
    have := hs (n - 1) n (by omega) (by omega) (by omega)
    have e1 : l[n - 1] = y := by rw [List.getElem?_eq_getElem (by omega)] at hy; exact Option.some.inj hy
    have e2 : l[n] = x := by rw [List.getElem?_eq_getElem (by omega)] at hx; exact Option.some.inj hx
    rw [e1, e2] at this
    exact this
   rw [qd8 h0 hx hy]
   have hn := q5b x y
   have i3' := i3 y hy h0
   by_cases hz : q3x x y = 0
   ·rw [if_pos hz, List.append_nil]
    have e := qje (hc x hxl) (hc y hyl) hz
    subst e
    refine ⟨i1, fun z => ?_, fun z hz' _ w hw => ?_⟩
    ·rw [i2 z, List.take_add_one, hx]
     simp only [Option.toList_some, List.mem_append, List.mem_singleton]
     refine ⟨fun h => .inl h, fun h => h.elim id fun e => ?_⟩
     subst e
     exact List.mem_of_getElem? (i := n - 1) (by rw [List.getElem?_take, if_pos (by omega)]; exact hy)
    ·simp only [Nat.add_sub_cancel] at hz'
     rw [hx] at hz'
     cases hz'
     exact i3' w hw
   ·rw [if_neg hz]
    have hlt : q3x y x < 0 := by omega
    have hall : ∀ w ∈ cpt l n, q3x w x < 0 := fun w hw => by
     rcases i3' w hw with e | e
     ·rw [e]; exact hlt
     ·exact q9u e hlt
    refine ⟨?_, fun z => ?_, fun z hz' _ w hw => ?_⟩
    ·unfold SrtR
     rw [List.pairwise_append]
     exact ⟨i1, by simp, fun a ha b hb => by rw [List.mem_singleton.1 hb]; exact hall a ha⟩
    ·rw [List.take_add_one, hx]
     simp only [Option.toList_some, List.mem_append, List.mem_singleton, i2 z]
    ·simp only [Nat.add_sub_cancel] at hz'
     rw [hx] at hz'
     cases hz'
     rcases List.mem_append.1 hw with h | h
     ·exact .inr (hall w h)
     ·exact .inl (List.mem_singleton.1 h)
theorem cpt_ord {l s : List Rec} (hp : s.Perm l) (hs : s.Pairwise fun a b => q3x a b ≤ 0) (hc : ∀ y ∈ l, q96 y) : cpt s s.length = q84 l := by
 have hc' : ∀ y ∈ s, q96 y := fun y hy => hc y (hp.mem_iff.1 hy)
 obtain ⟨h1, h2, _⟩ := zbo hs hc' (Nat.le_refl s.length)
 refine q8d hc h1 fun x => ?_
 rw [h2 x, List.take_length]
 exact hp.mem_iff
end
def qck : List Rec → List Rec → List Rec
 | [], b => b
 | x :: a, [] => x :: a
 | x :: a, y :: b => if q3x x y < 0 then x :: qck a (y :: b) else if q3x x y = 0 then x :: qck a b else y :: qck (x :: a) b
 termination_by a b => a.length + b.length
theorem qae (b : List Rec) : qck [] b = b := by rw [qck]
theorem qad (a : List Rec) : qck a [] = a := by cases a <;> rw [qck]
theorem q7q : ∀ (a b : List Rec), (∀ y ∈ a, q96 y) → (∀ y ∈ b, q96 y) → ∀ z, z ∈ qck a b ↔ z ∈ a ∨ z ∈ b
 | [], b, _, _, z => by rw [qae]; simp
 | x :: a, [], _, _, z => by rw [qad]; simp
 | x :: a, y :: b, ha, hb, z => by
  have ha' : ∀ y ∈ a, q96 y := fun w hw => ha w (by simp [hw])
  have hb' : ∀ y ∈ b, q96 y := fun w hw => hb w (by simp [hw])
  rw [qck]
  split
  ·rw [List.mem_cons, q7q a (y :: b) ha' hb z, ← or_assoc, ← List.mem_cons]
  ·split
   ·rename_i h0
    have e := qje (ha x (by simp)) (hb y (by simp)) h0
    subst e
    rw [List.mem_cons, q7q a b ha' hb' z, List.mem_cons, List.mem_cons]
    constructor
    ·rintro (h | h | h)
     ·exact .inl (.inl h)
     ·exact .inl (.inr h)
     ·exact .inr (.inr h)
    ·rintro ((h | h) | (h | h))
     ·exact .inl h
     ·exact .inr (.inl h)
     ·exact .inl h
     ·exact .inr (.inr h)
   ·rw [List.mem_cons, q7q (x :: a) b ha hb' z, List.mem_cons (a := z) (b := y)]
    constructor
    ·rintro (h | h | h)
     ·exact .inr (.inl h)
     ·exact .inl h
     ·exact .inr (.inr h)
    ·rintro (h | h | h)
     ·exact .inr (.inl h)
     ·exact .inl h
     ·exact .inr (.inr h)
 termination_by a b => a.length + b.length
theorem qd2 : ∀ (a b : List Rec), SrtR a → SrtR b → (∀ y ∈ a, q96 y) → (∀ y ∈ b, q96 y) → SrtR (qck a b)
 | [], b, _, h, _, _ => by rw [qae]; exact h
 | x :: a, [], h, _, _, _ => by rw [qad]; exact h
 | x :: a, y :: b, h1, h2, ha, hb => by
  have ha' : ∀ y ∈ a, q96 y := fun w hw => ha w (by simp [hw])
  have hb' : ∀ y ∈ b, q96 y := fun w hw => hb w (by simp [hw])
  have k1 := h1
  have k2 := h2
  unfold SrtR at k1 k2
  rw [List.pairwise_cons] at k1 k2
  rw [qck]
  split
  ·rename_i hxy
   unfold SrtR
   rw [List.pairwise_cons]
   refine ⟨fun z hz => ?_, qd2 a (y :: b) k1.2 h2 ha' hb⟩
   rcases (q7q a (y :: b) ha' hb z).1 hz with h | h
   ·exact k1.1 z h
   ·rcases List.mem_cons.1 h with h | h
    ·rw [h]; exact hxy
    ·exact q9u hxy (k2.1 z h)
  ·split
   ·rename_i h0
    have e := qje (ha x (by simp)) (hb y (by simp)) h0
    subst e
    unfold SrtR
    rw [List.pairwise_cons]
    refine ⟨fun z hz => ?_, qd2 a b k1.2 k2.2 ha' hb'⟩
    rcases (q7q a b ha' hb' z).1 hz with h | h
    ·exact k1.1 z h
    ·exact k2.1 z h
   ·rename_i n1 n2
    have hyx : q3x y x < 0 := by have := q5b x y; omega
    unfold SrtR
    rw [List.pairwise_cons]
    refine ⟨fun z hz => ?_, qd2 (x :: a) b h1 k2.2 ha hb'⟩
    rcases (q7q (x :: a) b ha hb' z).1 hz with h | h
    ·rcases List.mem_cons.1 h with h | h
     ·rw [h]; exact hyx
     ·exact q9u hyx (k1.1 z h)
    ·exact k2.1 z h
 termination_by a b => a.length + b.length
theorem mrgR_ord {l a b : List Rec} (hl : ∀ y ∈ l, q96 y) (h : ∀ x, x ∈ l ↔ x ∈ a ∨ x ∈ b) : qck (q84 a) (q84 b) = q84 l := by
 have ha : ∀ y ∈ a, q96 y := fun y hy => hl y ((h y).2 (.inl hy))
 have hb : ∀ y ∈ b, q96 y := fun y hy => hl y ((h y).2 (.inr hy))
 have ha' : ∀ y ∈ q84 a, q96 y := fun y hy => ha y (q8t hy)
 have hb' : ∀ y ∈ q84 b, q96 y := fun y hy => hb y (q8t hy)
 refine q8d hl (qd2 _ _ (q8u a) (q8u b) ha' hb') fun x => ?_
 rw [q7q _ _ ha' hb', q3u ha, q3u hb, h x]
theorem zpj {a b : List Rec} {i j : Nat} {x y : Rec} (hx : a[i]? = some x) (hy : b[j]? = some y) : qck (a.drop i) (b.drop j) = if q3x x y < 0 then x :: qck (a.drop (i + 1)) (b.drop j) else if q3x x y = 0 then x :: qck (a.drop (i + 1)) (b.drop (j + 1)) else y :: qck (a.drop i) (b.drop (j + 1)) := by
 have e1 : a.drop i = x :: a.drop (i + 1) := by
  rw [List.getElem?_eq_some_iff] at hx
  obtain ⟨h, rfl⟩ := hx
  exact List.drop_eq_getElem_cons h
 have e2 : b.drop j = y :: b.drop (j + 1) := by
  rw [List.getElem?_eq_some_iff] at hy
  obtain ⟨h, rfl⟩ := hy
  exact List.drop_eq_getElem_cons h
 conv => lhs; rw [e1, e2, qck, ← e1, ← e2]

def NewQ (t : Tmp) (cs : List AVal) : Ex → AS → Prop
 | .ret, s => ∃ k, s.T t = .ptr k 0 ∧ s.M k = some (.cells cs) ∧ q0k cs = true
 | _, _ => False
theorem qe3 {P : Program} {fn : Func} {t : Tmp} (hrs : fn.results.toList = [.tmp t]) (tm : Array Value) (w : World) : (results fn tm).run P w = .ok (tm.getD t undef) w := by
 have hm : (fn.results.mapM (fun r => match r with | .tmp t => pure (tm.getD t undef) | .cell c t => do loadVar t (← asAddr (tm.getD c undef)) : ResultVar → Sem Value)).run P w = .ok #[tm.getD t undef] w := by
  rw [Array.mapM_eq_mapM_toList, hrs]
  simp only [Sem.run_map, List.mapM_cons, List.mapM_nil, Sem.run_bind, Sem.run_pure, Result.andThen]
 unfold results
 simp only [Sem.run_bind]
 refine Eq.trans (congrArg (fun r => Result.andThen r _) hm) ?_
 simp [Result.andThen]
theorem EvNew.of_body {E : Env} {f : FuncId} {n : Nat} {t : Tmp} {sc : SC} (hf : FnIs E.P f n [.tmp t] sc) {args cs : List AVal} (hl : args.length ≤ n)
 (h : AW E n sc (NewQ t cs) ⟨q87 args, NoM⟩) : EvNew E.P f args cs := by
 obtain ⟨fn, c, h1, h2, h3, rfl, hrs, h6⟩ := hf
 refine ⟨⟨fn, h1, h2, by simp [h3]⟩, fun B w vs G hG hsz hv hB => ?_⟩
 refine calls_of_wp h1 h3 ?_
 have hR : Rel fn.ntmps B G ⟨q87 args, NoM⟩ { tmps := vs ++ Array.replicate (fn.ntmps - vs.size) undef, defers := [] } w := by
  refine ⟨by simp; omega, rfl, fun t => ?_, fun k blk hk => by simp [NoM] at hk, fun b hb => ⟨hB b hb, hG b⟩, fun b hb => absurd (hG b) hb⟩
  simp only [q87]
  cases ht : args[t]? with
  | none => exact .undef _
  | some x =>
   have hlt : t < vs.size := by
    rw [hsz]
    rcases Nat.lt_or_ge t args.length with h' | h'
    ·exact h'
    ·rw [List.getElem?_eq_none h'] at ht; cases ht
   have : (vs ++ Array.replicate (fn.ntmps - vs.size) undef).getD t undef = vs[t] := by
    rw [Array.getD_eq_getD_getElem?, Array.getElem?_append_left hlt]
    simp [hlt]
   simp only [Option.getD_some, this]
   exact hv t x _ ht (by simp [hlt])
 refine h c h6 B G _ w hR _ fun e s a' w' G' hA hR' hq => ?_
 cases e with
 | normal => exact hq.elim
 | exit id => exact hq.elim
 | pan x => exact hq.elim
 | ret =>
  obtain ⟨k, q1, q2, q3⟩ := hq
  have hx := hR'.temps t
  rw [q1] at hx
  have e1 : a'.tmps.getD t undef = .pointer (some ⟨G'.β k, 0, none⟩) := by
   generalize a'.tmps.getD t undef = tv at hx
   cases hx
   rfl
  obtain ⟨cc, el, b1, b2, b3, b4, b5⟩ := hR'.mem k _ q2
  let G2 : Gh := { G' with ow := fun b => if b = G'.β k then G'.ow b else none }
  have g2 : ∀ b, G'.ow b = none → G2.ow b = none := fun b hb => by simp only [G2]; split <;> first | exact hb | rfl
  have hge : w.heap.size ≤ G'.β k := by
   rcases Nat.lt_or_ge (G'.β k) w.heap.size with h' | h'
   ·have := (hA.keep _ h' (hG _)).2
    rw [b1] at this
    cases this
   ·exact h'
  refine ⟨hR'.defers, _, qe3 hrs a'.tmps w', G2, G'.β k, cc, el, hge, hR'.ol _ (by rw [b1]; simp), by simp only [G2, if_true]; rw [b1]; simp,
   ⟨hA.os, hA.tape, hA.output, hA.size, fun b hb ho => ⟨(hA.keep b hb ho).1, g2 b (hA.keep b hb ho).2⟩⟩, by rw [e1], b3, b4, fun i x hx => ?_⟩
  obtain ⟨u, hu, hcr⟩ := b5 i x hx
  have hst : x.stb = true := q49 q3 hx
  refine ⟨u, hu, ?_⟩
  have hvr : VR (Dm s.M) G' B w' x u := by
   cases x <;> first | exact hcr | (simp [AVal.stb] at hst; done)
  exact hvr.stable (fun b _ hn ho => ⟨rfl, hn, g2 b ho⟩) hst

def FrQ (t : Tmp) (sz : Nat) (xs : List AVal) : Ex → AS → Prop
 | .ret, s => ∃ k e, s.T t = .os k e ∧ s.M k = some (.arr e sz xs) ∧ q0k xs = true
 | _, _ => False
theorem EvFresh.of_body {E : Env} {f : FuncId} {n : Nat} {t : Tmp} {sc : SC} (hf : FnIs E.P f n [.tmp t] sc) {args xs : List AVal} {sz : Nat} (hl : args.length ≤ n)
 (h : AW E n sc (FrQ t sz xs) ⟨q87 args, NoM⟩) : EvFresh E.P f args sz xs := by
 obtain ⟨fn, c, h1, h2, h3, rfl, hrs, h6⟩ := hf
 refine ⟨⟨fn, h1, h2, by simp [h3]⟩, fun B w vs G hG hsz hv hB => ?_⟩
 refine calls_of_wp h1 h3 ?_
 have hR : Rel fn.ntmps B G ⟨q87 args, NoM⟩ { tmps := vs ++ Array.replicate (fn.ntmps - vs.size) undef, defers := [] } w := by
  refine ⟨by simp; omega, rfl, fun t => ?_, fun k blk hk => by simp [NoM] at hk, fun b hb => ⟨hB b hb, hG b⟩, fun b hb => absurd (hG b) hb⟩
  simp only [q87]
  cases ht : args[t]? with
  | none => exact .undef _
  | some x =>
   have hlt : t < vs.size := by
    rw [hsz]
    rcases Nat.lt_or_ge t args.length with h' | h'
    ·exact h'
    ·rw [List.getElem?_eq_none h'] at ht; cases ht
   have : (vs ++ Array.replicate (fn.ntmps - vs.size) undef).getD t undef = vs[t] := by
    rw [Array.getD_eq_getD_getElem?, Array.getElem?_append_left hlt]
    simp [hlt]
   simp only [Option.getD_some, this]
   exact hv t x _ ht (by simp [hlt])
 refine h c h6 B G _ w hR _ fun e s a' w' G' hA hR' hq => ?_
 cases e with
 | normal => exact hq.elim
 | exit id => exact hq.elim
 | pan x => exact hq.elim
 | ret =>
  obtain ⟨k, e, q1, q2, q3⟩ := hq
  have hx := hR'.temps t
  rw [q1] at hx
  have e1 : a'.tmps.getD t undef = G'.hd k e := by generalize a'.tmps.getD t undef = q at hx; cases hx with | os _ _ _ v hv => exact hv
  have hb : OwnAt (Dm s.M) G' B w' (.arr k) sz xs (G'.hd k e) := hR'.mem k _ q2
  let G2 : Gh := { G' with ow := fun b => if G'.ow b = some (.arr k) then some (.arr k) else none }
  have g2 : ∀ b, G'.ow b = none → G2.ow b = none := fun b hb => by simp [G2, hb]
  refine ⟨hR'.defers, _, qe3 hrs a'.tmps w', G2, G'.hd k e, .arr k, by rw [e1], ⟨hA.os, hA.tape, hA.output, hA.size, fun b hb ho => ⟨(hA.keep b hb ho).1, g2 b (hA.keep b hb ho).2⟩⟩, fun b hb' => hR'.ol b fun hn => hb' (g2 b hn), ?_⟩
  exact hb.trade (fun b hb ho => ⟨hb, by simp [G2, ho]⟩) fun x hx u hr => hr.stable (fun b _ hn ho => ⟨rfl, hn, g2 b ho⟩) (q3n q3 x hx)
theorem zd7 {P : Program} {s : AS} {x : Operand} {args : Array Operand} {ts : Array TypeId} {f : FuncId} {caps l xs : List AVal} {sz : Nat} (k : Nat) (hf : ev s.T x = .fn f caps)
 (hl : (evs s.T args.toList ++ caps).map (fz (fun _ => false) s.M) = l) (hst : q0k l = true) (he : EvFresh P f l sz xs) (hk : s.M k = none) :
 Hook P s (.call ⟨.value x, args, ts⟩) (fun v M' => v = .os k 0 ∧ M' = upd s.M k (some (.arr 0 sz xs))) := by
 intro n B G a w h o ho K Q hK
 subst hl
 obtain ⟨fn, hfn, hnm, hbd⟩ := he.1.ok
 have hx := h.ev x
 rw [hf] at hx
 generalize hxv : a.eval x = xv at hx
 cases hx with
 | fn _ _ vs hl hh =>
  have hrun : (execOp a.eval o).run P w = .ok (.enter f (args.map a.eval ++ vs)) w := by
   unfold execOp
   rw [ho]
   have h1 : (fn.name = "runtime.NumGoroutine") = False := by simpa using hnm
   have h2 : (fn.body = none) = False := by simp only [eq_iff_iff, iff_false]; intro hn; rw [hn] at hbd; simp at hbd
   simp [resolve, hxv, Deferred.ofValue, invoke, callFunc, hfn, h1, h2]
  unfold Oper.wp
  rw [hrun]
  simp only [Oper.upon]
  obtain ⟨q1, q2⟩ := qc1 h args
  refine qcj h (args := evs s.T args.toList ++ caps) (by simp [q1, hl]) (fun i y u hy hu => ?_) hst he hk (fun v' w' G' hA hR hV => hK _ v' _ w' G' ⟨rfl, rfl⟩ hA hR hV)
  rcases Nat.lt_or_ge i (evs s.T args.toList).length with hlt | hge
  ·rw [List.getElem?_append_left hlt] at hy
   rw [Array.getElem?_append_left (by rw [q1]; exact hlt)] at hu
   obtain ⟨u', hu', hr'⟩ := q2 i y hy
   rw [hu] at hu'
   exact (Option.some.inj hu') ▸ hr'
  ·rw [List.getElem?_append_right hge] at hy
   rw [Array.getElem?_append_right (by rw [q1]; exact hge), q1] at hu
   exact hh _ y u hy hu
theorem zq4 {P : Program} {TE : TyE} (hT : q4g P TE) {s : AS} {t el : TypeId} {i ei : TyI} {x y : Operand} {k e sz : Nat} {xs : List AVal} {kk : IntKind} {m : Nat} (hx : ev s.T x = .os k e) (hk : s.M k = some (.arr e sz xs)) (hy : ev s.T y = .int kk (m : Int))
 (hm : m ≤ xs.length) (ht : TE t = some i) (htd : i.td = .slice el) (he : TE el = some ei) (hei : ei.size = sz) :
 Hook P s (.slice t x none (some y) none) (fun v M' => v = .os k (e + 1) ∧ M' = upd s.M k (some (.arr (e + 1) sz (xs.take m)))) := by
 intro n B G a w h o ho K Q hK
 have qx := h.ev x
 have qy := h.ev y
 rw [hx] at qx
 rw [hy] at qy
 generalize hxv : a.eval x = xv at qx
 generalize hyv : a.eval y = yv at qy
 have hO : OVR (Dm s.M) G B w (some (.int kk (m : Int))) (some yv) := qy
 have hO0 : OVR (Dm s.M) G B w none none := trivial
 have hb1 : q29 none 0 = some 0 := rfl
 have hb2 : ∀ d, q29 (some (.int kk (m : Int))) d = some m := fun d => by simp [q29]
 have fin : ∀ (v' : Value) (G' : Gh), (Instr.sliceAt t xv none (some yv) none).run P w = .ok v' w → Adv G w G' w → Rel n B G' ⟨s.T, upd s.M k (some (.arr (e + 1) sz (xs.take m)))⟩ a w → v' = G'.hd k (e + 1) → o.wp P a w K Q := by
  intro v' G' hrun hA hR hv
  have : (execOp a.eval o).run P w = .ok (.value v') w := by
   unfold execOp
   rw [ho]
   simp [hxv, hyv, hrun]
  unfold Oper.wp
  rw [this]
  exact hK (.os k (e + 1)) v' _ w G' ⟨rfl, rfl⟩ hA hR (.os k (e + 1) (by simp [Dm, q0b]) v' hv)
 cases qx with
 | os _ _ hD _ hvv =>
  have hown := h.mem k _ hk
  simp only [BlkRel] at hown
  rcases hown with ⟨hn, rfl⟩ | ⟨b, o', cap, c, el', q1, q2, q3, q4, q5, q6, q7, q7', q8⟩
  ·obtain rfl : m = 0 := by simpa using hm
   have := q2p (P := P) hO0 hO (isS := true) (len := 0) (cap := 0) hb1 (hb2 0) (Nat.le_refl _) (Nat.le_refl _)
   obtain ⟨G', hA, hR, hh⟩ := h.nil_arr (k := k) (e := e + 1) (.inr ⟨e, sz, _, hk, rfl⟩) sz
   refine fin (.slice none 0 0) G' ?_ hA (by simpa using hR) hh.symm
   rw [hvv, hn, q0z hT ht htd he this]
   simp
  ·have := q2p (P := P) hO0 hO (isS := true) (len := xs.length) (cap := cap) hb1 (hb2 _) (Nat.zero_le _) (by omega)
   have hself : w.setRow b c = w := setRow_self w b c el' (0, 0) q5
   obtain ⟨G', hA, hR, hh⟩ := h.set_arr hk q1 (e + 1) o' (.inl rfl) (xs.take m) (fun h => by omega) cap (by simp; omega) (fun h => by omega) q5 q3 c q6
    (fun z hz => q7 z (List.mem_of_mem_take hz)) (fun z hz => by rw [q61 q7] at hz; exact q7' z (List.mem_of_mem_take hz)) (fun i x hx => by
     rw [q61 q7, List.getElem?_take] at hx
     split at hx
     ·exact q8 i x hx
     ·cases hx)
   rw [hself] at hA hR
   refine fin _ G' ?_ hA hR hh.symm
   rw [hvv, q1, q0z hT ht htd he this, List.length_take, Nat.min_eq_left hm]
   by_cases hc : cap = 0
   ·simp [hc]
   ·rw [if_neg hc]
    simp [q3y]
theorem qhu {P : Program} {t1 t2 e ty : TypeId} {ik : IntKind} {nm : Bool} (hu : P.underlying t1 = some (.slice e)) (hu2 : P.underlying t2 = some (.int ik)) {inf : TypeInfo} (hi : P.info? e = some inf) {z : Value} (hz : inf.zero = some z) {w : World} {m : Nat} (h0 : 0 < m) (hsz : 0 < inf.size)
 (hm : m ≤ 1000000000) (hfit : m * inf.bytes ≤ 281474976710656) :
 (Builtin.append_ #[t1, t2] ty #[.slice none 0 0, .int .i64 (m : Int)]).run P w =
  .ok (.slice (some ⟨w.heap.size, 0, none⟩) m (grownCap w m 0 e)) (w.drew.alloc (.cells (Builtin.zeroCells z.cells m ++ Builtin.zeroCells z.cells (grownCap w m 0 e - m)) e)) := by
 have hw : IntKind.i64.wrap (m : Int) = (m : Int) := q7i (by omega) (by omega)
 have hne : ¬ (m * inf.size = 0) := by
  intro h
  rcases Nat.mul_eq_zero.1 h with h | h <;> omega
 have hnx : Builtin.nextslicecap m 0 = m := by
  unfold Builtin.nextslicecap
  rw [if_pos (by omega)]
 have h48b : ¬ ((m : Int) * (inf.bytes : Int) > 281474976710656) := by
  have h1 : (m : Int) * (inf.bytes : Int) = ((m * inf.bytes : Nat) : Int) := (Int.natCast_mul m inf.bytes).symm
  rw [h1]
  omega
 have h48 : ¬ ((m : Int) * (inf.bytes : Int) > 2 ^ 48) := by
  rw [show (2 : Int) ^ 48 = 281474976710656 by decide]
  exact h48b
 have hmax : IntKind.i64.max = 9223372036854775807 := by decide
 have h63 : ¬ ((m : Int) > IntKind.i64.max) := by rw [hmax]; omega
 have h49 : ¬ (281474976710656 < m * inf.bytes) := by omega
 simp [Builtin.append_, run_underlying hu, run_underlying hu2, sizeOf, typeInfo, zeroValue, hi, hz, asInt, asIntOf, hw, hne, hnx, h48, h48b, h63, h49, Question.forced, Builtin.firstCells, newRow, grownCap]
 rw [if_neg (by omega), if_neg (by omega), if_neg (by omega)]
theorem zd6 {P : Program} {TE : TyE} (hT : q4g P TE) {s : AS} {t1 t2 el : TypeId} {i1 i2 ei : TyI} {ik : IntKind} {x y : Operand} {m : Nat} (d : Nat) (hx : ev s.T x = .nil) (hy : ev s.T y = .int .i64 (m : Int)) (h0 : 0 < m) (hm : m ≤ 1000000000)
 (ht1 : TE t1 = some i1) (hd1 : i1.td = .slice el) (ht2 : TE t2 = some i2) (hd2 : i2.td = .int ik) (he : TE el = some ei) (hok : ei.okElem = true) (hb : m * ei.bytes ≤ 281474976710656) (hd : s.M d = none) :
 Hook P s (.call ⟨.builtin .append, #[x, y], #[t1, t2]⟩) (fun v M' => v = .os d 0 ∧ M' = upd s.M d (some (.arr 0 ei.size (List.replicate m ei.zeroElem)))) := by
 intro n B G a w h o ho K Q hK
 have qx := h.ev x
 have qy := h.ev y
 rw [hx] at qx
 rw [hy] at qy
 generalize hxv : a.eval x = xv at qx
 generalize hyv : a.eval y = yv at qy
 cases qx
 cases qy
 obtain ⟨o1, o2, o3, o4⟩ := q7p hT he hok
 obtain ⟨dd, inf, q1, q2, q3, q4, q5, q6, q7⟩ := hT el ei he
 have hu := q2a hT ht1 hd1
 have hu2 : P.underlying t2 = some (.int ik) := by
  obtain ⟨d2, inf2, r1, r2, _⟩ := hT t2 i2 ht2
  rw [hd2] at r2
  cases d2 <;> simp [TD.of] at r2
  subst r2
  exact r1
 have hrun := qhu (P := P) (ty := o.type) (nm := true) hu hu2 q3 q6 (w := w) h0 (by rw [q4]; exact o1) hm (by rw [q5]; exact hb)
 have hzl : ei.zeroElem.cells.length = ei.size := by rw [o2, o3]
 have hzs : ∀ x ∈ List.replicate m ei.zeroElem, x.cells.length = ei.size := fun x hx => by rw [List.eq_of_mem_replicate hx]; exact hzl
 have hcap : m ≤ grownCap w m 0 el := grownCap_ge _ _ _ _
 have hz1 : (Builtin.zeroCells ei.zero.cells m).size = m * ei.size := by rw [size_zeroCells, q7]
 have hz2 : (Builtin.zeroCells ei.zero.cells (grownCap w m 0 el - m)).size = (grownCap w m 0 el - m) * ei.size := by rw [size_zeroCells, q7]
 have hfz : (flat (List.replicate m ei.zeroElem)).length = m * ei.size := by rw [q0p hzs]; simp
 have hzr : ∀ (j : Nat) (x : AVal), (flat (List.replicate m ei.zeroElem))[j]? = some x → ∃ u, (Builtin.zeroCells ei.zero.cells m)[j]? = some u ∧ VR (Dm s.M) G B (w.drew) x u := by
  have := qcs hT he (D := Dm s.M) (G := G) (B := B) (w := w.drew) o2 o1 m m (Nat.le_refl _)
  unfold Builtin.zeroCells
  rw [show m * ei.zero.cells.size = m * ei.size by rw [q7]]
  exact this
 obtain ⟨G', hA, hR, hh⟩ := (h.drawn (w.drawn + 1)).new_arr (k := d) (e := 0) (.inl hd) ei.size (grownCap w m 0 el) (List.replicate m ei.zeroElem) (Builtin.zeroCells ei.zero.cells m ++ Builtin.zeroCells ei.zero.cells (grownCap w m 0 el - m)) el
  (by simpa using hcap) (by rw [Array.size_append, hz1, hz2, ← Nat.add_mul]; exact Nat.mul_le_mul_right _ (by omega)) hzs
  (fun x hx => by
   obtain ⟨y, hy, hx⟩ := List.mem_flatMap.1 hx
   rw [List.eq_of_mem_replicate hy, o2] at hx
   exact o4 x hx)
  (fun i x hx => by
   obtain ⟨u, hu, hr⟩ := hzr i x hx
   have hlt : i < (Builtin.zeroCells ei.zero.cells m).size := by
    rcases Nat.lt_or_ge i (Builtin.zeroCells ei.zero.cells m).size with h' | h'
    ·exact h'
    ·rw [Array.getElem?_eq_none h'] at hu; cases hu
   exact ⟨u, by rw [Array.getElem?_append_left hlt]; exact hu, hr⟩)
 have hex : (execOp a.eval o).run P w = .ok (.value (.slice (some ⟨w.heap.size, 0, none⟩) m (grownCap w m 0 el))) (w.drew.alloc (.cells (Builtin.zeroCells ei.zero.cells m ++ Builtin.zeroCells ei.zero.cells (grownCap w m 0 el - m)) el)) := by
  have he : execOp a.eval o = builtin .append #[t1, t2] o.type (#[x, y].map fun | .const _ => true | _ => false) (#[x, y].map a.eval) := by
   unfold execOp
   rw [ho]
   rfl
  have hq : #[x, y].map a.eval = #[.slice none 0 0, .int .i64 (m : Int)] := by simp [hxv, hyv]
  have hb2 : builtin .append #[t1, t2] o.type (#[x, y].map fun | .const _ => true | _ => false) #[.slice none 0 0, .int .i64 (m : Int)] = (do pure (.value (← Builtin.append_ #[t1, t2] o.type #[.slice none 0 0, .int .i64 (m : Int)]))) := rfl
  rw [he, hq, hb2]
  simp [hrun]
 unfold Oper.wp
 rw [hex]
 refine hK (.os d 0) _ _ _ G' ⟨rfl, rfl⟩ ((Adv.drawn G w _).trans hA) hR (.os d 0 (by simp [Dm, q0b]) _ ?_)
 rw [hh, List.length_replicate]
theorem qf4 {P : Program} {TE : TyE} (hT : q4g P TE) {s : AS} {t el : TypeId} {i : TyI} {x : Operand} (hx : ev s.T x = .nil) (ht : TE t = some i) (hd : i.td = .slice el) :
 Hook P s (.call ⟨.builtin .cap, #[x], #[t]⟩) (fun v M' => v = .int .i64 0 ∧ M' = s.M) := by
 intro n B G a w h o ho K Q hK
 have qx := h.ev x
 rw [hx] at qx
 generalize hxv : a.eval x = xv at qx
 cases qx
 have hu := q2a hT ht hd
 have hex : (execOp a.eval o).run P w = .ok (.value (.int .i64 0)) w := by
  have he : execOp a.eval o = builtin .cap #[t] o.type (#[x].map fun | .const _ => true | _ => false) (#[x].map a.eval) := by
   unfold execOp
   rw [ho]
   rfl
  have hq : #[x].map a.eval = #[.slice none 0 0] := by simp [hxv]
  have hb2 : builtin .cap #[t] o.type (#[x].map fun | .const _ => true | _ => false) #[.slice none 0 0] = (do pure (.value (← Builtin.cap_ #[t] o.type #[.slice none 0 0]))) := rfl
  rw [he, hq, hb2]
  simp [Builtin.cap_, run_underlying hu, goInt]
 unfold Oper.wp
 rw [hex]
 exact hK (.int .i64 0) _ s.M w G ⟨rfl, rfl⟩ (.refl G w) h (.int _ _)

def odd (n : Nat) : Bool := decide (n % 2 = 1)
theorem zpd (n : Nat) : odd n = true ↔ n % 2 = 1 := by simp [odd]
theorem odd_succ (n : Nat) : odd (n + 1) = !odd n := by
 unfold odd
 rcases Nat.mod_two_eq_zero_or_one n with h | h
 ·have : (n + 1) % 2 = 1 := by omega
  simp [h, this]
 ·have : (n + 1) % 2 = 0 := by omega
  simp [h, this]
structure CbI (a b : List Int) (f : Bool → Bool → Bool) (i j : Nat) (v : Bool) (t : List Int) : Prop where
 hi : i ≤ a.length
 hj : j ≤ b.length
 sa : ∀ x ∈ t, ∀ y ∈ a.drop i, x < y
 sb : ∀ x ∈ t, ∀ y ∈ b.drop j, x < y
 ab : ∀ x ∈ a.take i, ∀ y ∈ b.drop j, x < y
 ba : ∀ x ∈ b.take j, ∀ y ∈ a.drop i, x < y
 rise : t.Pairwise (fun x y => x < y)
 val : v = f (odd i) (odd j)
 len : odd t.length = v
 le : t.length ≤ i + j
 mem : ∀ m, odd (cnt t m) = f (odd (cnt (a.take i) m)) (odd (cnt (b.take j) m))
theorem CbI.start {a b : List Int} {f : Bool → Bool → Bool} (hf : f false false = false) : CbI a b f 0 0 false [] := by
 refine ⟨Nat.zero_le _, Nat.zero_le _, by simp, by simp, by simp, by simp, .nil, by simp [odd, hf], rfl, Nat.le_refl _, fun m => ?_⟩
 simp [q6x, odd, hf]
theorem CbI.step {a b : List Int} {f : Bool → Bool → Bool} (hra : a.Pairwise (fun x y => x < y)) (hrb : b.Pairwise (fun x y => x < y)) {i j : Nat} {v : Bool} {t : List Int} (h : CbI a b f i j v t) {x : Int} {i' j' : Nat}
 (ha : (i' = i + 1 ∧ a[i]? = some x) ∨ (i' = i ∧ ∀ y ∈ a.drop i, x < y)) (hb : (j' = j + 1 ∧ b[j]? = some x) ∨ (j' = j ∧ ∀ y ∈ b.drop j, x < y)) (hx : i' = i + 1 ∨ j' = j + 1) :
 CbI a b f i' j' (f (odd i') (odd j')) (if f (odd i') (odd j') = v then t else t ++ [x]) := by
 have key : ∀ (l : List Int) (k k' : Nat), l.Pairwise (fun x y => x < y) → k ≤ l.length → ((k' = k + 1 ∧ l[k]? = some x) ∨ (k' = k ∧ ∀ y ∈ l.drop k, x < y)) →
  k' ≤ l.length ∧ (∀ y ∈ l.drop k', x < y) ∧ (∀ y ∈ l.take k', y ∈ l.take k ∨ y = x) ∧ (∀ y ∈ l.drop k', y ∈ l.drop k) ∧ (∀ m, m < x → cnt (l.take k') m = cnt (l.take k) m) ∧ (l.take k').length = k' := by
  intro l k k' hr hk hc
  rcases hc with ⟨rfl, hg⟩ | ⟨rfl, hg⟩
  ·obtain ⟨hlt, he⟩ := List.getElem?_eq_some_iff.1 hg
   have hd : l.drop k = x :: l.drop (k + 1) := by rw [List.drop_eq_getElem_cons hlt, he]
   have ht : l.take (k + 1) = l.take k ++ [x] := by rw [List.take_add_one, hg]; rfl
   have hp : (x :: l.drop (k + 1)).Pairwise (fun x y => x < y) := by rw [← hd]; exact hr.drop
   refine ⟨hlt, fun y hy => (List.pairwise_cons.1 hp).1 y hy, fun y hy => ?_, fun y hy => by rw [hd]; exact List.mem_cons_of_mem _ hy, fun m hm => ?_, by rw [List.length_take]; omega⟩
   ·rw [ht] at hy
    simpa using hy
   ·rw [ht, q5f, q27, if_neg (by omega), q6x]; rfl
  ·exact ⟨hk, hg, fun y hy => .inl hy, fun y hy => hy, fun _ _ => rfl, by rw [List.length_take]; omega⟩
 obtain ⟨a1, a2, a3, a4, a5, a6⟩ := key a i i' hra h.hi ha
 obtain ⟨b1, b2, b3, b4, b5, b6⟩ := key b j j' hrb h.hj hb
 have hxin : (x ∈ a.drop i) ∨ (x ∈ b.drop j) := by
  rcases hx with e | e
  ·rcases ha with ⟨_, hg⟩ | ⟨e2, _⟩
   ·obtain ⟨hlt, he⟩ := List.getElem?_eq_some_iff.1 hg
    exact .inl (by rw [List.drop_eq_getElem_cons hlt, he]; exact List.mem_cons_self)
   ·omega
  ·rcases hb with ⟨_, hg⟩ | ⟨e2, _⟩
   ·obtain ⟨hlt, he⟩ := List.getElem?_eq_some_iff.1 hg
    exact .inr (by rw [List.drop_eq_getElem_cons hlt, he]; exact List.mem_cons_self)
   ·omega
 have tx : ∀ y ∈ t, y < x := fun y hy => by
  rcases hxin with e | e
  ·exact h.sa y hy x e
  ·exact h.sb y hy x e
 have ax : ∀ y ∈ a.take i, y < x := fun y hy => by
  rcases hxin with e | e
  ·have h1 := hra
   rw [← List.take_append_drop i a, List.pairwise_append] at h1
   exact h1.2.2 y hy x e
  ·exact h.ab y hy x e
 have bx : ∀ y ∈ b.take j, y < x := fun y hy => by
  rcases hxin with e | e
  ·exact h.ba y hy x e
  ·have h1 := hrb
   rw [← List.take_append_drop j b, List.pairwise_append] at h1
   exact h1.2.2 y hy x e
 have ax' : ∀ y ∈ a.take i', y ≤ x := fun y hy => by
  rcases a3 y hy with e | e
  ·have := ax y e; omega
  ·omega
 have bx' : ∀ y ∈ b.take j', y ≤ x := fun y hy => by
  rcases b3 y hy with e | e
  ·have := bx y e; omega
  ·omega
 have tx' : ∀ y ∈ (if f (odd i') (odd j') = v then t else t ++ [x]), y ≤ x := fun y hy => by
  split at hy
  ·have := tx y hy; omega
  ·rcases List.mem_append.1 hy with e | e
   ·have := tx y e; omega
   ·simp at e; omega
 have hlen : odd (if f (odd i') (odd j') = v then t else t ++ [x]).length = f (odd i') (odd j') := by
  by_cases e : f (odd i') (odd j') = v
  ·rw [if_pos e, h.len, e]
  ·rw [if_neg e, List.length_append]
   show odd (t.length + 1) = _
   rw [odd_succ, h.len]
   revert e
   cases v <;> cases f (odd i') (odd j') <;> simp
 refine ⟨a1, b1, fun y hy z hz => ?_, fun y hy z hz => ?_, fun y hy z hz => ?_, fun y hy z hz => ?_, ?_, rfl, hlen, ?_, fun m => ?_⟩
 ·have := tx' y hy; have := a2 z hz; omega
 ·have := tx' y hy; have := b2 z hz; omega
 ·have := ax' y hy; have := b2 z hz; omega
 ·have := bx' y hy; have := a2 z hz; omega
 ·split
  ·exact h.rise
  ·exact qei h.rise tx
 ·have h1 := h.le
  have h2 : i + j + 1 ≤ i' + j' := by omega
  split
  ·omega
  ·simp only [List.length_append, List.length_cons, List.length_nil]; omega
 ·rcases Int.lt_or_le m x with hm | hm
  ·rw [a5 m hm, b5 m hm, ← h.mem m]
   congr 1
   split
   ·rfl
   ·rw [q5f, q27, if_neg (by omega), q6x]; rfl
  ·rw [q8o (fun y hy => Int.le_trans (ax' y hy) hm), q8o (fun y hy => Int.le_trans (bx' y hy) hm), q8o (fun y hy => Int.le_trans (tx' y hy) hm), a6, b6, hlen]
theorem CbI.done {a b : List Int} {f : Bool → Bool → Bool} {v : Bool} {t : List Int} (h : CbI a b f a.length b.length v t) (hf : f false false = false) {p q : Int → Prop} (ha : Turns p a) (hb : Turns q b) (r : Int → Prop)
 (hr : ∀ m, r m ↔ f (odd (cnt a m)) (odd (cnt b m)) = true) : Turns r t := by
 refine ⟨h.rise, ?_, fun m => ?_⟩
 ·have h1 := h.val
  have e1 : odd a.length = false := by have := ha.even; simp [odd]; omega
  have e2 : odd b.length = false := by have := hb.even; simp [odd]; omega
  rw [e1, e2, hf] at h1
  have := h.len
  rw [h1] at this
  simp [odd] at this
  omega
 ·rw [hr, ← zpd, h.mem m, List.take_length, List.take_length]

def qz9 : List SOp := [zO 6 (.assign (.const (.slice none 0 0)))]
instance : Live qz9 := ⟨[0,1,2]⟩
def qz8 : List SOp := [zO 7 (.assign (.const (.slice none 0 0)))]
instance : Live qz8 := ⟨[0,1,2]⟩
def qz7 : List SOp := [zO 8 (.assign (.const (.int .i64 0))),zO 9 (.assign (.const (.int .i64 0)))]
instance : Live qz7 := ⟨[0,1,2,7]⟩
def qz6 : List SOp := [zO 10 (.assign (.const (.bool false)))]
instance : Live qz6 := ⟨[0,1,2,7,8,9]⟩
def qi4 : List SOp := [zM 15 8,zM 16 0,zO 17 (.call ⟨.builtin .len,#[.tmp 16],#[23]⟩),zO 18 (.binOp .lss 3 (.tmp 15) (.tmp 17) 3),zM 19 18,⟨some 20,.move (.tmp 9),some ((some 19),false)⟩,⟨some 21,.move (.tmp 1),some ((some 19),false)⟩,⟨some 22,.call ⟨.builtin .len,#[.tmp 21],#[23]⟩,some ((some 19),false)⟩,⟨some 23,.binOp .lss 3 (.tmp 20) (.tmp 22) 3,some ((some 19),false)⟩,zO 24 (.pick (.tmp 19) (.const (.bool true)) (.tmp 23))]
instance : Live qi4 := ⟨[0,1,2,7,8,9,10]⟩
def qi3 : List SOp := [zO 11 (.assign (.const (.int .i64 0)))]
instance : Live qi3 := ⟨[0,1,2,7,8,9,10]⟩
def qi2 : List SOp := [zM 25 9,zM 26 1,zO 27 (.call ⟨.builtin .len,#[.tmp 26],#[23]⟩),zO 28 (.binOp .eql 3 (.tmp 25) (.tmp 27) 3),zM 29 28,⟨some 30,.move (.tmp 8),some ((some 29),false)⟩,⟨some 31,.move (.tmp 0),some ((some 29),false)⟩,⟨some 32,.call ⟨.builtin .len,#[.tmp 31],#[23]⟩,some ((some 29),false)⟩,⟨some 33,.binOp .lss 3 (.tmp 30) (.tmp 32) 3,some ((some 29),false)⟩,⟨some 34,.move (.tmp 33),some ((some 29),false)⟩,⟨some 35,.move (.tmp 0),some ((some 34),true)⟩,⟨some 36,.move (.tmp 8),some ((some 34),true)⟩,⟨some 37,.indexAddr 23 (.tmp 35) (.tmp 36),some ((some 34),true)⟩,⟨some 38,.load 3 (.tmp 37),some ((some 34),true)⟩,⟨some 39,.move (.tmp 1),some ((some 34),true)⟩,⟨some 40,.move (.tmp 9),some ((some 34),true)⟩,⟨some 41,.indexAddr 23 (.tmp 39) (.tmp 40),some ((some 34),true)⟩,⟨some 42,.load 3 (.tmp 41),some ((some 34),true)⟩,⟨some 43,.binOp .lss 3 (.tmp 38) (.tmp 42) 3,some ((some 34),true)⟩,⟨some 44,.pick (.tmp 34) (.tmp 43) (.const (.bool false)),some ((some 29),false)⟩,zO 45 (.pick (.tmp 29) (.const (.bool true)) (.tmp 44))]
instance : Live qi2 := ⟨[0,1,2,7,8,9,10]⟩
def qi1 : List SOp := [zM 46 0,zM 47 8,zI 48 23 46 47,zL 49 3 48,zG 11 49]
instance : Live qi1 := ⟨[0,1,2,7,8,9,10]⟩
def qi0 : List SOp := [zM 50 1,zM 51 9,zI 52 23 50 51,zL 53 3 52,zG 11 53]
instance : Live qi0 := ⟨[0,1,2,7,8,9,10]⟩
def qec : List SOp := [zM 54 8,zM 55 0,zO 56 (.call ⟨.builtin .len,#[.tmp 55],#[23]⟩),zO 57 (.binOp .lss 3 (.tmp 54) (.tmp 56) 3),zM 58 57,⟨some 59,.move (.tmp 0),some ((some 58),true)⟩,⟨some 60,.move (.tmp 8),some ((some 58),true)⟩,⟨some 61,.indexAddr 23 (.tmp 59) (.tmp 60),some ((some 58),true)⟩,⟨some 62,.load 3 (.tmp 61),some ((some 58),true)⟩,⟨some 63,.move (.tmp 11),some ((some 58),true)⟩,⟨some 64,.binOp .eql 3 (.tmp 62) (.tmp 63) 3,some ((some 58),true)⟩,zO 65 (.pick (.tmp 58) (.tmp 64) (.const (.bool false)))]
instance : Live qec := ⟨[0,1,2,7,8,9,10,11]⟩
def qeb : List SOp := [zM 66 8,zO 67 (.binOp .add 3 (.tmp 66) (.const (.int .i64 1)) 3),zG 8 67]
instance : Live qeb := ⟨[0,1,2,7,8,9,10,11]⟩
def qea : List SOp := [zM 68 9,zM 69 1,zO 70 (.call ⟨.builtin .len,#[.tmp 69],#[23]⟩),zO 71 (.binOp .lss 3 (.tmp 68) (.tmp 70) 3),zM 72 71,⟨some 73,.move (.tmp 1),some ((some 72),true)⟩,⟨some 74,.move (.tmp 9),some ((some 72),true)⟩,⟨some 75,.indexAddr 23 (.tmp 73) (.tmp 74),some ((some 72),true)⟩,⟨some 76,.load 3 (.tmp 75),some ((some 72),true)⟩,⟨some 77,.move (.tmp 11),some ((some 72),true)⟩,⟨some 78,.binOp .eql 3 (.tmp 76) (.tmp 77) 3,some ((some 72),true)⟩,zO 79 (.pick (.tmp 72) (.tmp 78) (.const (.bool false)))]
instance : Live qea := ⟨[0,1,2,7,8,9,10,11]⟩
def qe9 : List SOp := [zM 80 9,zO 81 (.binOp .add 3 (.tmp 80) (.const (.int .i64 1)) 3),zG 9 81]
instance : Live qe9 := ⟨[0,1,2,7,8,9,10,11]⟩
def qe8 : List SOp := [zM 82 8,zO 83 (.binOp .rem 3 (.tmp 82) (.const (.int .i64 2)) 3),zO 84 (.binOp .eql 3 (.tmp 83) (.const (.int .i64 1)) 3),zM 85 9,zO 86 (.binOp .rem 3 (.tmp 85) (.const (.int .i64 2)) 3),zO 87 (.binOp .eql 3 (.tmp 86) (.const (.int .i64 1)) 3),zG 12 84,zG 13 87]
instance : Live qe8 := ⟨[0,1,2,7,8,9,10,11]⟩
def qe7 : List SOp := [zM 88 2,zO 89 (.binOp .eql 3 (.tmp 88) (.const (.int .i64 1)) 3),zM 90 89,⟨some 91,.move (.tmp 12),some ((some 90),true)⟩,zO 92 (.pick (.tmp 90) (.tmp 91) (.const (.bool false))),zM 93 92,⟨some 94,.move (.tmp 13),some ((some 93),true)⟩,zO 95 (.pick (.tmp 93) (.tmp 94) (.const (.bool false))),zM 96 95,⟨some 97,.move (.tmp 2),some ((some 96),false)⟩,⟨some 98,.binOp .eql 3 (.tmp 97) (.const (.int .i64 2)) 3,some ((some 96),false)⟩,⟨some 99,.move (.tmp 98),some ((some 96),false)⟩,⟨some 100,.move (.tmp 12),some ((some 99),true)⟩,⟨some 101,.pick (.tmp 99) (.tmp 100) (.const (.bool false)),some ((some 96),false)⟩,⟨some 102,.move (.tmp 101),some ((some 96),false)⟩,⟨some 103,.move (.tmp 13),some ((some 102),true)⟩,⟨some 104,.unOp .not 4 (.tmp 103),some ((some 102),true)⟩,⟨some 105,.pick (.tmp 102) (.tmp 104) (.const (.bool false)),some ((some 96),false)⟩,zO 106 (.pick (.tmp 96) (.const (.bool true)) (.tmp 105)),zG 14 106]
instance : Live qe7 := ⟨[0,1,2,7,8,9,10,11,12,13]⟩
def qe6 : List SOp := [zM 107 14,zM 108 10,zO 109 (.binOp .neq 4 (.tmp 107) (.tmp 108) 4)]
instance : Live qe6 := ⟨[0,1,2,7,8,9,10,11,14]⟩
def qe5 : List SOp := [zM 110 7,zM 111 11,zO 112 (.buildSlice 23 1 #[(0,.tmp 111)]),zO 113 (.call ⟨.builtin .append,#[.tmp 110,.tmp 112],#[23,23]⟩),zG 7 113]
instance : Live qe5 := ⟨[0,1,2,7,8,9,11,14]⟩
def qe4 : List SOp := [zM 114 14,zG 10 114]
instance : Live qe4 := ⟨[0,1,2,7,8,9,14]⟩
def qly : List SOp := [zM 115 7,zG 6 115]
instance : Live qly := ⟨[7]⟩
def qk8 : SC :=
 (.seq (.seq (.ops false qi4) (.cond (.tmp 24) .skip (.exit 0))) (.block 1 (.seq (.ops false qi3) (.seq (.seq (.ops true qi2) (.cond (.tmp 45) (.ops false qi1) (.ops false qi0))) (.seq (.seq (.ops false qec) (.cond (.tmp 65) (.ops false qeb) .skip)) (.seq (.seq (.ops false qea) (.cond (.tmp 79) (.ops false qe9) .skip)) (.seq (.ops false qe8) (.seq (.ops false qe7) (.seq (.ops false qe6) (.cond (.tmp 109) (.seq (.ops false qe5) (.ops false qe4)) .skip))))))))))
def t_k166 : SC :=
 (.seq (.ops false qz9) (.seq (.ops false qz8) (.seq (.ops false qz7) (.seq (.ops false qz6) (.seq (.block 0 (.loop qk8)) (.seq (.ops false qly) .ret))))))
theorem it_k166 : FnIs Tryz.prog 166 116 [.tmp 6] t_k166 := ⟨Tryz.f166, _, Tryz.func166, rfl, rfl, rfl, rfl, by kernel_rfl⟩

def qgi : SC := (.seq (.seq (.ops false qea) (.cond (.tmp 79) (.ops false qe9) .skip)) (.seq (.ops false qe8) (.seq (.ops false qe7) (.seq (.ops false qe6) (.cond (.tmp 109) (.seq (.ops false qe5) (.ops false qe4)) .skip)))))
def qgh : SC := (.seq (.seq (.ops false qec) (.cond (.tmp 65) (.ops false qeb) .skip)) qgi)
def qgg : SC := (.seq (.seq (.ops true qi2) (.cond (.tmp 45) (.ops false qi1) (.ops false qi0))) qgh)
def qr9 : SC := (.seq (.seq (.ops false qi4) (.cond (.tmp 24) .skip (.exit 0))) (.block 1 (.seq (.ops false qi3) qgg)))
theorem qt2 : qk8 = qr9 := rfl

structure CbS where
 i : Nat
 j : Nat
 v : Bool
 t : List Int
theorem qtn (i : Nat) : ((i : Int)).tmod 2 = ((i % 2 : Nat) : Int) := by rw [Int.ofNat_tmod]; rfl
theorem zpe (i : Nat) : decide (((i % 2 : Nat) : Int) = 1) = odd i := by
 unfold odd
 rw [decide_eq_decide]
 omega
theorem zqa {l : List Int} {i : Nat} (h : i < l.length) : l[i]? = some (l.getD i 0) := by simp [h]
theorem qh6 {l : List Int} (hr : l.Pairwise (fun x y => x < y)) {i : Nat} {x : Int} (h : i < l.length → x < l.getD i 0) : ∀ y ∈ l.drop i, x < y := by
 intro y hy
 rcases Nat.lt_or_ge i l.length with hi | hi
 ·rw [List.drop_eq_getElem_cons hi] at hy
  have hp := hr.drop (i := i)
  rw [List.drop_eq_getElem_cons hi] at hp
  have e : l.getD i 0 = l[i] := by simp [hi]
  have h1 := h hi
  rw [e] at h1
  rcases List.mem_cons.1 hy with rfl | hy
  ·exact h1
  ·have := (List.pairwise_cons.1 hp).1 y hy
   omega
 ·rw [List.drop_eq_nil_of_le hi] at hy
  cases hy
theorem ev_k166 {a b t : List Int} {p q r : Int → Prop} (ha : Turns p a) (hb : Turns q b) (ht : Turns r t) (hla : a.length ≤ 400000000) (hlb : b.length ≤ 400000000) (rule : Int) (f : Bool → Bool → Bool)
 (hrf : (rule = 1 ∧ f = fun x y => x && y) ∨ (rule = 2 ∧ f = fun x y => x && !y)) (hr : ∀ m, r m ↔ f (odd (cnt a m)) (odd (cnt b m)) = true) :
 Ev (En Tryz.prog rfl).P 166 [.sl 1 (q04 a), .sl 1 (q04 b), .int .i64 rule] (.ret (.sl 1 (q04 t))) := by
 refine Ev.of_body it_k166 (by simp) (Run.start ?_)
 unfold t_k166
 have e1 := q0e a
 have e2 := q0e b
 have hf : f false false = false := by rcases hrf with ⟨_, rfl⟩ | ⟨_, rfl⟩ <;> rfl
 (have hF := (aI @e1 @e2); refine q01 (k:=?_); clear hF)
 refine Run.wk (Wk.own_nil 7 113 1 rfl rfl) ?_
 refine Run.while (σ := CbS) (fun z => ⟨tms [(0, .sl 1 (q04 a)), (1, .sl 1 (q04 b)), (2, .int .i64 rule), (7, .os 113 z.t.length), (8, .int .i64 (z.i : Int)), (9, .int .i64 (z.j : Int)), (10, .bool z.v)], mms [(113, .arr z.t.length 1 (q04 z.t))]⟩)
  (fun z => CbI a b f z.i z.j z.v z.t) (fun z => (a.length - z.i) + (b.length - z.j)) ⟨0, 0, false, []⟩ (have hW := @q03; q0g) (CbI.start hf) ?_
 rintro ⟨i, j, v, u⟩ h
 dsimp only at h ⊢
 have hi := h.hi
 have hj := h.hj
 have hle := h.le
 have e3 := q0e u
 rw [qt2]
 unfold qr9
 refine Run.mid (σ := Unit) (fun _ => ⟨tms [(0, .sl 1 (q04 a)), (1, .sl 1 (q04 b)), (2, .int .i64 rule), (7, .os 113 u.length), (8, .int .i64 (i : Int)), (9, .int .i64 (j : Int)), (10, .bool v)], mms [(113, .arr u.length 1 (q04 u))]⟩) (fun _ => i < a.length ∨ j < b.length) ?_ ?_
 ·(focus (have hF := (aI @e1 (aI @e2 @e3)); (repeat' (first | refine go1 (k:=?_) | with_reducible refine Ny.of ?_ ?_ | (refine Hyp.of ?_; intro hc; (try simp only [hc]); (try simp only [Bh] at hc)))); all_goals clear hF))
  ·(refine Fin.nextW (()) ?_ (have hW := True.intro; q0g); (try dsimp only))
   exact .inl (by omega)
  ·(refine Fin.nextW (()) ?_ (have hW := True.intro; q0g); (try dsimp only))
   exact .inr (by omega)
  ·rw [show i = a.length by omega, show j = b.length by omega] at h
   rw [← (h.done hf ha hb r hr).uniq ht]
   exact qhq (.sl 1 (q04 u))
 intro _ hin
 (have hF := (aI @e1 (aI @e2 @e3)); refine q01 (k:=?_); clear hF)
 unfold qgg
 refine Run.mid (σ := Int) (fun x => ⟨tms [(0, .sl 1 (q04 a)), (1, .sl 1 (q04 b)), (2, .int .i64 rule), (7, .os 113 u.length), (8, .int .i64 (i : Int)), (9, .int .i64 (j : Int)), (10, .bool v), (11, .int .i64 x)], mms [(113, .arr u.length 1 (q04 u))]⟩)
  (fun x => (i < a.length → x ≤ a.getD i 0) ∧ (j < b.length → x ≤ b.getD j 0) ∧ ((i < a.length ∧ a.getD i 0 = x) ∨ (j < b.length ∧ b.getD j 0 = x))) ?_ ?_
 ·(focus (have hF := (aI (aI @e1 @e2) (aI @e3 @qat)); (repeat' (first | refine go1 (k:=?_) | with_reducible refine Ny.of ?_ ?_ | (refine Hyp.of ?_; intro hc; (try simp only [hc]); (try simp only [Bh] at hc)))); all_goals clear hF))
  all_goals first
   | ((refine Fin.nextW (a.getD i 0) ?_ (have hW := True.intro; q0g); (try dsimp only))
      exact ⟨fun _ => Int.le_refl _, fun _ => by omega, .inl ⟨by omega, rfl⟩⟩)
   | ((refine Fin.nextW (b.getD j 0) ?_ (have hW := True.intro; q0g); (try dsimp only))
      exact ⟨fun _ => by omega, fun _ => Int.le_refl _, .inr ⟨by omega, rfl⟩⟩)
 rintro x ⟨x1, x2, x3⟩
 unfold qgh
 refine Run.mid (σ := Nat) (fun i' => ⟨tms [(0, .sl 1 (q04 a)), (1, .sl 1 (q04 b)), (2, .int .i64 rule), (7, .os 113 u.length), (8, .int .i64 (i' : Int)), (9, .int .i64 (j : Int)), (10, .bool v), (11, .int .i64 x)], mms [(113, .arr u.length 1 (q04 u))]⟩)
  (fun i' => (i' = i + 1 ∧ i < a.length ∧ a.getD i 0 = x) ∨ (i' = i ∧ (i < a.length → x < a.getD i 0))) ?_ ?_
 ·(focus (have hF := (aI (aI @e1 @e2) (aI @e3 @qat)); (repeat' (first | refine go1 (k:=?_) | with_reducible refine Ny.of ?_ ?_ | (refine Hyp.of ?_; intro hc; (try simp only [hc]); (try simp only [Bh] at hc)))); all_goals clear hF))
  all_goals first
   | ((refine Fin.nextW (i + 1) ?_ (have hW := True.intro; q0g); (try dsimp only))
      exact .inl ⟨rfl, by omega, by omega⟩)
   | ((refine Fin.nextW (i) ?_ (have hW := True.intro; q0g); (try dsimp only))
      exact .inr ⟨rfl, fun h => by have := x1 h; omega⟩)
 intro i' hi'
 unfold qgi
 refine Run.mid (σ := Nat) (fun j' => ⟨tms [(0, .sl 1 (q04 a)), (1, .sl 1 (q04 b)), (2, .int .i64 rule), (7, .os 113 u.length), (8, .int .i64 (i' : Int)), (9, .int .i64 (j' : Int)), (10, .bool v), (11, .int .i64 x)], mms [(113, .arr u.length 1 (q04 u))]⟩)
  (fun j' => (j' = j + 1 ∧ j < b.length ∧ b.getD j 0 = x) ∨ (j' = j ∧ (j < b.length → x < b.getD j 0))) ?_ ?_
 ·(focus (have hF := (aI (aI @e1 @e2) (aI @e3 @qat)); (repeat' (first | refine go1 (k:=?_) | with_reducible refine Ny.of ?_ ?_ | (refine Hyp.of ?_; intro hc; (try simp only [hc]); (try simp only [Bh] at hc)))); all_goals clear hF))
  all_goals first
   | ((refine Fin.nextW (j + 1) ?_ (have hW := True.intro; q0g); (try dsimp only))
      exact .inl ⟨rfl, by omega, by omega⟩)
   | ((refine Fin.nextW (j) ?_ (have hW := True.intro; q0g); (try dsimp only))
      exact .inr ⟨rfl, fun h => by have := x2 h; omega⟩)
 intro j' hj'
 have st := h.step ha.rise hb.rise (x := x) (i' := i') (j' := j') (hi'.imp (fun q => ⟨q.1, by rw [zqa q.2.1, q.2.2]⟩) (fun q => ⟨q.1, qh6 ha.rise q.2⟩)) (hj'.imp (fun q => ⟨q.1, by rw [zqa q.2.1, q.2.2]⟩) (fun q => ⟨q.1, qh6 hb.rise q.2⟩)) (by
  rcases x3 with q | q
  ·rcases hi' with w | w
   ·exact .inl w.1
   ·have := w.2 q.1; omega
  ·rcases hj' with w | w
   ·exact .inr w.1
   ·have := w.2 q.1; omega)
 have st1 := st.hi
 have st2 := st.hj
 have st3 : (a.length - i') + (b.length - j') < (a.length - i) + (b.length - j) := by omega
 have hub : u.length ≤ 800000000 := by omega
 have m1 := qtn i'
 have m2 := qtn j'
 have m3 := zpe i'
 have m4 := zpe j'
 have hlu : (u ++ [x]).length = u.length + 1 := by simp
 clear hi' hj' x1 x2 x3 hi hj
 generalize odd i' = o1 at st m3
 generalize odd j' = o2 at st m4
 rcases hrf with ⟨rfl, rfl⟩ | ⟨rfl, rfl⟩ <;> cases o1 <;> cases o2 <;> cases v <;> simp only [Bool.and_true, Bool.and_false, Bool.true_and, Bool.false_and, Bool.not_true, Bool.not_false, if_true, reduceCtorEq, if_false] at st
 all_goals
  (have hF := (aI (aI (aI @e1 @e2) (aI @e3 @m1)) (aI (aI @m2 @m3) (aI @m4 @q26))); refine q01 (k:=?_); clear hF)
  first
   | (have st' : CbI a b _ i' j' true u := st
      (refine Fin.nextW (⟨i', j', true, u⟩) ?_ (have hW := @q03; q0g); (try dsimp only))
      exact ⟨st', st3⟩)
   | (have st' : CbI a b _ i' j' false u := st
      (refine Fin.nextW (⟨i', j', false, u⟩) ?_ (have hW := @q03; q0g); (try dsimp only))
      exact ⟨st', st3⟩)
   | (have st' : CbI a b _ i' j' true (u ++ [x]) := st
      (refine Fin.nextW (⟨i', j', true, u ++ [x]⟩) ?_ (have hW := (aI @q03 @hlu); q0g); (try dsimp only))
      exact ⟨st', st3⟩)
   | (have st' : CbI a b _ i' j' false (u ++ [x]) := st
      (refine Fin.nextW (⟨i', j', false, u ++ [x]⟩) ?_ (have hW := (aI @q03 @hlu); q0g); (try dsimp only))
      exact ⟨st', st3⟩)

def z5m : List SOp := [zO 1 (.box 168 (.tmp 0)),zO 2 (.alloc 26)]
instance : Live z5m := ⟨[0]⟩
def z5l : List SOp := [zO 3 (.alloc 26)]
instance : Live z5l := ⟨[1,2]⟩
def z5k : List SOp := [zO 8 (.makeSlice 23 (.const (.int .i64 16)) (.const (.int .i64 16))),zG 4 8]
instance : Live z5k := ⟨[1,2,3]⟩
def z5j : List SOp := [zO 5 (.assign (.const (.int .i64 0)))]
instance : Live z5j := ⟨[1,2,3,4]⟩
def z5i : List SOp := [zO 6 (.assign (.const (.int .i64 0)))]
instance : Live z5i := ⟨[1,2,3,4,5]⟩
def z5h : List SOp := [zM 9 6,zO 10 (.binOp .lss 3 (.tmp 9) (.const (.int .i64 16)) 3)]
instance : Live z5h := ⟨[1,2,3,4,5,6]⟩
def z5g : List SOp := [zO 7 (.assign (.const (.int .i64 0)))]
instance : Live z5g := ⟨[1,2,3,4,5,6]⟩
def z5f : List SOp := [zM 13 7,zO 14 (.binOp .add 3 (.tmp 13) (.const (.int .i64 1)) 3),zM 15 6,zF 16 168 1 0,zI 17 166 16 15,zL 18 23 17,zO 19 (.call ⟨.builtin .len,#[.tmp 18],#[23]⟩),zO 20 (.binOp .lss 3 (.tmp 14) (.tmp 19) 3)]
instance : Live z5f := ⟨[1,2,3,4,5,6,7]⟩
def z5e : List SOp := [zM 23 6,zF 24 168 1 0,zI 25 166 24 23,zL 26 23 25,zM 27 7,zI 28 23 26 27,zL 29 3 28,zO 30 (.binOp .eql 3 (.tmp 29) (.const (.int .i64 1)) 3)]
instance : Live z5e := ⟨[1,2,3,4,5,6,7]⟩
def qof : List SOp := [zM 31 4,zM 32 6,zM 33 6,zF 34 168 1 0,zI 35 166 34 33,zL 36 23 35,zM 37 7,zO 38 (.binOp .add 3 (.tmp 37) (.const (.int .i64 1)) 3),zI 39 23 36 38,zL 40 3 39,zO 41 (.binOp .sub 3 (.tmp 40) (.const (.int .i64 1)) 3),zI 42 23 31 32,⟨none,.store 3 (.tmp 42) (.tmp 41),none⟩]
instance : Live qof := ⟨[1,2,3,4,6,7]⟩
def qoe : List SOp := [zM 43 6,zO 44 (.binOp .add 3 (.tmp 43) (.const (.int .i64 1)) 3),zG 5 44]
instance : Live qoe := ⟨[1,2,3,4,6,7]⟩
def qef : List SOp := [zF 45 26 3 1,zL 46 24 45,zM 47 6,zM 48 6,zF 49 168 1 0,zI 50 166 49 48,zL 51 23 50,zM 52 7,zI 53 23 51 52,zL 54 3 53,zM 55 6,zF 56 168 1 0,zI 57 166 56 55,zL 58 23 57,zM 59 7,zO 60 (.binOp .add 3 (.tmp 59) (.const (.int .i64 1)) 3),zI 61 23 58 60,zL 62 3 61,zO 63 (.binOp .sub 3 (.tmp 62) (.const (.int .i64 1)) 3),zO 64 (.build 127 #[(0,.tmp 47),(1,.tmp 54),(2,.tmp 63)]),zO 65 (.buildSlice 24 1 #[(0,.tmp 64)]),zO 66 (.call ⟨.builtin .append,#[.tmp 46,.tmp 65],#[24,24]⟩),zF 67 26 3 1,⟨none,.store 24 (.tmp 67) (.tmp 66),none⟩]
instance : Live qef := ⟨[1,2,3,4,5,6,7]⟩
instance : Rd qef := ⟨fun j => j == 1⟩
def qod : List SOp := [zM 21 7,zO 22 (.binOp .add 3 (.tmp 21) (.const (.int .i64 2)) 3),zG 7 22]
instance : Live qod := ⟨[1,2,3,4,5,6,7]⟩
def qoc : List SOp := [zM 11 6,zO 12 (.binOp .add 3 (.tmp 11) (.const (.int .i64 1)) 3),zG 6 12]
instance : Live qoc := ⟨[1,2,3,4,5,6]⟩
def qob : List SOp := [zM 68 4,zM 69 5,zO 70 (.slice 23 (.tmp 68) none (some (.tmp 69)) none),zF 71 26 3 0,⟨none,.store 23 (.tmp 71) (.tmp 70),none⟩]
instance : Live qob := ⟨[2,3,4,5]⟩
def qoa : List SOp := [zL 72 26 3,⟨none,.store 26 (.tmp 2) (.tmp 72),none⟩]
instance : Live qoa := ⟨[2,3]⟩
def qkr : SC :=
 (.seq (.seq (.ops false z5f) (.cond (.tmp 20) .skip (.exit 2))) (.seq (.block 3 (.seq (.ops false z5e) (.cond (.tmp 30) (.seq (.ops false qof) (.ops false qoe)) (.opsW [46] qef)))) (.ops false qod)))
def qks : SC :=
 (.seq (.seq (.ops false z5h) (.cond (.tmp 10) .skip (.exit 0))) (.seq (.block 1 (.seq (.ops false z5g) (.block 2 (.loop qkr)))) (.ops false qoc)))
def t_k128 : SC :=
 (.seq (.ops false z5m) (.seq (.ops false z5l) (.seq (.ops false z5k) (.seq (.ops false z5j) (.seq (.seq (.ops false z5i) (.block 0 (.loop qks))) (.seq (.ops false qob) (.seq (.ops false qoa) .ret)))))))
theorem it_k128 : FnIs Tryz.prog 128 73 [.cell 2 26] t_k128 := ⟨Tryz.f128, _, Tryz.func128, rfl, rfl, rfl, rfl, by kernel_rfl⟩

def qrl (t : Tab) (r c : Nat) : List Sn := q24 t r ++ ((q21 ((q10 (t.getD r [])).take c)).2).map (qa7 r)
theorem zf5 (t : Tab) (r : Nat) : qrl t r 0 = q24 t r := by simp [qrl, q21]
theorem rowF_all (t : Tab) (r : Nat) : qrl t r (q10 (t.getD r [])).length = q24 t (r + 1) := by
 unfold qrl
 rw [q7y, List.take_length]
 rfl
theorem zce {t : Tab} {r : Nat} {x : Rn} (hx : (q10 (t.getD r []))[0]? = some x) (h : x.1 = 1) : qrl t r 1 = qrl t r 0 := by
 unfold qrl
 rw [List.take_add_one, hx]
 simp [q21, h]
theorem zf6 {t : Tab} {r c : Nat} {x : Rn} (hx : (q10 (t.getD r []))[c]? = some x) (h : x.1 ≠ 1) : qrl t r (c + 1) = qrl t r c ++ [((r : Int), x.1, x.2)] := by
 unfold qrl
 rw [List.take_add_one, hx, List.append_assoc]
 congr 1
 cases c with
 | zero => simp [q21, h, qa7]
 | succ c =>
  cases hm : q10 (t.getD r []) with
  | nil => rw [hm] at hx; simp at hx
  | cons y l =>
   rw [hm] at hx
   simp only [List.take_succ_cons, List.cons_append, q21]
   simp only [Option.toList]
   split <;> simp [qa7]
theorem rowF_len (t : Tab) (r c : Nat) : (qrl t r c).length ≤ (q24 t r).length + (q10 (t.getD r [])).length := by
 have h1 := qbg ((q10 (t.getD r [])).take c)
 unfold qrl
 rw [List.length_append, List.length_map]
 rw [List.length_take] at h1
 omega
theorem qtj {m : List Rn} {c : Nat} {x : Rn} (h : m[c]? = some x) : (q3m m)[2 * c]? = some x.1 ∧ (q3m m)[2 * c + 1]? = some (x.2 + 1) := by
 induction m generalizing c with
 | nil => simp at h
 | cons y m ih =>
  rw [q5j]
  cases c with
  | zero => simp at h; subst h; exact ⟨rfl, rfl⟩
  | succ c =>
   have := ih (c := c) (by simpa using h)
   exact ⟨by simpa [Nat.mul_add] using this.1, by simpa [Nat.mul_add] using this.2⟩
theorem zrz {m : List Rn} (h : Can m) {c : Nat} {x : Rn} (hx : m[c + 1]? = some x) : x.1 ≠ 1 := by
 cases m with
 | nil => simp at hx
 | cons y m =>
  have hy := (Can.cons_iff.1 h)
  have hm : x ∈ m := List.mem_of_getElem? (by simpa using hx)
  have h1 := hy.2.1 x hm
  have h2 := hy.1
  unfold sepR at h1
  unfold okR at h2
  omega
theorem zei {t : Tab} {r : Nat} (hr : r < 16) (h : q9r t r = 0) : qc5 t (r + 1) = qc5 t r := by
 unfold qc5
 rw [qeu, h, List.append_assoc, show 16 - r = (16 - (r + 1)) + 1 by omega, List.replicate_succ]
 rfl
def szF (t : Tab) (r : Nat) : Nat → Nat
 | 0 => q3d t r
 | _ + 1 => q3d t (r + 1)
def vcF (t : Tab) (r : Nat) : Nat → List Int
 | 0 => qc5 t r
 | _ + 1 => qc5 t (r + 1)
theorem qsq (t : Tab) {n : Nat} (ht : TabLe t n) (hn : n ≤ 50000000) : Ev (En Tryz.prog rfl).P 128 [.agg (q0l (t.map q0q))] (.ret (q0h (q6s t))) := by
 refine Ev.of_body it_k128 (by simp) (Run.start ?_)
 unfold t_k128
 have h16 : (q0l (t.map q0q)).length = 16 := by simp [q0l, ht.1]
 have hone := q45 (t.map q0q)
 have hst := q2g (t.map q0q)
 (have hF := (aI @h16 @hone); refine q01 (k:=?_); clear hF)
 refine Run.wk (Wk.own_cells (k := 3) (cs' := [.nil, .own 3 []]) rfl rfl ?_) ?_
 ·intro i x y hx hy
  match i with
  | 0 => simp at hx hy; subst hx; subst hy; exact .inl rfl
  | 1 => simp at hx hy; subst hx; subst hy; exact .inr ⟨rfl, 3, rfl⟩
  | i + 2 => simp at hx
 refine Run.while (σ := Nat) (fun r => ⟨tms [(1, .ptr 1 0), (2, .ptr 2 0), (3, .ptr 3 0), (4, .os 8 0), (5, .int .i64 (q3d t r)), (6, .int .i64 r)], mms [(1, .cells (q0l (t.map q0q))), (2, .cells [.nil, .nil]), (3, .cells [.nil, .own 3 (q0c (q24 t r))]), (8, .arr 0 1 (q04 (qc5 t r)))]⟩)
  (fun r => r ≤ 16) (fun r => 16 - r) 0 (have hW := @hst; q0g) (Nat.zero_le _) ?_
 intro r hr
 have g0 : (q04 (qc5 t r)).length = 16 := by rw [q0e, qcu t hr]
 have hsz := qa9 t r
 unfold qks
 by_cases hlt : r < 16
 ·have hrt : r < t.length := by rw [ht.1]; exact hlt
  have hq := ht.2 r
  have g1 : (q0l (t.map q0q))[r]? = some (.sl 1 (q04 (q3m (q10 (t.getD r []))))) := by
   rw [q77 (by rw [List.length_map]; exact hrt)]
   simp [List.getD_eq_getElem?_getD, hrt, q0q]
  have hml := q20 (t.getD r [])
  have hcan := q1d (t.getD r [])
  have hcl := qby ht r
  have hcl2 : r * n ≤ 16 * n := Nat.mul_le_mul_right n hr
  have f1 := zf5 t r
  have f2 := rowF_all t r
  have f3 := fun c x => @zf6 t r c x
  have f4 := fun x => @zce t r x
  have f5 := rowF_len t r
  have hlead : q9r t r = (q21 (q10 (t.getD r []))).1 := rfl
  have hs1 := q8r t r
  have hv1 := qth t hlt
  have hv2 := qti t hlt
  have hl0 := qgo hcan
  generalize hmr : q10 (t.getD r []) = m at g1 hml hcan f2 f3 f4 f5 hlead hl0
  have g2 : (q04 (q3m m)).length = 2 * m.length := by rw [q0e, q8q]
  have hz0 : (q21 m).1 = 0 → q3d t (r + 1) = q3d t r ∧ qc5 t (r + 1) = qc5 t r := fun h => ⟨by rw [hs1, hlead, h]; rfl, zei hlt (by rw [hlead, h])⟩
  (have hF := (aI @h16 (aI @hone @g0)); refine q01 (k:=?_); clear hF)
  refine Run.while (σ := Nat) (fun c => ⟨tms [(1, .ptr 1 0), (2, .ptr 2 0), (3, .ptr 3 0), (4, .os 8 0), (5, .int .i64 (szF t r c)), (6, .int .i64 r), (7, .int .i64 (2 * c : Nat))], mms [(1, .cells (q0l (t.map q0q))), (2, .cells [.nil, .nil]), (3, .cells [.nil, .own 3 (q0c (qrl t r c))]), (8, .arr 0 1 (q04 (vcF t r c)))]⟩)
   (fun c => c ≤ m.length) (fun c => m.length - c) 0 (have hW := (aI @hst @f1); q0g) (Nat.zero_le _) ?_
  intro c hc
  have gv : (q04 (vcF t r c)).length = 16 := by
   rw [q0e]
   cases c with
   | zero => exact qcu t hr
   | succ c => exact qcu t hlt
  have hsz2 : szF t r c ≤ r + 1 := by
   cases c with
   | zero => show q3d t r ≤ _; omega
   | succ c => exact qa9 t (r + 1)
  unfold qkr
  by_cases hcl3 : c < m.length
  ·obtain ⟨x, hx⟩ : ∃ x, m[c]? = some x := ⟨m[c], by simp [hcl3]⟩
   have ⟨k1, k2⟩ := qtj hx
   have k1' : (q04 (q3m m))[2 * c]? = some (.int .i64 x.1) := q0r k1
   have k2' : (q04 (q3m m))[2 * c + 1]? = some (.int .i64 (x.2 + 1)) := q0r k2
   have hxr := hcan.2 x (List.mem_of_getElem? hx)
   unfold okR at hxr
   have hfl := f5 c
   have e8 : ((2 * c : Nat) : Int) + 1 = ((2 * c + 1 : Nat) : Int) := by omega
   have e9 : ((2 * c : Nat) : Int) + 2 = ((2 * (c + 1) : Nat) : Int) := by omega
   have e7 : IntKind.i64.wrap (x.2 + 1 - 1) = x.2 := by rw [q2d (by omega)]; omega
   by_cases h1 : x.1 = 1
   ·have hc0 : c = 0 := by
     cases c with
     | zero => rfl
     | succ c => exact absurd h1 (zrz hcan hx)
    have h5 : q9r t r = x.2 := by
     subst hc0
     rw [hlead]
     cases m with
     | nil => simp at hx
     | cons y m => simp at hx; subst hx; rw [qd4 h1]
    have h6 : qrl t r (c + 1) = qrl t r c := by subst hc0; exact f4 x hx h1
    have h8 : szF t r (c + 1) = r + 1 := by show q3d t (r + 1) = r + 1; rw [hs1, if_pos (by omega)]
    rw [h5] at hv1
    have h9 : (q04 (vcF t r c)).set r (.int .i64 x.2) = q04 (vcF t r (c + 1)) := by subst hc0; exact hv1
    have h10 : (q04 (vcF t r c))[r]? = some (.int .i64 0) := by subst hc0; exact hv2
    generalize szF t r c = sz at hsz2 ⊢
    (have hF := (aI (aI (aI @h16 (aI @hone @gv)) (aI @g1 (aI @g2 @k1'))) (aI (aI @k2' (aI @h9 @h10)) (aI (aI @e7 @e8) (aI @e9 @h1)))); refine q01 (k:=?_); clear hF)
    (refine Fin.nextW (c + 1) ?_ (have hW := (aI (aI @hst @h6) (aI @h8 @h9)); q0g); (try dsimp only))
    omega
   ·have h6 := f3 c x hx h1
    have h8 : szF t r (c + 1) = szF t r c ∧ vcF t r (c + 1) = vcF t r c := by
     cases c with
     | zero =>
      refine hz0 ?_
      cases m with
      | nil => simp at hx
      | cons y m => simp at hx; subst hx; rw [qd3 h1]
     | succ c => exact ⟨rfl, rfl⟩
    obtain ⟨h8, h9⟩ := h8
    generalize qrl t r c = cl at h6 hfl ⊢
    have k3 := q1n cl
    (have hF := (aI (aI (aI @h16 (aI @hone @gv)) (aI @g1 (aI @g2 @k1'))) (aI (aI @k2' (aI @e7 @e8)) (aI @e9 (aI @k3 @q8y)))); refine q01 (k:=?_); clear hF)
    ((with_reducible apply toW); refine stW (fun j => j == 1) (k:=?_))
    (have hF := (aI (aI (aI @h16 (aI @hone @gv)) (aI @g1 (aI @g2 @k1'))) (aI (aI @k2' (aI @e7 @e8)) (aI @e9 (aI @k3 @q8y)))); refine q01 (k:=?_); clear hF)
    (refine Fin.nextW (c + 1) ?_ (have hW := (aI (aI @hst @h6) (aI @h8 @h9)); q0g); (try dsimp only))
    omega
  ·have hce : c = m.length := by omega
   subst hce
   rw [f2]
   have h8 : szF t r m.length = q3d t (r + 1) ∧ vcF t r m.length = qc5 t (r + 1) := by
    cases m with
    | nil => have := hz0 rfl; exact ⟨this.1.symm, this.2.symm⟩
    | cons y m => exact ⟨rfl, rfl⟩
   rw [h8.1, h8.2] at *
   (have hF := (aI (aI @h16 @hone) (aI @gv (aI @g1 @g2))); refine q01 (k:=?_); clear hF)
   (refine Fin.nextW (r + 1) ?_ (have hW := @hst; q0g); (try dsimp only))
   omega
 ·have hre : r = 16 := by omega
  subst hre
  have hv : qc5 t 16 = q33 t 16 := by simp [qc5]
  rw [hv] at g0 ⊢
  have hll := q3e t 16
  have hlz : ((q33 t 16).take (q3d t 16)).length ≤ 16 := by rw [List.length_take]; omega
  have hres : q6s t = ⟨(q33 t 16).take (q3d t 16), q24 t 16⟩ := rfl
  rw [hres]
  refine Run.wk (Wk.freeze (k := 3) (cs := [.nil, .own 3 (q0c (q24 t 16))]) rfl) ?_
  refine Run.wk (s' := ⟨tms [(2, .ptr 2 0), (3, .ptr 3 0), (4, .os 8 0), (5, .int .i64 (q3d t 16)), (6, .int .i64 16)], mms [(2, .cells [.nil, .nil]), (3, .cells [.nil, .sl 3 (q0c (q24 t 16))]), (8, .arr 0 1 (q04 (q33 t 16)))]⟩) (have hW := @hst; q0g) ?_
  (have hF := (aI @g0 @q79); refine q01 (k:=?_); clear hF)
  exact Fin.all rfl (by simp [q0k, AVal.stb, q03, q05, fzc, q55]) rfl

section
open Go.ChangeShapes Go.WideShapes Go.ChangeAt Go.RowKit
def VR0 (w : World) (x : AVal) (v : Value) : Prop := ∀ G : Gh, (∀ b, G.ow b = none) → VR (Dm NoM) G (fun _ => False) w x v
structure Opens (P : Program) (t : TypeId) (α : Type) (ok : α → Prop) (c : α → List AVal) (wt : α → Nat) : Prop where
 run : ∀ {H : Type} (enc : TypeId × Value → H) (w : World) (fuel : Nat) (cs : List Value) (d : DataW H) (ps : List MemPlace),
  DataW.trod enc P w 0 (fun _ => true) true fuel t cs = some (d, ps) →
  ∃ x : α, ok x ∧ wt x ≤ Rows.uptoBulk d ∧ cs.length = (c x).length ∧ ∀ (n : Nat) (y : AVal) (v : Value), (c x)[n]? = some y → cs[n]? = some v → VR0 w y v
section
variable {P : Program} {t : TypeId}
def qfz (n : Int) : Prop := -9223372036854775808 ≤ n ∧ n ≤ 9223372036854775807
theorem Opens.int (ht : P.underlying t = some (.int .i64)) : Opens P t Int qfz (fun n => [.int .i64 n]) (fun _ => 1) := by
 refine ⟨fun {H} enc w fuel cs d ps h => ?_⟩
 obtain ⟨n, rfl, hx, hw⟩ := DataW.trod_int ht h
 have hd : d = .lit (.int .i64 n) := congrArg Prod.fst hx
 subst hd
 refine ⟨n, bounds_i64 hw, by simp [Rows.uptoBulk], rfl, fun i y v hy hv G hG => ?_⟩
 match i with
 | 0 => simp at hy hv; subst hy; subst hv; exact .int _ _
 | i + 1 => simp at hy
theorem Opens.bool (ht : P.underlying t = some .bool) : Opens P t Bool (fun _ => True) (fun n => [.bool n]) (fun _ => 1) := by
 refine ⟨fun {H} enc w fuel cs d ps h => ?_⟩
 obtain ⟨n, rfl, hx⟩ := DataW.trod_bool ht h
 have hd : d = .lit (.bool n) := congrArg Prod.fst hx
 subst hd
 refine ⟨n, trivial, by simp [Rows.uptoBulk], rfl, fun i y v hy hv G hG => ?_⟩
 match i with
 | 0 => simp at hy hv; subst hy; subst hv; exact .bool _
 | i + 1 => simp at hy
theorem Opens.string (ht : P.underlying t = some .string) : Opens P t ByteArray (fun _ => True) (fun s => [.str s]) (fun s => s.size + 1) := by
 refine ⟨fun {H} enc w fuel cs d ps h => ?_⟩
 obtain ⟨n, rfl, hx, hs⟩ := DataW.trod_string ht h
 have hd : d = .lit (.string n.data.toList) := congrArg Prod.fst hx
 subst hd
 refine ⟨n, trivial, ?_, rfl, fun i y v hy hv G hG => ?_⟩
 ·simp only [Rows.uptoBulk, Array.length_toList]
  exact Nat.le_refl _
 ·match i with
  | 0 => simp at hy hv; subst hy; subst hv; exact .str _
  | i + 1 => simp at hy
theorem zbt {H : Type} {α : Type} {wt : α → Nat} : ∀ (es : List (DataW H × List MemPlace)) (l : List α), l.length = es.length → (∀ (i : Nat) x e, l[i]? = some x → es[i]? = some e → wt x ≤ Rows.uptoBulk e.1) → (l.map wt).sum ≤ Rows.uptoBulkAll (es.map (·.1))
 | [], [], _, _ => Nat.le_refl _
 | e :: es, x :: l, hl, h => by
  have h1 := h 0 x e rfl rfl
  have h2 := zbt es l (by simpa using hl) fun i y u hy hu => h (i + 1) y u (by simpa using hy) (by simpa using hu)
  simp only [List.map_cons, List.sum_cons, Rows.uptoBulkAll]
  omega
 | [], _ :: _, hl, _ => by simp at hl
 | _ :: _, [], hl, _ => by simp at hl
theorem addr_add (b off i j : Nat) : ((⟨b, off, none⟩ : Addr).add i).add j = ⟨b, off + i + j, none⟩ := by
 unfold Addr.add
 split <;> split <;> simp_all
def wtL {α : Type} (wt : α → Nat) (l : List α) : Nat := (l.map wt).sum + 1
theorem Opens.slice {e : TypeId} {α : Type} {ok : α → Prop} {c : α → List AVal} {wt : α → Nat} {k : Nat} {mk : α → AVal} (ht : P.underlying t = some (.slice e)) (he : Opens P e α ok c wt) (hcell : P.cellsOf e = k) (hk0 : 0 < k)
 (hmk : ∀ x, (mk x).cells = c x) (hk : ∀ x, (c x).length = k) (hone : ∀ x, ∀ y ∈ c x, y.one = true) : Opens P t (List α) (fun l => ∀ x ∈ l, ok x) (fun l => [.sl k (l.map mk)]) (wtL wt) := by
 refine ⟨fun {H} enc w fuel cs d ps h => ?_⟩
 rcases DataW.trod_slice ht h with ⟨rfl, hx⟩ | ⟨a, len, cap, elems, rest, m, _, rfl, hx, hb, hl, hm, hlen, hel, _, _⟩
 ·have hd : d = .nil := congrArg Prod.fst hx
  subst hd
  refine ⟨[], by simp, by simp [wtL, Rows.uptoBulk], rfl, fun i y v hy hv G hG => ?_⟩
  match i with
  | 0 => simp at hy hv; subst hy; subst hv; exact .slnil k
  | i + 1 => simp at hy
 ·have hd : d = .slice (elems.map (·.1)) (rest.map (·.1)) := congrArg Prod.fst hx
  subst hd
  obtain ⟨b, off, sp⟩ := a
  rcases Nat.eq_zero_or_pos len with h0 | h0
  ·subst h0
   refine ⟨[], by simp, by simp [wtL, Rows.uptoBulk], rfl, fun i y v hy hv G hG => ?_⟩
   match i with
   | 0 => simp at hy hv; subst hy; subst hv; exact .slemp k _ cap
   | i + 1 => simp at hy
  have hspot : sp = none := by
   have h1 := hel 0 h0
   rw [List.getElem?_eq_getElem (by omega), Option.bind_eq_some_iff] at h1
   obtain ⟨cs', h2, h3⟩ := h1
   rw [hcell] at h2
   obtain ⟨_, h4, h5⟩ := World.cells?_some h2
   have h6 := h5 0 hk0
   rw [List.getElem?_eq_getElem (by omega)] at h6
   simp only [Nat.zero_mul, Addr.add, if_true, World.cell?] at h6
   cases sp with
   | none => rfl
   | some q => split at h6 <;> simp at h6
  subst hspot
  rw [hcell] at hel
  have each : ∀ i : _root_.Fin len, ∃ x : α, ok x ∧ (∀ e, elems[i.1]? = some e → wt x ≤ Rows.uptoBulk e.1) ∧ ∀ (j : Nat) (y : AVal), (c x)[j]? = some y → ∃ v, w.cell? ⟨b, off + i.1 * k + j, none⟩ = some v ∧ VR0 w y v := by
   intro i
   have h1 := hel i.1 i.2
   have hi : i.1 < elems.length := by rw [hlen]; exact i.2
   rw [List.getElem?_eq_getElem hi, Option.bind_eq_some_iff] at h1
   obtain ⟨cs', h2, h3⟩ := h1
   obtain ⟨_, h4, h5⟩ := World.cells?_some h2
   obtain ⟨x, ho, hw, hlx, hv⟩ := he.run enc w m cs' elems[i.1].1 elems[i.1].2 h3
   refine ⟨x, ho, fun e he => ?_, fun j y hy => ?_⟩
   ·rw [List.getElem?_eq_getElem hi] at he
    cases he
    exact hw
   ·have hj : j < k := by
     rw [← hk x]
     rcases Nat.lt_or_ge j (c x).length with h | h
     ·exact h
     ·rw [List.getElem?_eq_none h] at hy; cases hy
    have h6 := h5 j hj
    rw [addr_add] at h6
    have hjl : j < cs'.length := by omega
    rw [List.getElem?_eq_getElem hjl] at h6
    exact ⟨_, h6, hv j y _ hy (List.getElem?_eq_getElem hjl)⟩
  let l : List α := List.ofFn fun i : _root_.Fin len => (each i).choose
  have hll : l.length = len := by simp [l]
  have hget : ∀ (i : Nat) (hi : i < len), l[i]? = some (each ⟨i, hi⟩).choose := fun i hi => by simp [l, hi]
  refine ⟨l, fun x hx => ?_, ?_, rfl, fun i y v hy hv G hG => ?_⟩
  ·obtain ⟨i, rfl⟩ := (List.mem_ofFn).1 hx
   exact (each i).choose_spec.1
  ·have := zbt (wt := wt) elems l (by omega) fun i x e hx he => by
    have hi : i < len := by
     rcases Nat.lt_or_ge i len with h | h
     ·exact h
     ·rw [List.getElem?_eq_none (by omega)] at hx; cases hx
    rw [hget i hi] at hx
    cases hx
    exact (each ⟨i, hi⟩).choose_spec.2.1 e he
   simp only [wtL, Rows.uptoBulk]
   omega
  ·match i with
   | i + 1 => simp at hy
   | 0 =>
    simp only [List.getElem?_cons_zero, Option.some.injEq] at hy hv
    subst hy; subst hv
    have hsz : ∀ x ∈ l.map mk, x.cells.length = k := by
     intro x hx
     obtain ⟨z, _, rfl⟩ := List.mem_map.1 hx
     rw [hmk, hk]
    have cellv : ∀ (n : Nat) (x : AVal), (flat (l.map mk))[n]? = some x → ∃ v, w.cell? ⟨b, off + n, none⟩ = some v ∧ VR0 w x v := by
     intro n x hx
     have hn : n < len * k := by
      have h1 := q0p hsz
      rw [List.length_map, hll] at h1
      rcases Nat.lt_or_ge n (len * k) with h | h
      ·exact h
      ·rw [List.getElem?_eq_none (by omega)] at hx; cases hx
     have h1 : n / k < len := Nat.div_lt_of_lt_mul (by rw [Nat.mul_comm]; exact hn)
     have h2 : n % k < k := Nat.mod_lt _ hk0
     have h3 := qbo (sz := k) (xs := l.map mk) (i := n / k) (j := n % k) (x := mk (each ⟨n / k, h1⟩).choose) hsz (by rw [List.getElem?_map, hget _ h1]; rfl) h2
     have e : n / k * k + n % k = n := by rw [Nat.mul_comm]; exact Nat.div_add_mod n k
     rw [e, hmk] at h3
     rw [hx] at h3
     obtain ⟨v, hv, hr⟩ := (each ⟨n / k, h1⟩).choose_spec.2.2 (n % k) x h3.symm
     refine ⟨v, ?_, hr⟩
     rw [← hv]
     congr 2
     simp only
     omega
    have e0 : (l.map mk).length = len := by simp [hll]
    have hsl : VR (Dm NoM) G (fun _ => False) w (.sl k (l.map mk)) (.slice (some ⟨b, off, none⟩) (l.map mk).length cap) := by
     refine .sl k (l.map mk) b off cap (fun n => (w.cell? ⟨b, off + n, none⟩).getD undef) (by omega) (fun _ => ⟨fun h => h, hG b⟩) (fun x hx => ?_) hsz (fun n x hx => ?_) (fun n x hx => ?_)
     ·obtain ⟨z, hz, hx⟩ := List.mem_flatMap.1 hx
      obtain ⟨q, _, rfl⟩ := List.mem_map.1 hz
      rw [hmk] at hx
      exact hone q x hx
     ·obtain ⟨v, hv, _⟩ := cellv n x hx
      rw [hv]; rfl
     ·obtain ⟨v, hv, hr⟩ := cellv n x hx
      simp only [hv, Option.getD_some]
      exact hr G hG
    rw [e0] at hsl
    exact hsl
def OpensF (P : Program) (fs : List Field) (off tot : Nat) (α : Type) (ok : α → Prop) (c : α → List AVal) (wt : α → Nat) : Prop :=
 (∀ x, (c x).length = tot) ∧
 ∀ {H : Type} (enc : TypeId × Value → H) (w : World) (m : Nat) (cs : List Value) (xs : List (DataW H × List MemPlace)), xs.length = fs.length → off + tot ≤ cs.length →
  (∀ (i : Nat) (f : Field), fs[i]? = some f → DataW.trod enc P w 0 (fun _ => true) true m f.type ((cs.drop f.offset).take (P.cellsOf f.type)) = xs[i]?) →
  ∃ x : α, ok x ∧ wt x ≤ Rows.uptoBulkAll (xs.map (·.1)) ∧ ∀ (n : Nat) (y : AVal) (v : Value), (c x)[n]? = some y → cs[off + n]? = some v → VR0 w y v
theorem OpensF.nil (off : Nat) : OpensF P [] off 0 Unit (fun _ => True) (fun _ => []) (fun _ => 0) :=
 ⟨fun _ => rfl, fun enc w m cs xs hl _ _ => ⟨(), trivial, Nat.zero_le _, fun n y v hy => by simp at hy⟩⟩
theorem OpensF.cons {f : Field} {fs : List Field} {off k tot : Nat} {α β : Type} {ok : α → Prop} {ok' : β → Prop} {c : α → List AVal} {c' : β → List AVal} {wt : α → Nat} {wt' : β → Nat}
 (h1 : Opens P f.type α ok c wt) (hk : ∀ x, (c x).length = k) (hc : P.cellsOf f.type = k) (ho : f.offset = off) (h2 : OpensF P fs (off + k) tot β ok' c' wt') :
 OpensF P (f :: fs) off (k + tot) (α × β) (fun x => ok x.1 ∧ ok' x.2) (fun x => c x.1 ++ c' x.2) (fun x => wt x.1 + wt' x.2) := by
 refine ⟨fun x => by rw [List.length_append, hk, h2.1], fun {H} enc w m cs xs hl hlen hx => ?_⟩
 cases xs with
 | nil => simp at hl
 | cons x0 xs =>
  have hx0 := hx 0 f rfl
  simp only [List.getElem?_cons_zero] at hx0
  rw [ho, hc] at hx0
  obtain ⟨x, a1, a2, a3, a4⟩ := h1.run enc w m _ x0.1 x0.2 hx0
  obtain ⟨y, b1, b2, b3⟩ := h2.2 enc w m cs xs (by simpa using hl) (by omega) (fun i g hg => by simpa using hx (i + 1) g (by simpa using hg))
  refine ⟨(x, y), ⟨a1, b1⟩, ?_, fun n z v hz hv => ?_⟩
  ·simp only [List.map_cons, Rows.uptoBulkAll]
   omega
  ·rcases Nat.lt_or_ge n k with hn | hn
   ·rw [List.getElem?_append_left (by rw [hk]; exact hn)] at hz
    refine a4 n z v hz ?_
    rw [List.getElem?_take, if_pos hn, List.getElem?_drop]
    exact hv
   ·rw [List.getElem?_append_right (by rw [hk]; exact hn), hk] at hz
    refine b3 (n - k) z v hz ?_
    rw [show off + k + (n - k) = off + n by omega]
    exact hv
theorem Opens.struct {fs : Array Field} {tot : Nat} {α : Type} {ok : α → Prop} {c : α → List AVal} {wt : α → Nat} (ht : P.underlying t = some (.struct fs)) (hc : P.cellsOf t = tot) (h : OpensF P fs.toList 0 tot α ok c wt) :
 Opens P t α ok c (fun x => wt x + 1) := by
 refine ⟨fun {H} enc w fuel cs d ps hd => ?_⟩
 obtain ⟨xs, n, _, hx, hl, hxl, hf⟩ := DataW.trod_struct ht hd
 have hd : d = .agg (xs.map (·.1)) := congrArg Prod.fst hx
 subst hd
 obtain ⟨x, h1, h2, h3⟩ := h.2 enc w n cs xs (by simpa using hxl) (by omega) (fun i f hi => hf i f (by simpa using hi))
 refine ⟨x, h1, by simp only [Rows.uptoBulk]; omega, by rw [h.1, hl, hc], fun i y v hy hv => h3 i y v hy (by simpa using hv)⟩
theorem Opens.map {α β : Type} {ok : α → Prop} {c : α → List AVal} {wt : α → Nat} {ok' : β → Prop} {c' : β → List AVal} {wt' : β → Nat} (h : Opens P t α ok c wt) (g : α → β) (h1 : ∀ x, ok x → ok' (g x)) (h2 : ∀ x, c' (g x) = c x) (h3 : ∀ x, wt' (g x) ≤ wt x) :
 Opens P t β ok' c' wt' := by
 refine ⟨fun {H} enc w fuel cs d ps hd => ?_⟩
 obtain ⟨x, a1, a2, a3, a4⟩ := h.run enc w fuel cs d ps hd
 exact ⟨g x, h1 x a1, Nat.le_trans (h3 x) a2, by rw [h2]; exact a3, by rw [h2]; exact a4⟩
end
section
variable {P : Program} {t : TypeId}
def zsd (P : Program) (t : TypeId) (α : Type) (ok : α → Prop) (mk : α → AVal) (wt : α → Nat) : Prop :=
 ∀ {H : Type} (enc : TypeId × Value → H) (w : World) (base fuel : Nat) (v : Value) (d : DataW H) (ps : List MemPlace), Value.okWide P w .any base t v →
  DataW.trod enc P w 0 (fun _ => true) true fuel t v.cells.toList = some (d, ps) → ∃ x : α, ok x ∧ wt x ≤ Rows.uptoBulk d ∧ VR0 w (mk x) v
theorem Opens.agg {α : Type} {ok : α → Prop} {c : α → List AVal} {wt : α → Nat} {fs : Array Field} (h : Opens P t α ok c wt) (ht : P.underlying t = some (.struct fs)) : zsd P t α ok (fun x => .agg (c x)) wt := by
 intro H enc w base fuel v d ps hok hd
 unfold Value.okWide at hok
 rw [ht] at hok
 obtain ⟨cs, rfl, hsz, _⟩ := hok
 obtain ⟨x, x1, x2, x3, x4⟩ := h.run enc w fuel cs.toList d ps (by simpa [Value.cells] using hd)
 exact ⟨x, x1, x2, fun G hG => .agg _ _ (by simpa using x3) fun n z u hz hu => x4 n z u hz (by simpa using hu) G hG⟩
theorem Opens.one {α : Type} {ok : α → Prop} {mk : α → AVal} {wt : α → Nat} {u : TypeDesc} (h : Opens P t α ok (fun x => [mk x]) wt) (ht : P.underlying t = some u) (hu : (match u with | .struct _ | .array _ _ => False | _ => True)) : zsd P t α ok mk wt := by
 intro H enc w base fuel v d ps hok hd
 have hv : v.cells.toList = [v] := by
  cases v <;> first | rfl | skip
  unfold Value.okWide at hok
  rw [ht] at hok
  cases u <;> first | exact hu.elim | (simp [Cell.okWide, Cell.ok, ht] at hok; done)
 rw [hv] at hd
 obtain ⟨x, x1, x2, x3, x4⟩ := h.run enc w fuel [v] d ps hd
 exact ⟨x, x1, x2, x4 0 (mk x) v rfl rfl⟩
def OpensA (P : Program) (ts : List TypeId) (α : Type) (ok : α → Prop) (l : α → List AVal) (wt : α → Nat) : Prop :=
 ∀ {H : Type} (enc : TypeId × Value → H) (w : World) (base : Nat) (vs : List Value) (ds : List (DataW H)) (ps : List MemPlace), (∀ (j : Nat) t v, ts[j]? = some t → vs[j]? = some v → Value.okWide P w .any base t v) →
  DataW.TrodAll enc P w 0 (fun _ => true) true ts vs ds ps → ∃ x : α, ok x ∧ wt x ≤ Rows.uptoBulkAll ds ∧ vs.length = (l x).length ∧ ∀ (n : Nat) (y : AVal) (v : Value), (l x)[n]? = some y → vs[n]? = some v → VR0 w y v
theorem OpensA.nil : OpensA P [] Unit (fun _ => True) (fun _ => []) (fun _ => 0) := by
 intro H enc w base vs ds ps _ h
 obtain ⟨rfl, rfl, rfl⟩ := trodAll_nil h
 exact ⟨(), trivial, Nat.zero_le _, rfl, fun n y v hy => by simp at hy⟩
theorem OpensA.cons {ts : List TypeId} {α β : Type} {ok : α → Prop} {ok' : β → Prop} {mk : α → AVal} {l : β → List AVal} {wt : α → Nat} {wt' : β → Nat} (h1 : zsd P t α ok mk wt) (h2 : OpensA P ts β ok' l wt') :
 OpensA P (t :: ts) (α × β) (fun x => ok x.1 ∧ ok' x.2) (fun x => mk x.1 :: l x.2) (fun x => wt x.1 + wt' x.2) := by
 intro H enc w base vs ds ps hok h
 obtain ⟨v, vs', d, ds', p, q, rfl, rfl, rfl, ⟨fuel, hd⟩, hr⟩ := trodAll_cons h
 obtain ⟨x, x1, x2, x3⟩ := h1 enc w base fuel v d p (hok 0 t v rfl rfl) hd
 obtain ⟨y, y1, y2, y3, y4⟩ := h2 enc w base vs' ds' q (fun j t' v' ht hv => hok (j + 1) t' v' (by simpa using ht) (by simpa using hv)) hr
 refine ⟨(x, y), ⟨x1, y1⟩, ?_, by simpa using y3, fun n z u hz hu => ?_⟩
 ·simp only [Rows.uptoBulkAll]
  omega
 ·match n with
  | 0 => simp at hz hu; subst hz; subst hu; exact x3
  | n + 1 => exact y4 n z u (by simpa using hz) (by simpa using hu)
theorem OpensA.map {ts : List TypeId} {α β : Type} {ok : α → Prop} {ok' : β → Prop} {l : α → List AVal} {l' : β → List AVal} {wt : α → Nat} {wt' : β → Nat} (h : OpensA P ts α ok l wt) (g : α → β) (h1 : ∀ x, ok x → ok' (g x)) (h2 : ∀ x, l' (g x) = l x) (h3 : ∀ x, wt' (g x) ≤ wt x) :
 OpensA P ts β ok' l' wt' := by
 intro H enc w base vs ds ps hok ht
 obtain ⟨x, x1, x2, x3, x4⟩ := h enc w base vs ds ps hok ht
 exact ⟨g x, h1 x x1, Nat.le_trans (h3 x) x2, by rw [h2]; exact x3, by rw [h2]; exact x4⟩
end
theorem qrd {H : Type} {enc : TypeId × Value → H} {P : Program} (hl : laidOutB P = true) {W W' : World} (hb : Below W.heap.size W W') : ∀ {ts : List TypeId} {vs : List Value} {ds : List (DataW H)} {ps : List MemPlace}, (∀ t ∈ ts, P.readableRec t = true ∧ t < P.types.size) →
 DataW.TrodAll enc P W 0 (fun _ => true) true ts vs ds ps → (∀ x ∈ ps, x.block < W.heap.size) → DataW.TrodAll enc P W' 0 (fun b => decide (b < W.heap.size)) true ts vs ds ps
 | [], vs, ds, ps, _, h, _ => by
  obtain ⟨rfl, rfl, rfl⟩ := trodAll_nil h
  exact trodAll_mk0
 | t :: ts, vs, ds, ps, hr, h, hlt => by
  obtain ⟨v, vs', d, ds', p, q, rfl, rfl, rfl, hd, hrest⟩ := trodAll_cons h
  have h1 := hr t (by simp)
  exact trodAll_cons_mk (Below.trod hl h1.1 h1.2 hd hb fun x hx => hlt x (by simp [hx])) (qrd hl hb (fun t' ht' => hr t' (by simp [ht'])) hrest fun x hx => hlt x (by simp [hx]))
theorem qcg {P : Program} {f : FuncId} {fn : Func} {α : Type} {ok : α → Prop} {l : α → List AVal} {wt : α → Nat} {s : ChangeSpec} (hfn : P.funcs[f]? = some fn) (hr : fn.resultTypes = #[4]) (hb : P.underlying 4 = some .bool)
 (hl : laidOutB P = true) (hre : ∀ t ∈ fn.params.toList, P.readableRec t = true ∧ t < P.types.size) (hvars : s.vars = [])
 (hsfn : ∀ (H : Type) (ds : List (DataW H)), ds.length = fn.params.size → s.fn H ds = { results := [.lit (.bool true)], args := ds })
 (ho : OpensA P fn.params.toList α ok l wt) (hEv : ∀ x, ok x → wt x ≤ 1048576 → Ev P f (l x) (.ret (.bool true)))
 (H : Type) (enc : TypeId × Value → H) (W : World) (base : Nat) (args : Array Value) (ds gs : List (DataW H)) (before : List MemPlace)
 (hval : ∀ (j : Nat) t v, fn.params[j]? = some t → args[j]? = some v → Value.okWide P W .any base t v)
 (hW : DataW.Whole enc P fn.params.toList s.vars false W args.toList ds gs before) (hk : Rows.uptoSmall H (ds ++ gs) = true) :
 Calls P f args W fun e W' => ∃ v, e = .returned v ∧ s.post enc P fn false true false false W args v W' := by
 have hW' := hW
 obtain ⟨p, q, hA, hV, rfl, hfz, hnd⟩ := hW
 rw [hvars] at hV
 obtain ⟨rfl, rfl⟩ := trodVars_none hV
 obtain ⟨x, x1, x2, x3, x4⟩ := ho enc W base args.toList ds p (fun j t v ht hv => hval j t v (by simpa using ht) (by simpa using hv)) hA
 have hlen : ds.length = fn.params.size := by
  have : ∀ (ts : List TypeId) (vs : List Value) (ds : List (DataW H)) (ps : List MemPlace), DataW.TrodAll enc P W 0 (fun _ => true) true ts vs ds ps → ds.length = ts.length := by
   intro ts
   induction ts with
   | nil => intro vs ds ps h; obtain ⟨_, rfl, _⟩ := trodAll_nil h; rfl
   | cons t ts ih =>
    intro vs ds ps h
    obtain ⟨v, vs', d, ds', p, q, rfl, rfl, rfl, _, hr⟩ := trodAll_cons h
    simp [ih _ _ _ hr]
  simpa using this _ _ _ _ hA
 have hsmall : Rows.uptoBulkAll ds ≤ 1048576 := by
  have : Rows.uptoBulkAll (ds ++ []) ≤ 1048576 := of_decide_eq_true hk
  simpa using this
 have hcall := (hEv x x1 (by omega)).2 (fun _ => False) W args ⟨fun _ => 0, fun _ _ => .int .i64 0, fun _ => none, fun _ _ => rfl⟩ (fun _ => rfl) (by simpa using x3) (fun i y v hy hv => x4 i y v hy (by simpa using hv) _ (fun _ => rfl)) (fun _ h => h.elim)
 refine hcall.mono ?_
 rintro e W' ⟨G', v', hG', hAdv, he, hr'⟩
 cases hr'
 subst he
 have hbel : Below W.heap.size W W' := ⟨hAdv.os.1, hAdv.tape, hAdv.output, hAdv.size, fun b hb => (hAdv.keep b hb rfl).1⟩
 have hlt : ∀ z ∈ p, z.block < W.heap.size := fun z hz => by simpa using hW'.lt z (by simpa using hz)
 refine ⟨.bool true, rfl, ds, [], p ++ [], [], p, [], hW', ?_, ?_, ?_, hbel.frame _, fun h => by cases h⟩
 ·rw [hr, List.append_nil, hsfn H ds hlen]
  exact trodAll_cons_mk (p' := []) (shut_bool hb _) trodAll_mk0
 ·rw [List.append_nil, hsfn H ds hlen]
  exact qrd hl hbel hre hA hlt
 ·rw [hvars, List.append_nil, hsfn H ds hlen]
  rfl
end
theorem q3r : Tryz.prog.cellsOf 3 = 1 := by kernel_rfl
theorem zdu : Tryz.prog.cellsOf 23 = 1 := by kernel_rfl
theorem qt5 : Tryz.prog.cellsOf 24 = 1 := by kernel_rfl
theorem qhc : Tryz.prog.cellsOf 127 = 3 := by kernel_rfl
theorem qr6 : Tryz.prog.cellsOf 41 = 2 := by kernel_rfl
theorem q94 : Tryz.prog.cellsOf 26 = 2 := by kernel_rfl
theorem q9c : Opens Tryz.prog 3 Int qfz (fun n => [.int .i64 n]) (fun _ => 1) := Opens.int Tryz.underlying3
theorem zp3 : Opens Tryz.prog 23 (List Int) (fun l => ∀ x ∈ l, qfz x) (fun l => [.sl 1 (q04 l)]) (wtL fun _ => 1) :=
 Opens.slice (mk := encI) Tryz.underlying23 q9c q3r (by decide) (fun _ => rfl) (fun _ => rfl) (fun x y hy => by simp at hy; subst hy; rfl)
def okS (s : Sn) : Prop := qfz s.1 ∧ qfz s.2.1 ∧ qfz s.2.2
theorem op_Span : Opens Tryz.prog 127 Sn okS (fun s => [.int .i64 s.1, .int .i64 s.2.1, .int .i64 s.2.2]) (fun _ => 1) :=
 (Opens.struct Tryz.underlying127 qhc (OpensF.cons (k := 1) q9c (fun _ => rfl) q3r rfl (OpensF.cons (k := 1) q9c (fun _ => rfl) q3r rfl (OpensF.cons (k := 1) q9c (fun _ => rfl) q3r rfl (OpensF.nil _))))).map
  (fun x => (x.1, x.2.1, x.2.2.1)) (fun x h => ⟨h.1, h.2.1, h.2.2.1⟩) (fun _ => rfl) (fun _ => Nat.le_add_left _ _)
theorem op_spans : Opens Tryz.prog 24 (List Sn) (fun l => ∀ x ∈ l, okS x) (fun l => [.sl 3 (q0c l)]) (wtL fun _ => 1) :=
 Opens.slice (mk := qsy) Tryz.underlying24 op_Span
  qhc (by decide) (fun _ => rfl) (fun _ => rfl) (fun x y hy => by simp at hy; rcases hy with rfl | rfl | rfl <;> rfl)
def okD (s : Rn) : Prop := qfz s.1 ∧ qfz s.2
theorem op_Dot : Opens Tryz.prog 41 Rn okD (fun x => [.int .i64 x.1, .int .i64 x.2]) (fun _ => 1) :=
 (Opens.struct Tryz.underlying41 qr6 (OpensF.cons (k := 1) q9c (fun _ => rfl) q3r rfl (OpensF.cons (k := 1) q9c (fun _ => rfl) q3r rfl (OpensF.nil _)))).map
  (fun x => (x.1, x.2.1)) (fun x h => ⟨h.1, h.2.1⟩) (fun _ => rfl) (fun _ => Nat.le_add_left _ _)
def okP (p : Pst) : Prop := (∀ x ∈ p.vec, qfz x) ∧ ∀ s ∈ p.cloud, okS s
theorem qdd {α : Type} (l : List α) : wtL (fun _ => 1) l = l.length + 1 := by
 unfold wtL
 induction l with
 | nil => rfl
 | cons x l ih => simp only [List.map_cons, List.sum_cons, List.length_cons]; omega
theorem qs5 : Opens Tryz.prog 26 Pst okP (fun p => [.sl 1 (q04 p.vec), .sl 3 (q0c p.cloud)]) wt :=
 (Opens.struct Tryz.underlying26 q94 (OpensF.cons (k := 1) zp3 (fun _ => rfl) zdu rfl (OpensF.cons (k := 1) op_spans (fun _ => rfl) qt5 rfl (OpensF.nil _)))).map (fun x => ⟨x.1, x.2.1⟩) (fun x h => ⟨h.1, h.2.1⟩) (fun _ => rfl)
  (fun x => by show x.1.length + x.2.1.length ≤ wtL (fun _ => 1) x.1 + (wtL (fun _ => 1) x.2.1 + 0) + 1; rw [qdd, qdd]; omega)
structure Cas where
 a : Pst
 b : Pst
 c : Pst
 ds : List Rn
 rep : Int
 most : Int
theorem own : ownKnob Tryz.prog.godebug = none := by kernel_rfl

theorem ev_k77 (p : Pst) (r : Int) (hw : wt p ≤ 400000000) : Ev (En Tryz.prog rfl).P 77 [q0h p, .int .i64 r] (.ret (.int .i64 (qcl p r))) := by
 have h1 := qsp [p] (by simp) (by simpa using (show wt p ≤ 800000000 by omega))
 have h2 := qh0 p (q5w [p]) (q8f [p]) h1
 have h3 := zqp p (q5w [p]) (q8f [p]) (fun l hl => ?_) r h2
 ·rw [last_eq] at h3
  exact h3
 ·unfold q5w at hl
  obtain ⟨row, hrow, rfl⟩ := List.mem_map.1 hl
  refine ⟨?_, fun x hx => ?_⟩
  ·obtain ⟨i, hi, rfl⟩ := List.getElem_of_mem hrow
   have h := (q1c [p]).2 i
   rw [List.getD_eq_getElem?_getD, List.getElem?_eq_getElem hi] at h
   simp only [Option.getD_some, List.map_cons, List.map_nil, List.sum_cons, List.sum_nil] at h
   have h2 := q20 (q0m [p])[i]
   unfold q0q
   rw [q8q]
   omega
  ·have := qjy (q1d row) x hx
   omega

def z0k : List SOp := [zO 4 (.assign (.const (.slice none 0 0)))]
instance : Live z0k := ⟨[0,1]⟩
def z0j : List SOp := [zM 11 0,zO 12 (.call ⟨.value (.func 156),#[.tmp 11],#[149]⟩),zM 13 1,zO 14 (.call ⟨.value (.func 156),#[.tmp 13],#[149]⟩),zG 5 12,zG 6 14]
instance : Live z0j := ⟨[0,1]⟩
def z0i : List SOp := [zO 7 (.assign (.const (.slice none 0 0)))]
instance : Live z0i := ⟨[5,6]⟩
def z0h : List SOp := [zO 8 (.assign (.const (.int .i64 0))),zO 9 (.assign (.const (.int .i64 0)))]
instance : Live z0h := ⟨[5,6,7]⟩
def z0g : List SOp := [zM 15 8,zM 16 5,zO 17 (.call ⟨.builtin .len,#[.tmp 16],#[149]⟩),zO 18 (.binOp .lss 3 (.tmp 15) (.tmp 17) 3),zM 19 18,⟨some 20,.move (.tmp 9),some ((some 19),true)⟩,⟨some 21,.move (.tmp 6),some ((some 19),true)⟩,⟨some 22,.call ⟨.builtin .len,#[.tmp 21],#[149]⟩,some ((some 19),true)⟩,⟨some 23,.binOp .lss 3 (.tmp 20) (.tmp 22) 3,some ((some 19),true)⟩,zO 24 (.pick (.tmp 19) (.tmp 23) (.const (.bool false)))]
instance : Live z0g := ⟨[5,6,7,8,9]⟩
def z0f : List SOp := [zM 25 5,zM 26 8,zI 27 149 25 26,zF 28 179 27 0,zL 29 3 28,zM 30 6,zM 31 9,zI 32 149 30 31,zF 33 179 32 0,zL 34 3 33,zO 35 (.call ⟨.builtin .max,#[.tmp 29,.tmp 34],#[3,3]⟩),zM 36 5,zM 37 8,zI 38 149 36 37,zF 39 179 38 1,zL 40 3 39,zM 41 6,zM 42 9,zI 43 149 41 42,zF 44 179 43 1,zL 45 3 44,zO 46 (.call ⟨.builtin .min,#[.tmp 40,.tmp 45],#[3,3]⟩),zO 47 (.build 179 #[(0,.tmp 35),(1,.tmp 46)]),zO 10 (.alloc 179),⟨none,.store 179 (.tmp 10) (.tmp 47),none⟩]
instance : Live z0f := ⟨[5,6,7,8,9]⟩
def z0e : List SOp := [zF 48 179 10 0,zL 49 3 48,zF 50 179 10 1,zL 51 3 50,zO 52 (.binOp .leq 3 (.tmp 49) (.tmp 51) 3)]
instance : Live z0e := ⟨[5,6,7,8,9,10]⟩
def z0d : List SOp := [zM 53 7,zL 54 179 10,zO 55 (.buildSlice 149 1 #[(0,.tmp 54)]),zO 56 (.call ⟨.builtin .append,#[.tmp 53,.tmp 55],#[149,149]⟩),zG 7 56]
instance : Live z0d := ⟨[5,6,7,8,9,10]⟩
def z0c : List SOp := [zM 57 5,zM 58 8,zI 59 149 57 58,zF 60 179 59 1,zL 61 3 60,zM 62 6,zM 63 9,zI 64 149 62 63,zF 65 179 64 1,zL 66 3 65,zO 67 (.binOp .lss 3 (.tmp 61) (.tmp 66) 3)]
instance : Live z0c := ⟨[5,6,7,8,9]⟩
def qmt : List SOp := [zM 68 8,zO 69 (.binOp .add 3 (.tmp 68) (.const (.int .i64 1)) 3),zG 8 69]
instance : Live qmt := ⟨[5,6,7,8,9]⟩
def qms : List SOp := [zM 70 9,zO 71 (.binOp .add 3 (.tmp 70) (.const (.int .i64 1)) 3),zG 9 71]
instance : Live qms := ⟨[5,6,7,8,9]⟩
def qmr : List SOp := [zM 72 7,zG 4 72]
instance : Live qmr := ⟨[7]⟩
def qkd : SC :=
 (.seq (.seq (.ops false z0g) (.cond (.tmp 24) .skip (.exit 0))) (.block 1 (.seq (.ops true z0f) (.seq (.seq (.ops false z0e) (.cond (.tmp 52) (.ops false z0d) .skip)) (.seq (.ops true z0c) (.cond (.tmp 67) (.ops false qmt) (.ops false qms)))))))
def t_k160 : SC :=
 (.seq (.ops false z0k) (.seq (.ops false z0j) (.seq (.ops false z0i) (.seq (.seq (.ops false z0h) (.block 0 (.loop qkd))) (.seq (.ops false qmr) .ret)))))
theorem it_k160 : FnIs Tryz.prog 160 73 [.tmp 4] t_k160 := ⟨Tryz.f160, _, Tryz.func160, rfl, rfl, rfl, rfl, by kernel_rfl⟩

def z0b : List SOp := [zO 2 (.assign (.const (.slice none 0 0)))]
instance : Live z0b := ⟨[0]⟩
def z0a : List SOp := [zO 3 (.assign (.const (.slice none 0 0)))]
instance : Live z0a := ⟨[0]⟩
def z09 : List SOp := [zO 4 (.assign (.const (.int .i64 1)))]
instance : Live z09 := ⟨[0,3]⟩
def z08 : List SOp := [zM 7 0,zO 8 (.call ⟨.builtin .len,#[.tmp 7],#[149]⟩),zO 9 (.move (.const (.int .i64 0)))]
instance : Live z08 := ⟨[0,3,4]⟩
def z07 : List SOp := [zO 10 (.binOp .lss 3 (.tmp 9) (.tmp 8) 3)]
instance : Live z07 := ⟨[3,4,7,8,9]⟩
def z06 : List SOp := [zI 11 149 7 9,zL 12 179 11,zO 6 (.alloc 179),⟨none,.store 179 (.tmp 6) (.tmp 12),none⟩]
instance : Live z06 := ⟨[3,4,7,8,9]⟩
def z05 : List SOp := [zM 13 4,zF 14 179 6 0,zL 15 3 14,zO 16 (.binOp .lss 3 (.tmp 13) (.tmp 15) 3)]
instance : Live z05 := ⟨[3,4,6,7,8,9]⟩
def z04 : List SOp := [zM 17 3,zM 18 4,zF 19 179 6 0,zL 20 3 19,zO 21 (.binOp .sub 3 (.tmp 20) (.const (.int .i64 1)) 3),zO 22 (.build 179 #[(0,.tmp 18),(1,.tmp 21)]),zO 23 (.buildSlice 149 1 #[(0,.tmp 22)]),zO 24 (.call ⟨.builtin .append,#[.tmp 17,.tmp 23],#[149,149]⟩),zG 3 24]
instance : Live z04 := ⟨[3,4,6,7,8,9]⟩
def z03 : List SOp := [zF 25 179 6 1,zL 26 3 25,zO 27 (.binOp .add 3 (.tmp 26) (.const (.int .i64 1)) 3),zG 4 27]
instance : Live z03 := ⟨[3,6,7,8,9]⟩
def qmq : List SOp := [zO 28 (.binOp .add 3 (.tmp 9) (.const (.int .i64 1)) 3),zM 9 28]
instance : Live qmq := ⟨[3,4,7,8,9]⟩
def qmp : List SOp := [zM 29 4,zO 30 (.binOp .leq 3 (.tmp 29) (.const (.int .i64 1000000000)) 3)]
instance : Live qmp := ⟨[3,4]⟩
def qmo : List SOp := [zM 31 3,zM 32 4,zO 33 (.build 179 #[(0,.tmp 32),(1,.const (.int .i64 1000000000))]),zO 34 (.buildSlice 149 1 #[(0,.tmp 33)]),zO 35 (.call ⟨.builtin .append,#[.tmp 31,.tmp 34],#[149,149]⟩),zG 3 35]
instance : Live qmo := ⟨[3,4]⟩
def qmn : List SOp := [zM 36 3,zG 2 36]
instance : Live qmn := ⟨[3]⟩
def qkc : SC :=
 (.seq (.ops false z07) (.seq (.cond (.tmp 10) .skip (.exit 0)) (.seq (.block 1 (.seq (.ops false z06) (.seq (.seq (.ops false z05) (.cond (.tmp 16) (.ops false z04) .skip)) (.ops false z03)))) (.ops false qmq))))
def t_k161 : SC :=
 (.seq (.ops false z0b) (.seq (.ops false z0a) (.seq (.ops false z09) (.seq (.seq (.ops false z08) (.block 0 (.loop qkc))) (.seq (.seq (.ops false qmp) (.cond (.tmp 30) (.ops false qmo) .skip)) (.seq (.ops false qmn) .ret))))))
theorem it_k161 : FnIs Tryz.prog 161 37 [.tmp 2] t_k161 := ⟨Tryz.f161, _, Tryz.func161, rfl, rfl, rfl, rfl, by kernel_rfl⟩

def z3r : List SOp := [zO 4 (.assign (.const (.slice none 0 0)))]
instance : Live z3r := ⟨[0,1]⟩
def z3q : List SOp := [zM 5 0,zM 6 1,zO 7 (.call ⟨.value (.func 156),#[.tmp 6],#[149]⟩),zO 8 (.call ⟨.value (.func 161),#[.tmp 7],#[149]⟩),zO 9 (.call ⟨.value (.func 160),#[.tmp 5,.tmp 8],#[149,149]⟩),zG 4 9]
instance : Live z3q := ⟨[0,1]⟩
def t_k139 : SC :=
 (.seq (.ops false z3r) (.seq (.ops false z3q) .ret))
theorem it_k139 : FnIs Tryz.prog 139 10 [.tmp 4] t_k139 := ⟨Tryz.f139, _, Tryz.func139, rfl, rfl, rfl, rfl, by kernel_rfl⟩

def z9g : List SOp := [zO 4 (.assign (.const (.bool false)))]
instance : Live z9g := ⟨[0,1]⟩
def z9f : List SOp := [zM 5 0,zM 6 1,zO 7 (.call ⟨.value (.func 139),#[.tmp 5,.tmp 6],#[149,149]⟩),zO 8 (.call ⟨.builtin .len,#[.tmp 7],#[149]⟩),zO 9 (.binOp .eql 3 (.tmp 8) (.const (.int .i64 0)) 3),zG 4 9]
instance : Live z9f := ⟨[0,1]⟩
def t_k107 : SC :=
 (.seq (.ops false z9g) (.seq (.ops false z9f) .ret))
theorem it_k107 : FnIs Tryz.prog 107 10 [.tmp 4] t_k107 := ⟨Tryz.f107, _, Tryz.func107, rfl, rfl, rfl, rfl, by kernel_rfl⟩

def qrc (x y : Rn) : Rn := (max x.1 y.1, min x.2 y.2)
def qrm (r : Rn) : List Rn := if r.1 ≤ r.2 then [r] else []
def q69 : List Rn → List Rn → List Rn
 | [], _ => []
 | _ :: _, [] => []
 | x :: l, y :: m => qrm (qrc x y) ++ if x.2 < y.2 then q69 l (y :: m) else q69 (x :: l) m
termination_by l m => l.length + m.length
theorem qag (l : List Rn) : q69 l [] = [] := by cases l <;> simp [q69]
theorem q8w (x y : Rn) (l m : List Rn) : q69 (x :: l) (y :: m) = qrm (qrc x y) ++ if x.2 < y.2 then q69 l (y :: m) else q69 (x :: l) m := by
 conv => lhs; unfold q69
structure MtS where
 i : Nat
 j : Nat
 o : List Rn
theorem zdf (a b x y : List Rn) (ha : Ev (En Tryz.prog rfl).P 156 [.sl 2 (q07 a)] (.ret (.sl 2 (q07 x)))) (hb : Ev (En Tryz.prog rfl).P 156 [.sl 2 (q07 b)] (.ret (.sl 2 (q07 y)))) (hx : x.length ≤ 400000000) (hy : y.length ≤ 400000000) :
 Ev (En Tryz.prog rfl).P 160 [.sl 2 (q07 a), .sl 2 (q07 b)] (.ret (.sl 2 (q07 (q69 x y)))) := by
 refine Ev.of_body it_k160 (by simp) (Run.start ?_)
 unfold t_k160
 have e1 := q0w x
 have e2 := q0w y
 (have hF := True.intro; refine q01 (k:=?_); clear hF)
 refine q00 [.sl 2 (q07 a)] (he := ha) (k:=?_)
 (have hF := True.intro; refine q01 (k:=?_); clear hF)
 refine q00 [.sl 2 (q07 b)] (he := hb) (k:=?_)
 (have hF := (aI @e1 @e2); refine q01 (k:=?_); clear hF)
 refine Run.wk (Wk.own_nil 7 56 2 rfl rfl) ?_
 refine Run.while (σ := MtS) (fun z => ⟨tms [(5, .sl 2 (q07 x)), (6, .sl 2 (q07 y)), (7, .os 56 z.o.length), (8, .int .i64 (z.i : Int)), (9, .int .i64 (z.j : Int))], mms [(56, .arr z.o.length 2 (q07 z.o))]⟩)
  (fun z => z.i ≤ x.length ∧ z.j ≤ y.length ∧ z.o.length ≤ z.i + z.j ∧ z.o ++ q69 (x.drop z.i) (y.drop z.j) = q69 x y) (fun z => (x.length - z.i) + (y.length - z.j)) ⟨0, 0, []⟩ (have hW := @q06; q0g) ⟨Nat.zero_le _, Nat.zero_le _, Nat.le_refl _, rfl⟩ ?_
 rintro ⟨i, j, o⟩ ⟨hi, hj, ho, hp⟩
 dsimp only at hi hj ho hp ⊢
 have e3 := q0w o
 unfold qkd
 by_cases hxi : i < x.length
 ·by_cases hyj : j < y.length
  ·obtain ⟨r, hr⟩ : ∃ r, x[i]? = some r := ⟨x[i], by simp [hxi]⟩
   obtain ⟨s, hs⟩ : ∃ s, y[j]? = some s := ⟨y[j], by simp [hyj]⟩
   have g1 := q3a hr
   have g2 := q3a hs
   obtain ⟨_, hxe⟩ := List.getElem?_eq_some_iff.1 hr
   obtain ⟨_, hye⟩ := List.getElem?_eq_some_iff.1 hs
   have hd := q8w r s (x.drop (i + 1)) (y.drop (j + 1))
   rw [← hxe, ← hye, ← List.drop_eq_getElem_cons hxi, ← List.drop_eq_getElem_cons hyj, hxe, hye] at hd
   unfold q47 at g1 g2
   (focus (have hF := (aI (aI @e1 (aI @e2 @e3)) (aI @g1 (aI @g2 @q78))); (repeat' (first | refine go1 (k:=?_) | with_reducible refine Ny.of ?_ ?_ | (refine Hyp.of ?_; intro hc; (try simp only [hc]); (try simp only [Bh] at hc)))); all_goals clear hF))
   ·rename_i hc1
    rw [show qrm (qrc r s) = [(max r.1 s.1, min r.2 s.2)] from if_pos hc1, if_pos hc] at hd
    rw [hd, ← List.append_assoc] at hp
    have hl : (o ++ [(max r.1 s.1, min r.2 s.2)]).length = o.length + 1 := by simp
    (refine Fin.nextW (⟨i + 1, j, o ++ [(max r.1 s.1, min r.2 s.2)]⟩) ?_ (have hW := (aI @q06 @hl); q0g); (try dsimp only))
    exact ⟨⟨by omega, by omega, by rw [hl]; omega, hp⟩, by omega⟩
   ·rename_i hc1
    rw [show qrm (qrc r s) = [(max r.1 s.1, min r.2 s.2)] from if_pos hc1, if_neg hc] at hd
    rw [hd, ← List.append_assoc] at hp
    have hl : (o ++ [(max r.1 s.1, min r.2 s.2)]).length = o.length + 1 := by simp
    (refine Fin.nextW (⟨i, j + 1, o ++ [(max r.1 s.1, min r.2 s.2)]⟩) ?_ (have hW := (aI @q06 @hl); q0g); (try dsimp only))
    exact ⟨⟨by omega, by omega, by rw [hl]; omega, hp⟩, by omega⟩
   ·rename_i hc1
    rw [show qrm (qrc r s) = [] from if_neg hc1, if_pos hc] at hd
    rw [hd, List.nil_append] at hp
    (refine Fin.nextW (⟨i + 1, j, o⟩) ?_ (have hW := @q06; q0g); (try dsimp only))
    exact ⟨⟨by omega, by omega, by omega, hp⟩, by omega⟩
   ·rename_i hc1
    rw [show qrm (qrc r s) = [] from if_neg hc1, if_neg hc] at hd
    rw [hd, List.nil_append] at hp
    (refine Fin.nextW (⟨i, j + 1, o⟩) ?_ (have hW := @q06; q0g); (try dsimp only))
    exact ⟨⟨by omega, by omega, by omega, hp⟩, by omega⟩
  ·rw [List.drop_eq_nil_of_le (show y.length ≤ j by omega), qag, List.append_nil] at hp
   rw [← hp]
   (have hF := (aI @e1 (aI @e2 @e3)); refine q01 (k:=?_); clear hF)
   exact qhq (.sl 2 (q07 o))
 ·rw [List.drop_eq_nil_of_le (show x.length ≤ i by omega), show q69 [] (y.drop j) = [] by unfold q69; rfl, List.append_nil] at hp
  rw [← hp]
  (have hF := (aI @e1 (aI @e2 @e3)); refine q01 (k:=?_); clear hF)
  exact qhq (.sl 2 (q07 o))
def q2q : Int → List Rn → List Rn
 | k, [] => qrm (k, 1000000000)
 | k, r :: l => (if k < r.1 then [(k, r.1 - 1)] else []) ++ q2q (r.2 + 1) l
def q5r (l : List Rn) : List Rn := q2q 1 l
structure OtS where
 i : Nat
 k : Int
 o : List Rn
theorem ev_k161 (l : List Rn) (hl : l.length ≤ 400000000) (hb : ∀ r ∈ l, 1 ≤ r.1 ∧ r.1 ≤ 1000000000 ∧ 1 ≤ r.2 ∧ r.2 ≤ 1000000000) : Ev (En Tryz.prog rfl).P 161 [.sl 2 (q07 l)] (.ret (.sl 2 (q07 (q5r l)))) := by
 refine Ev.of_body it_k161 (by simp) (Run.start ?_)
 unfold t_k161
 have e1 := q0w l
 (have hF := @e1; refine q01 (k:=?_); clear hF)
 refine Run.wk (Wk.own_nil 3 24 2 rfl rfl) ?_
 refine Run.while (σ := OtS) (fun z => ⟨tms [(3, .os 24 z.o.length), (4, .int .i64 z.k), (7, .sl 2 (q07 l)), (8, .int .i64 (l.length : Int)), (9, .int .i64 (z.i : Int))], mms [(24, .arr z.o.length 2 (q07 z.o))]⟩)
  (fun z => z.i ≤ l.length ∧ z.o.length ≤ z.i ∧ 1 ≤ z.k ∧ z.k ≤ 1000000001 ∧ z.o ++ q2q z.k (l.drop z.i) = q5r l) (fun z => l.length - z.i) ⟨0, 1, []⟩ (have hW := @q06; q0g) ⟨Nat.zero_le _, Nat.le_refl _, by decide, by decide, rfl⟩ ?_
 rintro ⟨i, k, o⟩ ⟨hi, ho, hk1, hk2, hp⟩
 dsimp only at hi ho hp hk1 hk2 ⊢
 have e3 := q0w o
 unfold qkc
 by_cases hlt : i < l.length
 ·obtain ⟨r, hr⟩ : ∃ r, l[i]? = some r := ⟨l[i], by simp [hlt]⟩
  have g1 := q3a hr
  have hbr := hb r (List.mem_of_getElem? hr)
  obtain ⟨_, hre⟩ := List.getElem?_eq_some_iff.1 hr
  rw [List.drop_eq_getElem_cons hlt, hre] at hp
  change o ++ ((if k < r.1 then [(k, r.1 - 1)] else []) ++ q2q (r.2 + 1) (l.drop (i + 1))) = _ at hp
  unfold q47 at g1
  (focus (have hF := (aI (aI @e1 @e3) (aI @g1 @q78)); (repeat' (first | refine go1 (k:=?_) | with_reducible refine Ny.of ?_ ?_ | (refine Hyp.of ?_; intro hc; (try simp only [hc]); (try simp only [Bh] at hc)))); all_goals clear hF))
  ·rw [if_pos hc, ← List.append_assoc] at hp
   have hl : (o ++ [(k, r.1 - 1)]).length = o.length + 1 := by simp
   (refine Fin.nextW (⟨i + 1, r.2 + 1, o ++ [(k, r.1 - 1)]⟩) ?_ (have hW := (aI @q06 @hl); q0g); (try dsimp only))
   exact ⟨⟨by omega, by rw [hl]; omega, by omega, by omega, hp⟩, by omega⟩
  ·rw [if_neg hc, List.nil_append] at hp
   (refine Fin.nextW (⟨i + 1, r.2 + 1, o⟩) ?_ (have hW := @q06; q0g); (try dsimp only))
   exact ⟨⟨by omega, by omega, by omega, by omega, hp⟩, by omega⟩
 ·rw [List.drop_eq_nil_of_le (show l.length ≤ i by omega)] at hp
  change o ++ qrm (k, 1000000000) = _ at hp
  (focus (have hF := (aI @e1 (aI @e3 @q78)); (repeat' (first | refine go1 (k:=?_) | with_reducible refine Ny.of ?_ ?_ | (refine Hyp.of ?_; intro hc; (try simp only [hc]); (try simp only [Bh] at hc)))); all_goals clear hF))
  ·rw [show qrm (k, 1000000000) = [(k, 1000000000)] from if_pos hc] at hp
   rw [← hp]
   exact qhq (.sl 2 (q07 (o ++ [(k, 1000000000)])))
  ·rw [show qrm (k, 1000000000) = [] from if_neg hc, List.append_nil] at hp
   rw [← hp]
   exact qhq (.sl 2 (q07 o))
theorem zdi (a b x y : List Rn) (hb : Ev (En Tryz.prog rfl).P 156 [.sl 2 (q07 b)] (.ret (.sl 2 (q07 y)))) (ho : Ev (En Tryz.prog rfl).P 161 [.sl 2 (q07 y)] (.ret (.sl 2 (q07 (q5r y)))))
 (hm : Ev (En Tryz.prog rfl).P 160 [.sl 2 (q07 a), .sl 2 (q07 (q5r y))] (.ret (.sl 2 (q07 x)))) : Ev (En Tryz.prog rfl).P 139 [.sl 2 (q07 a), .sl 2 (q07 b)] (.ret (.sl 2 (q07 x))) := by
 refine Ev.of_body it_k139 (by simp) (Run.start ?_)
 unfold t_k139
 (have hF := True.intro; refine q01 (k:=?_); clear hF)
 refine q00 [.sl 2 (q07 b)] (he := hb) (k:=?_)
 (have hF := True.intro; refine q01 (k:=?_); clear hF)
 refine q00 [.sl 2 (q07 y)] (he := ho) (k:=?_)
 (have hF := True.intro; refine q01 (k:=?_); clear hF)
 refine q00 [.sl 2 (q07 a), .sl 2 (q07 (q5r y))] (he := hm) (k:=?_)
 (have hF := True.intro; refine q01 (k:=?_); clear hF)
 exact qhq (.sl 2 (q07 x))
theorem zdk (a b x : List Rn) (hx : x.length ≤ 1000000000) (hm : Ev (En Tryz.prog rfl).P 139 [.sl 2 (q07 a), .sl 2 (q07 b)] (.ret (.sl 2 (q07 x)))) : Ev (En Tryz.prog rfl).P 107 [.sl 2 (q07 a), .sl 2 (q07 b)] (.ret (.bool (decide (x = [])))) := by
 refine Ev.of_body it_k107 (by simp) (Run.start ?_)
 unfold t_k107
 have e1 := q0w x
 (have hF := @e1; refine q01 (k:=?_); clear hF)
 refine q00 [.sl 2 (q07 a), .sl 2 (q07 b)] (he := hm) (k:=?_)
 (have hF := @e1; refine q01 (k:=?_); clear hF)
 have hd : decide (x = []) = decide ((x.length : Int) = 0) := by
  rw [decide_eq_decide]
  constructor
  ·intro h; rw [h]; rfl
  ·intro h; exact List.eq_nil_of_length_eq_zero (by omega)
 rw [hd]
 exact Fin.tmp' rfl rfl

theorem zbc (x : Rn) (n : Int) : inR (qrm x) n ↔ x.1 ≤ n ∧ n ≤ x.2 := by
 unfold qrm
 by_cases h : x.1 ≤ x.2
 ·rw [if_pos h]; exact q7u x n
 ·rw [if_neg h]
  constructor
  ·intro hh; exact absurd hh (q2j n)
  ·intro hh; omega
theorem qij : ∀ {l m : List Rn}, Can l → Can m → ∀ n, inR (q69 l m) n ↔ inR l n ∧ inR m n
 | [], m, _, _, n => by
  unfold q69
  constructor
  ·intro h; exact absurd h (q2j n)
  ·intro h; exact absurd h.1 (q2j n)
 | x :: l, [], _, _, n => by
  rw [qag]
  constructor
  ·intro h; exact absurd h (q2j n)
  ·intro h; exact absurd h.2 (q2j n)
 | x :: l, y :: m, hl, hm, n => by
  rw [q8w, q2r, zbc, q0y, q0y]
  have a := fun h => hl.above (n := n) h
  have b := fun h => hm.above (n := n) h
  unfold qrc
  by_cases h : x.2 < y.2
  ·rw [if_pos h, qij hl.tail hm n, q0y]
   constructor
   ·rintro (h1 | ⟨h1, h2⟩)
    ·exact ⟨.inl (by omega), .inl (by omega)⟩
    ·exact ⟨.inr h1, h2⟩
   ·rintro ⟨h1 | h1, h2⟩
    ·rcases h2 with h2 | h2
     ·exact .inl (by omega)
     ·have := b h2; omega
    ·exact .inr ⟨h1, h2⟩
  ·rw [if_neg h, qij hl hm.tail n, q0y]
   constructor
   ·rintro (h1 | ⟨h1, h2⟩)
    ·exact ⟨.inl (by omega), .inl (by omega)⟩
    ·exact ⟨h1, .inr h2⟩
   ·rintro ⟨h1, h2 | h2⟩
    ·rcases h1 with h1 | h1
     ·exact .inl (by omega)
     ·have := a h1; omega
    ·exact .inr ⟨h1, h2⟩
termination_by l m => l.length + m.length
theorem qer : ∀ l m : List Rn, (q69 l m).length ≤ l.length + m.length
 | [], m => by unfold q69; simp
 | x :: l, [] => by rw [qag]; simp
 | x :: l, y :: m => by
  rw [q8w, List.length_append]
  have h0 : (qrm (qrc x y)).length ≤ 1 := by unfold qrm; split <;> simp
  by_cases h : x.2 < y.2
  ·rw [if_pos h]
   have := qer l (y :: m)
   simp only [List.length_cons] at *
   omega
  ·rw [if_neg h]
   have := qer (x :: l) m
   simp only [List.length_cons] at *
   omega
termination_by l m => l.length + m.length
theorem qac : ∀ {l : List Rn} (k : Int), Can l → 1 ≤ k → (∀ n, inR l n → k ≤ n) → ∀ n, inR (q2q k l) n ↔ k ≤ n ∧ n ≤ 1000000000 ∧ ¬ inR l n
 | [], k, _, hk, _, n => by
  unfold q2q
  rw [zbc]
  constructor
  ·intro h; exact ⟨h.1, h.2, q2j n⟩
  ·intro h; exact ⟨h.1, h.2.1⟩
 | r :: l, k, hl, hk, hb, n => by
  have hr := (Can.cons_iff.1 hl).1
  unfold okR at hr
  have hkr : k ≤ r.1 := hb r.1 ((q0y r l _).2 (.inl ⟨Int.le_refl _, hr.2.1⟩))
  have ih := qac (l := l) (r.2 + 1) hl.tail (by omega) (fun n h => by have := hl.above h; omega) n
  show inR ((if k < r.1 then [(k, r.1 - 1)] else []) ++ q2q (r.2 + 1) l) n ↔ _
  rw [q2r, ih, q0y]
  have a := fun h => hl.above (n := n) h
  by_cases h : k < r.1
  ·rw [if_pos h, q7u]
   constructor
   ·rintro (h1 | ⟨h1, h2, h3⟩)
    ·exact ⟨by omega, by omega, fun h4 => by
      rcases h4 with h4 | h4
      ·omega
      ·have := a h4; omega⟩
    ·exact ⟨by omega, h2, fun h4 => by
      rcases h4 with h4 | h4
      ·omega
      ·exact h3 h4⟩
   ·rintro ⟨h1, h2, h3⟩
    by_cases h4 : n < r.1
    ·exact .inl (by omega)
    ·refine .inr ⟨?_, h2, fun h5 => h3 (.inr h5)⟩
     have : ¬ (r.1 ≤ n ∧ n ≤ r.2) := fun h5 => h3 (.inl h5)
     omega
  ·rw [if_neg h]
   constructor
   ·rintro (h1 | ⟨h1, h2, h3⟩)
    ·exact absurd h1 (q2j n)
    ·exact ⟨by omega, h2, fun h4 => by
      rcases h4 with h4 | h4
      ·omega
      ·exact h3 h4⟩
   ·rintro ⟨h1, h2, h3⟩
    refine .inr ⟨?_, h2, fun h5 => h3 (.inr h5)⟩
    have : ¬ (r.1 ≤ n ∧ n ≤ r.2) := fun h5 => h3 (.inl h5)
    omega
theorem q6t : ∀ (l : List Rn) (k : Int), (q2q k l).length ≤ l.length + 1
 | [], k => by unfold q2q qrm; split <;> simp
 | r :: l, k => by
  have := q6t l (r.2 + 1)
  show ((if k < r.1 then [(k, r.1 - 1)] else []) ++ q2q (r.2 + 1) l).length ≤ _
  rw [List.length_append, List.length_cons]
  split <;> simp <;> omega
theorem qgj {l : List Rn} (h : Can l) (n : Int) : inR (q5r l) n ↔ 1 ≤ n ∧ n ≤ 1000000000 ∧ ¬ inR l n :=
 qac 1 h (by omega) (fun n hn => (h.bound hn).1) n
def q5v (a b : List Rn) : List Rn := q69 (q10 a) (q10 (q5r (q10 b)))
theorem q72 (a b : List Rn) (n : Int) : inR (q5v a b) n ↔ mem1 a n ∧ ¬ mem1 b n := by
 unfold q5v
 rw [qij (q1d _) (q1d _), q2i, q2i]
 constructor
 ·rintro ⟨h1, h2⟩
  refine ⟨h1, fun h3 => ?_⟩
  have := (qgj (q1d b) n).1 h2.2.2
  exact this.2.2 ((q2i b n).2 h3)
 ·rintro ⟨h1, h2⟩
  refine ⟨h1, h1.1, h1.2.1, (qgj (q1d b) n).2 ⟨h1.1, h1.2.1, fun h3 => h2 ((q2i b n).1 h3)⟩⟩

def zk6 : List SOp := [zO 2 (.box 26 (.tmp 0)),zO 3 (.box 26 (.tmp 1)),zO 4 (.assign (.const (.bool false)))]
instance : Live zk6 := ⟨[0,1]⟩
def zk5 : List SOp := [zL 8 26 2,zO 9 (.buildSlice 116 1 #[(0,.tmp 8)]),zO 10 (.call ⟨.value (.func 96),#[.tmp 9],#[116]⟩),zL 11 26 3,zO 12 (.buildSlice 116 1 #[(0,.tmp 11)]),zO 13 (.call ⟨.value (.func 96),#[.tmp 12],#[116]⟩),zG 5 10,zG 6 13]
instance : Live zk5 := ⟨[2,3]⟩
def zk4 : List SOp := [zO 14 (.move (.const (.int .i64 0)))]
instance : Live zk4 := ⟨[5,6]⟩
def zk3 : List SOp := [zO 15 (.binOp .lss 3 (.tmp 14) (.const (.int .i64 16)) 3)]
instance : Live zk3 := ⟨[5,6,14]⟩
def zk2 : List SOp := [zM 16 14,zG 7 16]
instance : Live zk2 := ⟨[5,6,14]⟩
def zk1 : List SOp := [zM 17 5,zM 18 7,zO 19 (.nilCheck (.tmp 17)),zI 20 151 19 18,zL 21 149 20,zO 22 (.call ⟨.builtin .len,#[.tmp 21],#[149]⟩),zO 23 (.binOp .gtr 3 (.tmp 22) (.const (.int .i64 0)) 3),zM 24 23,⟨some 25,.move (.tmp 5),some ((some 24),true)⟩,⟨some 26,.move (.tmp 7),some ((some 24),true)⟩,⟨some 27,.nilCheck (.tmp 25),some ((some 24),true)⟩,⟨some 28,.indexAddr 151 (.tmp 27) (.tmp 26),some ((some 24),true)⟩,⟨some 29,.load 149 (.tmp 28),some ((some 24),true)⟩,⟨some 30,.move (.tmp 6),some ((some 24),true)⟩,⟨some 31,.move (.tmp 7),some ((some 24),true)⟩,⟨some 32,.nilCheck (.tmp 30),some ((some 24),true)⟩,⟨some 33,.indexAddr 151 (.tmp 32) (.tmp 31),some ((some 24),true)⟩,⟨some 34,.load 149 (.tmp 33),some ((some 24),true)⟩,⟨some 35,.call ⟨.value (.func 107),#[.tmp 29,.tmp 34],#[149,149]⟩,some ((some 24),true)⟩,⟨some 36,.unOp .not 4 (.tmp 35),some ((some 24),true)⟩,zO 37 (.pick (.tmp 24) (.tmp 36) (.const (.bool false)))]
instance : Live zk1 := ⟨[5,6,7,14]⟩
def zk0 : List SOp := [zO 4 (.assign (.const (.bool false)))]
instance : Live zk0 := ⟨[]⟩
def zjz : List SOp := [zO 38 (.binOp .add 3 (.tmp 14) (.const (.int .i64 1)) 3),zM 14 38]
instance : Live zjz := ⟨[5,6,14]⟩
def zjy : List SOp := [zO 4 (.assign (.const (.bool true)))]
instance : Live zjy := ⟨[]⟩
def qu3 : SC :=
 (.seq (.ops false zk3) (.seq (.cond (.tmp 15) .skip (.exit 0)) (.seq (.block 1 (.seq (.ops false zk2) (.seq (.ops true zk1) (.cond (.tmp 37) (.seq (.ops false zk0) .ret) .skip)))) (.ops false zjz))))
def t_k56 : SC :=
 (.seq (.ops false zk6) (.seq (.ops true zk5) (.seq (.seq (.ops false zk4) (.block 0 (.loop qu3))) (.seq (.ops false zjy) .ret))))
theorem it_k56 : FnIs Tryz.prog 56 39 [.tmp 4] t_k56 := ⟨Tryz.f56, _, Tryz.func56, rfl, rfl, rfl, rfl, by kernel_rfl⟩

def zgd : List SOp := [zO 1 (.box 26 (.tmp 0)),zO 2 (.assign (.const (.bool false)))]
instance : Live zgd := ⟨[0]⟩
def zgc : List SOp := [zL 3 26 1,zO 4 (.call ⟨.value (.func 132),#[.tmp 3],#[26]⟩),zO 5 (.binOp .eql 3 (.tmp 4) (.const (.int .i64 0)) 3),zG 2 5]
instance : Live zgc := ⟨[1]⟩
def t_k92 : SC :=
 (.seq (.ops false zgd) (.seq (.ops false zgc) .ret))
theorem it_k92 : FnIs Tryz.prog 92 6 [.tmp 2] t_k92 := ⟨Tryz.f92, _, Tryz.func92, rfl, rfl, rfl, rfl, by kernel_rfl⟩

theorem ev_k160 (a b : List Rn) (ha : a.length ≤ 300000000) (hb : b.length ≤ 300000000) : Ev (En Tryz.prog rfl).P 160 [.sl 2 (q07 a), .sl 2 (q07 b)] (.ret (.sl 2 (q07 (q69 (q10 a) (q10 b))))) :=
 zdf a b _ _ (qfa a (by omega)) (qfa b (by omega)) (by have := q20 a; omega) (by have := q20 b; omega)
theorem zr4 (a b : List Rn) (ha : a.length ≤ 200000000) (hb : b.length ≤ 200000000) : Ev (En Tryz.prog rfl).P 139 [.sl 2 (q07 a), .sl 2 (q07 b)] (.ret (.sl 2 (q07 (q5v a b)))) := by
 have h1 := q20 b
 have h2 := q6t (q10 b) 1
 exact zdi a b _ _ (qfa b (by omega)) (ev_k161 _ (by omega) fun r hr => by have := (q1d b).2 r hr; unfold okR at this; omega) (ev_k160 a _ (by omega) (by unfold q5r; omega))
theorem q8v (a b : List Rn) : (q5v a b).length ≤ a.length + b.length + 1 := by
 have h1 := qer (q10 a) (q10 (q5r (q10 b)))
 have h2 := q20 a
 have h3 := q20 (q5r (q10 b))
 have h4 := q6t (q10 b) 1
 have h5 := q20 b
 unfold q5v q5r at *
 omega
theorem ev_k107 (a b : List Rn) (ha : a.length ≤ 200000000) (hb : b.length ≤ 200000000) : Ev (En Tryz.prog rfl).P 107 [.sl 2 (q07 a), .sl 2 (q07 b)] (.ret (.bool (decide (q5v a b = [])))) :=
 zdk a b _ (by have := q8v a b; omega) (zr4 a b ha hb)
def ze4 (t u : Tab) : Prop := ∀ r, r < 16 → q5v (t.getD r []) (u.getD r []) = []
open Classical in
noncomputable def q0n (p q : Pst) : Bool := decide (ze4 (q0m [p]) (q0m [q]))
theorem qc4 {p q : Pst} (h : ze4 (q0m [p]) (q0m [q])) : q0n p q = true := by
 classical
 exact decide_eq_true h
theorem q9z {p q : Pst} (h : ¬ ze4 (q0m [p]) (q0m [q])) : q0n p q = false := by
 classical
 exact decide_eq_false h
theorem qii : ∀ (l m : List Rn), ∀ r ∈ q69 l m, r.1 ≤ r.2
 | [], m, r, h => by unfold q69 at h; simp at h
 | x :: l, [], r, h => by rw [qag] at h; simp at h
 | x :: l, y :: m, r, h => by
  rw [q8w] at h
  rcases List.mem_append.1 h with h | h
  ·unfold qrm at h
   split at h
   ·rename_i hc
    simp at h
    subst h
    exact hc
   ·simp at h
  ·split at h
   ·exact qii l (y :: m) r h
   ·exact qii (x :: l) m r h
termination_by l m => l.length + m.length
theorem zeg {t u : Tab} : ze4 t u ↔ ∀ r, r < 16 → ∀ n, inT t r n → inT u r n := by
 constructor
 ·intro h r hr n hn
  by_cases h' : inT u r n
  ·exact h'
  ·have := (q72 (t.getD r []) (u.getD r []) n).2 ⟨hn, h'⟩
   rw [h r hr] at this
   exact absurd this (q2j n)
 ·intro h r hr
  cases hm : q5v (t.getD r []) (u.getD r []) with
  | nil => rfl
  | cons x l =>
   have hx : x ∈ q5v (t.getD r []) (u.getD r []) := by rw [hm]; exact List.mem_cons_self
   have hok := qii _ _ x hx
   have := (q72 (t.getD r []) (u.getD r []) x.1).1 ⟨x, hx, Int.le_refl _, hok⟩
   exact absurd (h r hr x.1 this.1) this.2
theorem q2h {p q : Pst} : q0n p q = true ↔ ∀ r, r < 16 → ∀ n, inP p r n → inP q r n := by
 have h : ze4 (q0m [p]) (q0m [q]) ↔ ∀ r, r < 16 → ∀ n, inP p r n → inP q r n := by
  rw [zeg]
  constructor
  ·intro h r hr n
   have := h r hr n
   rw [q50 hr, q50 hr] at this
   simpa using this
  ·intro h r hr n
   rw [q50 hr, q50 hr]
   simpa using h r hr n
 rw [← h]
 constructor
 ·intro h1
  by_cases h2 : ze4 (q0m [p]) (q0m [q])
  ·exact h2
  ·rw [q9z h2] at h1; simp at h1
 ·exact qc4
theorem zcs (b : List Rn) : q5v [] b = [] := by
 unfold q5v
 rw [q4u Can.nil]
 unfold q69
 rfl
theorem ev_k56 (p q : Pst) (hp : wt p ≤ 100000000) (hq : wt q ≤ 100000000) : Ev (En Tryz.prog rfl).P 56 [q0h p, q0h q] (.ret (.bool (q0n p q))) := by
 refine Ev.of_body it_k56 (by simp) (Run.start ?_)
 unfold t_k56 q0h
 have c1 := qf9 [p] (by simp) (by simp; omega)
 have c2 := qf9 [q] (by simp) (by simp; omega)
 have ht : TabLe (q0m [p]) (wt p) := by simpa using q1c [p]
 have hu : TabLe (q0m [q]) (wt q) := by simpa using q1c [q]
 have hr := @qc4 p q
 have hr' := @q9z p q
 (have hF := True.intro; refine q01 (k:=?_); clear hF)
 refine q00 [.sl 2 (q1o [p])] (he := c1) (k:=?_)
 (have hF := True.intro; refine q01 (k:=?_); clear hF)
 refine q00 [.sl 2 (q1o [q])] (he := c2) (k:=?_)
 clear c1 c2
 generalize q0m [p] = t at ht hr hr' ⊢
 generalize q0m [q] = u at hu hr hr' ⊢
 have e1 : (q23 t).length = 16 := by rw [q4v, ht.1]
 have e2 : (q23 u).length = 16 := by rw [q4v, hu.1]
 (have hF := (aI @e1 @e2); refine q01 (k:=?_); clear hF)
 refine Run.while (σ := Nat) (fun i => ⟨tms [(5, .sptr (q23 t)), (6, .sptr (q23 u)), (14, .int .i64 (i : Int))], mms []⟩) (fun i => i ≤ 16 ∧ ∀ r, r < i → q5v (t.getD r []) (u.getD r []) = []) (fun i => 16 - i) 0 (have hW := @q1k; q0g) ⟨Nat.zero_le _, fun j hj => absurd hj (Nat.not_lt_zero _)⟩ ?_
 rintro i ⟨hi, hp⟩
 unfold qu3
 by_cases hlt : i < 16
 ·have hit : i < t.length := by rw [ht.1]; exact hlt
  have hiu : i < u.length := by rw [hu.1]; exact hlt
  have h1 := ht.2 i
  have h2 := hu.2 i
  have g1 := q7a (q62 hit)
  have g2 := q7a (q62 hiu)
  have c3 := ev_k107 (t.getD i []) (u.getD i []) (by omega) (by omega)
  have hs : q5v (t.getD i []) (u.getD i []) = [] → ∀ r, r < i + 1 → q5v (t.getD r []) (u.getD r []) = [] := fun h r hr => by
   by_cases e : r = i
   ·rw [e]; exact h
   ·exact hp r (by omega)
  have e3 := q0w (t.getD i [])
  by_cases hn : t.getD i [] = []
  ·have hs2 := hs (by rw [hn, zcs])
   have e4 : (q07 (t.getD i [])).length = 0 := by rw [e3, hn]; rfl
   (have hF := (aI (aI @e1 @e2) (aI @g1 (aI @g2 @e4))); refine q01 (k:=?_); clear hF)
   (refine Fin.nextW (i + 1) ?_ (have hW := @q1k; q0g); (try dsimp only))
   exact ⟨⟨hlt, hs2⟩, by omega⟩
  ·have e4 : 0 < (t.getD i []).length := List.length_pos_iff.2 hn
   (have hF := (aI (aI @e1 @e2) (aI @g1 (aI @g2 @e3))); refine q01 (k:=?_); clear hF)
   refine q00 [.sl 2 (q07 (t.getD i [])), .sl 2 (q07 (u.getD i []))] (he := c3) (k:=?_)
   (focus (have hF := (aI (aI @e1 @e2) (aI @g1 (aI @g2 @e3))); (repeat' (first | refine go1 (k:=?_) | with_reducible refine Ny.of ?_ ?_ | (refine Hyp.of ?_; intro hc; (try simp only [hc]); (try simp only [Bh] at hc)))); all_goals clear hF))
   ·rw [hr' fun h => hc (h i hlt)]
    exact Fin.tmp' rfl rfl
   ·have hs2 := hs hc
    (refine Fin.nextW (i + 1) ?_ (have hW := @q1k; q0g); (try dsimp only))
    exact ⟨⟨hlt, hs2⟩, by omega⟩
 ·rw [hr fun r hr => hp r (by omega)]
  (have hF := (aI @e1 @e2); refine q01 (k:=?_); clear hF)
  exact Fin.tmp' rfl rfl
theorem qql (p : Pst) (hp : wt p ≤ 50000000) : Ev (En Tryz.prog rfl).P 92 [q0h p] (.ret (.bool (decide (q2x p = 0)))) := by
 refine Ev.of_body it_k92 (by simp) (Run.start ?_)
 unfold t_k92 q0h
 (have hF := True.intro; refine q01 (k:=?_); clear hF)
 refine q00 [q0h p] (he := ev_k132 p hp) (k:=?_)
 (have hF := True.intro; refine q01 (k:=?_); clear hF)
 exact Fin.tmp' rfl rfl

def z02 : List SOp := [zO 3 (.box 26 (.tmp 0)),zO 4 (.box 26 (.tmp 1)),zO 6 (.alloc 26)]
instance : Live z02 := ⟨[0,1,2]⟩
def z01 : List SOp := [zL 10 26 3,zO 11 (.buildSlice 116 1 #[(0,.tmp 10)]),zO 12 (.call ⟨.value (.func 96),#[.tmp 11],#[116]⟩),zL 13 26 4,zO 14 (.buildSlice 116 1 #[(0,.tmp 13)]),zO 15 (.call ⟨.value (.func 96),#[.tmp 14],#[116]⟩),zG 7 12,zG 8 15]
instance : Live z01 := ⟨[2,3,4,6]⟩
def z00 : List SOp := [zO 16 (.move (.const (.int .i64 0)))]
instance : Live z00 := ⟨[2,6,7,8]⟩
def qzz : List SOp := [zO 17 (.binOp .lss 3 (.tmp 16) (.const (.int .i64 16)) 3)]
instance : Live qzz := ⟨[2,6,7,8,16]⟩
def qzy : List SOp := [zM 18 16,zG 9 18]
instance : Live qzy := ⟨[2,6,7,8,16]⟩
def qzx : List SOp := [zM 19 7,zM 20 9,zM 21 2,zM 22 7,zM 23 9,zO 24 (.nilCheck (.tmp 22)),zI 25 151 24 23,zL 26 149 25,zM 27 8,zM 28 9,zO 29 (.nilCheck (.tmp 27)),zI 30 151 29 28,zL 31 149 30,zO 32 (.call ⟨.value (.tmp 21),#[.tmp 26,.tmp 31],#[149,149]⟩),zO 33 (.nilCheck (.tmp 19)),zI 34 151 33 20,⟨none,.store 149 (.tmp 34) (.tmp 32),none⟩]
instance : Live qzx := ⟨[2,6,7,8,9,16]⟩
def qzw : List SOp := [zO 35 (.binOp .add 3 (.tmp 16) (.const (.int .i64 1)) 3),zM 16 35]
instance : Live qzw := ⟨[2,6,7,8,16]⟩
def qzv : List SOp := [zM 36 7,zO 37 (.call ⟨.value (.func 97),#[.tmp 36],#[137]⟩),⟨none,.store 26 (.tmp 6) (.tmp 37),none⟩]
instance : Live qzv := ⟨[6,7]⟩
def qkb : SC :=
 (.seq (.ops false qzz) (.seq (.cond (.tmp 17) .skip (.exit 0)) (.seq (.block 1 (.seq (.ops false qzy) (.ops true qzx))) (.ops false qzw))))
def t_k162 : SC :=
 (.seq (.ops false z02) (.seq (.ops true z01) (.seq (.seq (.ops false z00) (.block 0 (.loop qkb))) (.seq (.ops false qzv) .ret))))
theorem it_k162 : FnIs Tryz.prog 162 38 [.cell 6 26] t_k162 := ⟨Tryz.f162, _, Tryz.func162, rfl, rfl, rfl, rfl, by kernel_rfl⟩

def z3p : List SOp := [zO 2 (.box 26 (.tmp 0)),zO 3 (.box 26 (.tmp 1)),zO 4 (.alloc 26)]
instance : Live z3p := ⟨[0,1]⟩
def z3o : List SOp := [zL 5 26 2,zL 6 26 3,zO 7 (.call ⟨.value (.func 162),#[.tmp 5,.tmp 6,.func 139],#[26,26,186]⟩),⟨none,.store 26 (.tmp 4) (.tmp 7),none⟩]
instance : Live z3o := ⟨[2,3,4]⟩
def t_k140 : SC :=
 (.seq (.ops false z3p) (.seq (.ops false z3o) .ret))
theorem it_k140 : FnIs Tryz.prog 140 8 [.cell 4 26] t_k140 := ⟨Tryz.f140, _, Tryz.func140, rfl, rfl, rfl, rfl, by kernel_rfl⟩

theorem new_k96 (ps : List Pst) (hl : ps.length ≤ 1000000000) (hw : (ps.map wt).sum ≤ 900000000) : EvNew (En Tryz.prog rfl).P 96 [.sl 2 (q1o ps)] (q23 (q0m ps)) := by
 refine EvNew.of_body it_k96 (by simp) (Run.start ?_)
 unfold t_k96
 have e0 : (q1o ps).length = ps.length := qas _
 (have hF := @e0; refine q1a (k:=?_); clear hF)
 refine Run.wk (Wk.trans (Wk.own_cells (k := 10) (cs' := q5d q7g) rfl rfl ?_) (Wk.toL [(3, .ptr 10 0), (11, .sl 2 (q1o ps)), (12, .int .i64 ps.length), (13, .int .i64 0)] [(10, .cells (q5d q7g))] ⟨rfl, rfl, rfl, rfl, trivial⟩ ⟨rfl, trivial⟩ ⟨rfl, q0d ps, rfl, rfl, trivial⟩ ⟨q2z _ _, trivial⟩)) ?_
 ·intro i x y hx hy
  have hx' : (List.replicate 16 AVal.nil)[i]? = some x := hx
  rw [List.getElem?_replicate] at hx'
  have hy' : (List.replicate 16 (AVal.own 2 []))[i]? = some y := hy
  rw [List.getElem?_replicate] at hy'
  split at hx'
  ·rename_i h16
   rw [if_pos h16] at hy'
   cases hx'; cases hy'
   exact .inr ⟨rfl, 2, rfl⟩
  ·cases hx'
 refine Run.range ps.length (fun i => ⟨tms [(3, .ptr 10 0), (11, .sl 2 (q1o ps)), (12, .int .i64 ps.length), (13, .int .i64 i)], mms [(10, .cells (q5d ((ps.take i).foldl q1v q7g)))]⟩) (Wk.refl _ _) (fun i hi => ?_) ?_
 ·have hq0 := TabLe.all qb4 (ps.take i)
  obtain ⟨p, hp⟩ : ∃ p, ps[i]? = some p := ⟨ps[i], by simp [hi]⟩
  rw [q2t q1v q7g ps hp]
  have hsum : ((ps.take i).map wt).sum + wt p ≤ (ps.map wt).sum := by
   have : ((ps.take (i + 1)).map wt).sum ≤ (ps.map wt).sum := by rw [List.map_take]; exact q9i _
   rw [List.take_add_one, hp] at this
   simpa using this
  generalize (ps.take i).foldl q1v q7g = u at hq0 ⊢
  generalize ((ps.take i).map wt).sum = m at hq0 hsum
  have hwt : wt p = p.vec.length + p.cloud.length := rfl
  have hv : p.vec.length ≤ 1000000000 := by omega
  have hc : p.cloud.length ≤ 1000000000 := by omega
  have e1 : ((i : Int) < (ps.length : Int)) = True := by simp only [eq_iff_iff, iff_true]; omega
  have e2 : (0 ≤ (i : Int)) = True := by simp
  have e3 : (q1o ps)[i]? = some (.agg [.sl 1 (q04 p.vec), .sl 3 (q0c p.cloud)]) := qff hp
  have e4 : (q04 p.vec).length = p.vec.length := q0e _
  have e5 : (q0c p.cloud).length = p.cloud.length := q1n _
  have e13 : IntKind.i64.wrap ((i : Int) + 1) = ((i + 1 : Nat) : Int) := by rw [q2w (by omega)]; omega
  unfold qa4
  (have hF := (aI (aI @e0 (aI @e1 @e2)) (aI @e3 (aI @e4 @e5))); refine q1a (k:=?_); clear hF)
  refine Run.wk (Wk.toL [(3, .ptr 10 0), (11, .sl 2 (q1o ps)), (12, .int .i64 ps.length), (13, .int .i64 i), (5, .ptr 5 0), (20, .int .i64 (min p.vec.length 16)), (21, .int .i64 0)] [(10, .cells (q5d u)), (5, .cells [.sl 1 (q04 p.vec), .sl 3 (q0c p.cloud)])] ⟨rfl, rfl, rfl, rfl, rfl, rfl, rfl, trivial⟩ ⟨rfl, rfl, trivial⟩ ⟨rfl, q0d ps, rfl, rfl, rfl, rfl, rfl, trivial⟩ ⟨q2z _ _, by simp [ABlk.no, AVal.noC, AVal.no, AVal.stb, q03, q05], trivial⟩) ?_
  refine zp1 (.sl 2 (q1o ps)) (q0d ps) _ _ p hv u (n0 := 0 + m) hq0 (by omega) ?_
  (have hF := (aI (aI @e0 (aI @e1 @e2)) (aI @e3 (aI @e4 @e5))); refine q1a (k:=?_); clear hF)
  refine Run.wk (Wk.toL [(3, .ptr 10 0), (11, .sl 2 (q1o ps)), (12, .int .i64 ps.length), (13, .int .i64 i), (43, .sl 3 (q0c p.cloud)), (44, .int .i64 p.cloud.length), (45, .int .i64 0)] [(10, .cells (q5d (q65 p.vec u)))] ⟨rfl, rfl, rfl, rfl, rfl, rfl, rfl, trivial⟩ ⟨rfl, trivial⟩ ⟨rfl, q0d ps, rfl, rfl, q05 _, rfl, rfl, trivial⟩ ⟨q2z _ _, trivial⟩) ?_
  refine zp0 (.sl 2 (q1o ps)) (q0d ps) _ _ p.cloud hc (q65 p.vec u) (n0 := 0 + m + min p.vec.length 16) (TabLe.range hq0 _) (by omega) ?_
  (have hF := (aI (aI @e0 (aI @e1 @e2)) (aI (aI @e3 @e4) (aI @e5 @e13))); refine q1a (k:=?_); clear hF)
  exact Fin.next (Wk.toL _ _ ⟨rfl, rfl, rfl, rfl, trivial⟩ ⟨rfl, trivial⟩ ⟨rfl, q0d ps, rfl, rfl, trivial⟩ ⟨q2z _ _, trivial⟩)
 ·have e1 : ((ps.length : Int) < (ps.length : Int)) = False := by simp
  have e3 : ps.take ps.length = ps := List.take_length
  rw [e3]
  refine Run.wk (Wk.freeze (k := 10) (cs := q5d (q0m ps)) rfl) ?_
  unfold qa4
  (have hF := (aI @e0 @e1); refine q1a (k:=?_); clear hF)
  have hf : (q5d (q0m ps)).map frz = q23 (q0m ps) := by
   unfold q5d q23
   rw [List.map_map]
   rfl
  refine Fin.done ⟨10, rfl, ?_, q1k _⟩
  rw [← hf]
  rfl
theorem encTs_fz (K : Nat → Bool) (M : Mem) (t : Tab) : (q23 t).map (fzc K M) = q23 t := by
 unfold q23
 rw [List.map_map]
 rfl
theorem zr8 (t : Tab) (i : Nat) (l : List Rn) : (q23 t).set i (.sl 2 (q07 l)) = q23 (t.set i l) := by simp [q23, List.map_set]
theorem zde (p q : Pst) (g : FuncId) (h : Nat → List Rn) {N : Nat} (hp : wt p ≤ 100000000) (hq : wt q ≤ 100000000) (hN : N ≤ 50000000) (hlen : ∀ r, r < 16 → (h r).length ≤ N)
 (hf : ∀ r, r < 16 → Ev (En Tryz.prog rfl).P g [.sl 2 (q07 ((q0m [p]).getD r [])), .sl 2 (q07 ((q0m [q]).getD r []))] (.ret (.sl 2 (q07 (h r))))) :
 Ev (En Tryz.prog rfl).P 162 [q0h p, q0h q, .fn g []] (.ret (q0h (q6s ((List.range 16).map h)))) := by
 refine Ev.of_body it_k162 (by simp) (Run.start ?_)
 unfold t_k162 q0h
 have c1 := new_k96 [p] (by simp) (by simp; omega)
 have c2 := qf9 [q] (by simp) (by simp; omega)
 have ht : TabLe (q0m [p]) (wt p) := by simpa using q1c [p]
 have hu : TabLe (q0m [q]) (wt q) := by simpa using q1c [q]
 (have hF := True.intro; refine q01 (k:=?_); clear hF)
 refine stNew [.sl 2 (q1o [p])] (he := c1) (k:=?_)
 (have hF := True.intro; refine q01 (k:=?_); clear hF)
 refine q00 [.sl 2 (q1o [q])] (he := c2) (k:=?_)
 clear c1 c2
 generalize q0m [p] = t at ht hf ⊢
 generalize q0m [q] = u at hu hf ⊢
 have e2 : (q23 u).length = 16 := by rw [q4v, hu.1]
 have e1 : (q23 t).length = 16 := by rw [q4v, ht.1]
 (have hF := (aI @e1 @e2); refine q01 (k:=?_); clear hF)
 refine Run.while (σ := Nat × Tab) (fun z => ⟨tms [(2, .fn g []), (6, .ptr 6 0), (7, .ptr 12 0), (8, .sptr (q23 u)), (16, .int .i64 (z.1 : Int))], mms [(6, .cells [.nil, .nil]), (12, .cells (q23 z.2))]⟩)
  (fun z => z.1 ≤ 16 ∧ z.2.length = 16 ∧ ∀ r, r < 16 → z.2.getD r [] = if r < z.1 then h r else t.getD r []) (fun z => 16 - z.1) (0, t) (have hW := @q1k; q0g) ⟨Nat.zero_le _, ht.1, fun r _ => by rw [if_neg (Nat.not_lt_zero r)]⟩ ?_
 rintro ⟨i, T⟩ ⟨hi, hT, hrow⟩
 dsimp only at hi hT hrow ⊢
 have e3 : (q23 T).length = 16 := by rw [q4v, hT]
 unfold qkb
 by_cases hlt : i < 16
 ·have hiT : i < T.length := by omega
  have hiu : i < u.length := by rw [hu.1]; exact hlt
  have hrT : T.getD i [] = t.getD i [] := by rw [hrow i hlt, if_neg (by omega)]
  have g1 := q62 hiT
  have g2 := q7a (q62 hiu)
  rw [hrT] at g1
  have c3 := hf i hlt
  have hs : List.take i (q23 T) ++ [AVal.sl 2 (q07 (h i))] ++ List.drop (i + 1) (q23 T) = q23 (T.set i (h i)) := by
   rw [← zr8, List.set_eq_take_append_cons_drop, if_pos (by omega), List.append_assoc]
   rfl
  have hrow2 : ∀ r, r < 16 → (T.set i (h i)).getD r [] = if r < i + 1 then h r else t.getD r [] := fun r hr => by
   rw [List.getD_eq_getElem?_getD, List.getElem?_set]
   by_cases e : i = r
   ·subst e
    rw [if_pos rfl, if_pos hiT, if_pos (by omega)]
    rfl
   ·rw [if_neg e, ← List.getD_eq_getElem?_getD, hrow r hr]
    by_cases hr2 : r < i
    ·rw [if_pos hr2, if_pos (by omega)]
    ·rw [if_neg hr2, if_neg (by omega)]
  (have hF := (aI (aI @e2 @e3) (aI @g1 @g2)); refine q01 (k:=?_); clear hF)
  refine q00 [.sl 2 (q07 (t.getD i [])), .sl 2 (q07 (u.getD i []))] (he := c3) (k:=?_)
  (have hF := (aI (aI @e2 @e3) (aI @g1 @g2)); refine q01 (k:=?_); clear hF)
  rw [hs]
  (refine Fin.nextW ((i + 1, T.set i (h i))) ?_ (have hW := @q1k; q0g); (try dsimp only))
  exact ⟨⟨by show i + 1 ≤ 16; omega, by show (T.set i (h i)).length = 16; rw [List.length_set]; exact hT, hrow2⟩, by show 16 - (i + 1) < 16 - i; omega⟩
 ·have hTh : T = (List.range 16).map h := by
   refine List.ext_getElem (by simp [hT]) fun j h1 h2 => ?_
   have := hrow j (by omega)
   rw [if_pos (by omega), List.getD_eq_getElem?_getD, List.getElem?_eq_getElem h1] at this
   simpa using this
  rw [← hTh]
  have hTl : TabLe T N := by
   refine ⟨hT, fun r => ?_⟩
   by_cases hr : r < 16
   ·rw [hrow r hr, if_pos (by omega)]; exact hlen r hr
   ·rw [List.getD_eq_getElem?_getD, List.getElem?_eq_none (by omega)]; exact Nat.zero_le _
  have c4 := zbj T hTl hN
  (have hF := (aI @e2 @e3); refine q01 (k:=?_); clear hF)
  refine qjk (fun j => j == 12) (l := [.sptr (q23 T)]) rfl ?hl (by simp [q0k, AVal.stb, q1k]) c4 rfl ?k
  case hl =>
   show [AVal.sptr (((q23 T).map (fzc (fun j => j == 12) _)).drop 0)] = _
   rw [encTs_fz]
   rfl
  unfold q0h
  (have hF := True.intro; refine q01 (k:=?_); clear hF)
  exact Fin.all rfl (by simp [q0k, AVal.stb, q03, q05, fzc, q55]) rfl
def q6h (p q : Pst) (r : Nat) : List Rn := q5v ((q0m [p]).getD r []) ((q0m [q]).getD r [])
def q3o (p q : Pst) : Pst := q6s ((List.range 16).map (q6h p q))
theorem q6f (p : Pst) (r : Nat) : ((q0m [p]).getD r []).length ≤ wt p := by
 have : TabLe (q0m [p]) (wt p) := by simpa using q1c [p]
 exact this.2 r
theorem ev_k140 (p q : Pst) (hp : wt p ≤ 20000000) (hq : wt q ≤ 20000000) : Ev (En Tryz.prog rfl).P 140 [q0h p, q0h q] (.ret (q0h (q3o p q))) := by
 have c := zde p q 139 (q6h p q) (N := 40000001) (by omega) (by omega) (by omega) (fun r hr => by
  have h1 := q8v ((q0m [p]).getD r []) ((q0m [q]).getD r [])
  have h4 := q6f p r
  have h5 := q6f q r
  unfold q6h
  omega) (fun r hr => zr4 _ _ (by have := q6f p r; omega) (by have := q6f q r; omega))
 refine Ev.of_body it_k140 (by simp) (Run.start ?_)
 unfold t_k140 q0h
 (have hF := True.intro; refine q01 (k:=?_); clear hF)
 refine q00 [q0h p, q0h q, .fn 139 []] (he := c) (k:=?_)
 unfold q3o q0h
 (have hF := True.intro; refine q01 (k:=?_); clear hF)
 exact Fin.all rfl (by simp [q0k, AVal.stb, q03, q05, fzc, q55]) rfl

theorem rows_in {h : Nat → List Rn} {r : Nat} (hr : r < 16) (n : Int) : inP (q6s ((List.range 16).map h)) r n ↔ mem1 (h r) n := by
 rw [qib _ hr]
 unfold inT
 have : ((List.range 16).map h).getD r [] = h r := by
  rw [List.getD_eq_getElem?_getD, List.getElem?_map, List.getElem?_range hr]
  rfl
 rw [this]
theorem zq2 (p : Pst) {r : Nat} (hr : r < 16) (n : Int) : mem1 ((q0m [p]).getD r []) n ↔ inP p r n := by
 show inT (q0m [p]) r n ↔ _
 rw [q50 hr]
 simp
theorem q8e (p q : Pst) {r : Nat} (hr : r < 16) (n : Int) : inP (q3o p q) r n ↔ inP p r n ∧ ¬ inP q r n := by
 unfold q3o
 rw [rows_in hr, ← zq2 p hr, ← zq2 q hr]
 unfold q6h
 constructor
 ·rintro ⟨h1, h2, h3⟩
  exact (q72 _ _ n).1 h3
 ·intro h
  exact ⟨h.1.1, h.1.2.1, (q72 _ _ n).2 h⟩
theorem zdw (p q : Pst) : CanP (q3o p q) := qt6 _ (by simp)
theorem qju (p q : Pst) : q0n p (q1e [p, q]) = true := q2h.2 fun r hr n h => by rw [q6j _ hr]; simp [h]
theorem qjt (p q : Pst) : q0n q (q1e [p, q]) = true := q2h.2 fun r hr n h => by rw [q6j _ hr]; simp [h]

def z2r : List SOp := [zO 3 (.box 168 (.tmp 0)),zO 4 (.box 168 (.tmp 1)),zO 6 (.alloc 168)]
instance : Live z2r := ⟨[0,1,2]⟩
def z2q : List SOp := [zO 7 (.alloc 168)]
instance : Live z2q := ⟨[2,3,4,6]⟩
def z2p : List SOp := [zO 8 (.assign (.const (.int .i64 0)))]
instance : Live z2p := ⟨[2,3,4,6,7]⟩
def z2o : List SOp := [zM 9 8,zO 10 (.binOp .lss 3 (.tmp 9) (.const (.int .i64 16)) 3)]
instance : Live z2o := ⟨[2,3,4,6,7,8]⟩
def z2n : List SOp := [zM 13 8,zM 14 8,zF 15 168 3 0,zI 16 166 15 14,zL 17 23 16,zM 18 8,zF 19 168 4 0,zI 20 166 19 18,zL 21 23 20,zM 22 2,zO 23 (.call ⟨.value (.func 166),#[.tmp 17,.tmp 21,.tmp 22],#[23,23,3]⟩),zF 24 168 7 0,zI 25 166 24 13,⟨none,.store 23 (.tmp 25) (.tmp 23),none⟩]
instance : Live z2n := ⟨[2,3,4,6,7,8]⟩
def z2m : List SOp := [zM 11 8,zO 12 (.binOp .add 3 (.tmp 11) (.const (.int .i64 1)) 3),zG 8 12]
instance : Live z2m := ⟨[2,3,4,6,7,8]⟩
def z2l : List SOp := [zL 26 168 7,⟨none,.store 168 (.tmp 6) (.tmp 26),none⟩]
instance : Live z2l := ⟨[6,7]⟩
def qkj : SC :=
 (.seq (.seq (.ops false z2o) (.cond (.tmp 10) .skip (.exit 0))) (.seq (.block 1 (.ops true z2n)) (.ops false z2m)))
def t_k148 : SC :=
 (.seq (.ops false z2r) (.seq (.ops false z2q) (.seq (.seq (.ops false z2p) (.block 0 (.loop qkj))) (.seq (.ops false z2l) .ret))))
theorem it_k148 : FnIs Tryz.prog 148 27 [.cell 6 168] t_k148 := ⟨Tryz.f148, _, Tryz.func148, rfl, rfl, rfl, rfl, by kernel_rfl⟩

def z7f : List SOp := [zO 1 (.box 26 (.tmp 0)),zO 2 (.alloc 26)]
instance : Live z7f := ⟨[0]⟩
def z7e : List SOp := [zL 3 26 1,zO 4 (.call ⟨.value (.func 127),#[.tmp 3],#[26]⟩),zO 5 (.call ⟨.value (.func 128),#[.tmp 4],#[168]⟩),⟨none,.store 26 (.tmp 2) (.tmp 5),none⟩]
instance : Live z7e := ⟨[1,2]⟩
def t_k117 : SC :=
 (.seq (.ops false z7f) (.seq (.ops false z7e) .ret))
theorem it_k117 : FnIs Tryz.prog 117 6 [.cell 2 26] t_k117 := ⟨Tryz.f117, _, Tryz.func117, rfl, rfl, rfl, rfl, by kernel_rfl⟩

def zh9 : List SOp := [zO 2 (.alloc 26)]
instance : Live zh9 := ⟨[0]⟩
def zh8 : List SOp := [zM 3 0,zO 4 (.call ⟨.value (.func 129),#[.tmp 3],#[116]⟩),zO 5 (.call ⟨.value (.func 128),#[.tmp 4],#[168]⟩),⟨none,.store 26 (.tmp 2) (.tmp 5),none⟩]
instance : Live zh8 := ⟨[0,2]⟩
def t_k79 : SC :=
 (.seq (.ops false zh9) (.seq (.ops false zh8) .ret))
theorem it_k79 : FnIs Tryz.prog 79 6 [.cell 2 26] t_k79 := ⟨Tryz.f79, _, Tryz.func79, rfl, rfl, rfl, rfl, by kernel_rfl⟩

def z6f : List SOp := [zO 2 (.box 26 (.tmp 0)),zO 3 (.box 26 (.tmp 1)),zO 4 (.alloc 26)]
instance : Live z6f := ⟨[0,1]⟩
def z6e : List SOp := [zL 5 26 2,zO 6 (.call ⟨.value (.func 127),#[.tmp 5],#[26]⟩),zL 7 26 3,zO 8 (.call ⟨.value (.func 127),#[.tmp 7],#[26]⟩),zO 9 (.call ⟨.value (.func 148),#[.tmp 6,.tmp 8,.const (.int .i64 2)],#[168,168,3]⟩),zO 10 (.call ⟨.value (.func 128),#[.tmp 9],#[168]⟩),⟨none,.store 26 (.tmp 4) (.tmp 10),none⟩]
instance : Live z6e := ⟨[2,3,4]⟩
def t_k120 : SC :=
 (.seq (.ops false z6f) (.seq (.ops true z6e) .ret))
theorem it_k120 : FnIs Tryz.prog 120 11 [.cell 4 26] t_k120 := ⟨Tryz.f120, _, Tryz.func120, rfl, rfl, rfl, rfl, by kernel_rfl⟩

def qfw (h : Nat → List Rn) : Tab := (List.range 16).map h
theorem qla (h : Nat → List Rn) {r : Nat} (hr : r < 16) : (qfw h).getD r [] = h r := by
 unfold qfw
 rw [List.getD_eq_getElem?_getD, List.getElem?_map, List.getElem?_range hr]
 rfl
theorem qe2 (h : Nat → List Rn) : (qfw h).length = 16 := by simp [qfw]
theorem ev_k148 (A B : List (List Int)) (hA : A.length = 16) (hB : B.length = 16) (h : Nat → List Rn) (rule : Int)
 (hrow : ∀ r, r < 16 → Ev (En Tryz.prog rfl).P 166 [.sl 1 (q04 (A.getD r [])), .sl 1 (q04 (B.getD r [])), .int .i64 rule] (.ret (.sl 1 (q04 (q0q (h r)))))) :
 Ev (En Tryz.prog rfl).P 148 [.agg (q0l A), .agg (q0l B), .int .i64 rule] (.ret (.agg (q0l ((qfw h).map q0q)))) := by
 refine Ev.of_body it_k148 (by simp) (Run.start ?_)
 unfold t_k148
 have a1 : (q0l A).length = 16 := by simp [q0l, hA]
 have b1 : (q0l B).length = 16 := by simp [q0l, hB]
 have a2 := q45 A
 have b2 := q45 B
 have a3 := q2g A
 have b3 := q2g B
 have hu := qe2 h
 have hget := fun r hr => @qla h r hr
 generalize qfw h = u at hu hget ⊢
 (have hF := (aI (aI @a1 @b1) (aI @a2 @b2)); refine q01 (k:=?_); clear hF)
 refine Run.while (σ := Nat) (fun r => ⟨tms [(2, .int .i64 rule), (3, .ptr 3 0), (4, .ptr 4 0), (6, .ptr 6 0), (7, .ptr 7 0), (8, .int .i64 (r : Int))], mms [(3, .cells (q0l A)), (4, .cells (q0l B)), (6, .cells (List.replicate 16 .nil)), (7, .cells (q2f u r))]⟩)
  (fun r => r ≤ 16) (fun r => 16 - r) 0 (have hW := (aI @a3 (aI @b3 @q7n)); q0g) (Nat.zero_le _) ?_
 intro r hr
 have g0 := qdz u hu hr
 unfold qkj
 by_cases hlt : r < 16
 ·have g1 := q77 (t := A) (r := r) (by omega)
  have g2 := q77 (t := B) (r := r) (by omega)
  have g5 := qdy u hu hlt
  rw [hget r hlt] at g5
  have hc := hrow r hlt
  have g6 : (q2f u r).take r ++ [AVal.sl 1 (q04 (q0q (h r)))] ++ (q2f u r).drop (r + 1) = q2f u (r + 1) := by rw [← g5, List.set_eq_take_append_cons_drop, if_pos (by omega), List.append_assoc]; rfl
  (have hF := (aI (aI @a1 @b1) (aI @g0 (aI @g1 @g2))); refine q01 (k:=?_); clear hF)
  refine q00 [.sl 1 (q04 (A.getD r [])), .sl 1 (q04 (B.getD r [])), .int .i64 rule] (he := hc) (k:=?_)
  (have hF := (aI (aI @a1 @b1) (aI @g0 (aI @g1 @g2))); refine q01 (k:=?_); clear hF)
  rw [g6]
  (refine Fin.nextW (r + 1) ?_ (have hW := (aI @a3 (aI @b3 @q7n)); q0g); (try dsimp only))
  omega
 ·have hre : r = 16 := by omega
  subst hre
  have q1 := qe0 u hu
  have q2 : (q0l (u.map q0q)).length = 16 := by simp [q0l, hu]
  have q3 := q45 (u.map q0q)
  rw [q1]
  have htk : (q0l (u.map q0q)).take 16 = q0l (u.map q0q) := List.take_of_length_le (by omega)
  have q4 : (q0l (u.map q0q)).all AVal.plain = true := by
   rw [List.all_eq_true]
   intro x hx
   obtain ⟨l, _, rfl⟩ := List.mem_map.1 hx
   rfl
  have q5 : (List.replicate 16 AVal.nil).drop 16 = [] := rfl
  (have hF := (aI (aI @q2 (aI @q3 @q4)) (aI @q5 (aI @htk @List.length_replicate.{0}))); refine q01 (k:=?_); clear hF)
  refine Fin.all (xs := [.agg (q0l (u.map q0q))]) ?_ (by simp [q0k, AVal.stb, q2g]) rfl
  simp [q5p, q9a, qb3, TE_0, TE_3, TE_16, TE_23, TE_24, TE_26, zsc, zsb, zsa, zc4, zs9, zs8, TD.isAgg, upd, tms, q2, htk, qfe]
theorem qj0 (p : Pst) (hw : wt p ≤ 800000000) : Ev (En Tryz.prog rfl).P 127 [q0h p] (.ret (.agg (q0l (q5w [p])))) :=
 qh0 p (q5w [p]) (q8f [p]) (qsp [p] (by simp) (by simpa using hw))
theorem qbv (K : Nat → Bool) (M : Mem) (t : List (List Int)) : (q0l t).map (fzc K M) = q0l t := by
 unfold q0l
 rw [List.map_map]
 rfl
theorem qj1 (p : Pst) (hw : wt p ≤ 40000000) : Ev (En Tryz.prog rfl).P 117 [q0h p] (.ret (q0h (q1g p))) := by
 have c1 := qj0 p (by omega)
 have c2 := qsq (q0m [p]) (n := wt p) (by simpa using q1c [p]) (by omega)
 refine Ev.of_body it_k117 (by simp) (Run.start ?_)
 unfold t_k117 q0h
 have hS := q2g
 have hL := qbv
 (have hF := True.intro; refine q01 (k:=?_); clear hF)
 refine q00 [q0h p] (he := c1) (k:=?_)
 (have hF := True.intro; refine q01 (k:=?_); clear hF)
 refine q00 [.agg (q0l (q5w [p]))] (he := c2) (k:=?_)
 unfold q1g q0h
 (have hF := True.intro; refine q01 (k:=?_); clear hF)
 exact Fin.all rfl (by simp [q0k, AVal.stb, q03, q05, fzc, q55]) rfl
theorem ev_k79 (ps : List Pst) (hl : ps.length ≤ 1000000000) (hw : (ps.map wt).sum ≤ 40000000) : Ev (En Tryz.prog rfl).P 79 [.sl 2 (q1o ps)] (.ret (q0h (q1e ps))) := by
 have c1 := qsp ps hl (by omega)
 have c2 := qsq (q0m ps) (n := (ps.map wt).sum) (q1c ps) (by omega)
 refine Ev.of_body it_k79 (by simp) (Run.start ?_)
 unfold t_k79
 have hS := q2g
 have hL := qbv
 (have hF := True.intro; refine q01 (k:=?_); clear hF)
 refine q00 [.sl 2 (q1o ps)] (he := c1) (k:=?_)
 (have hF := True.intro; refine q01 (k:=?_); clear hF)
 refine q00 [.agg (q0l (q5w ps))] (he := c2) (k:=?_)
 unfold q1e q0h
 (have hF := True.intro; refine q01 (k:=?_); clear hF)
 exact Fin.all rfl (by simp [q0k, AVal.stb, q03, q05, fzc, q55]) rfl
theorem qpv {q : Int → Prop} {t : List Int} (h : Turns q t) (m : Int) : odd (cnt t m) = true ↔ q m := by rw [zpd, h.mem]
theorem q8b (l : List Rn) : Turns (inR (q10 l)) (q0q l) := qa3 (q1d l)
theorem qg8 (l : List Rn) : (q0q l).length ≤ 2 * l.length := by
 have := q20 l
 unfold q0q
 rw [q8q]
 omega
theorem zb1 (p : Pst) {r : Nat} (hr : r < 16) : (q5w [p]).getD r [] = q0q ((q0m [p]).getD r []) := qq2 [p] hr
theorem zcq (p q : Pst) (r : Nat) (m : Int) : mem1 (q6h p q r) m ↔ mem1 ((q0m [p]).getD r []) m ∧ ¬ mem1 ((q0m [q]).getD r []) m := by
 unfold q6h
 constructor
 ·intro h
  exact (q72 _ _ m).1 h.2.2
 ·intro h
  exact ⟨h.1.1, h.1.2.1, (q72 _ _ m).2 h⟩
theorem zf3 (p q : Pst) (hp : wt p ≤ 20000000) (hq : wt q ≤ 20000000) (r : Nat) (hr : r < 16) :
 Ev (En Tryz.prog rfl).P 166 [.sl 1 (q04 ((q5w [p]).getD r [])), .sl 1 (q04 ((q5w [q]).getD r [])), .int .i64 2] (.ret (.sl 1 (q04 (q0q (q6h p q r))))) := by
 rw [zb1 p hr, zb1 q hr]
 have h1 := q6f p r
 have h2 := q6f q r
 refine ev_k166 (q8b _) (q8b _) (q8b _) (by have := qg8 ((q0m [p]).getD r []); omega) (by have := qg8 ((q0m [q]).getD r []); omega) 2 (fun x y => x && !y) (.inr ⟨rfl, rfl⟩) fun m => ?_
 rw [Bool.and_eq_true, Bool.not_eq_true', qpv (q8b _), q2i, q2i, zcq]
 have := qpv (q8b ((q0m [q]).getD r [])) m
 rw [q2i] at this
 rw [← this]
 cases odd (cnt (q0q ((q0m [q]).getD r [])) m) <;> simp
theorem rowsT_le (h : Nat → List Rn) {n : Nat} (hh : ∀ r, (h r).length ≤ n) : TabLe (qfw h) n := by
 refine ⟨qe2 h, fun r => ?_⟩
 by_cases hr : r < 16
 ·rw [qla h hr]; exact hh r
 ·rw [List.getD_eq_getElem?_getD, List.getElem?_eq_none (by rw [qe2]; omega)]; exact Nat.zero_le _
theorem zcr (p q : Pst) (r : Nat) : (q6h p q r).length ≤ wt p + wt q + 1 := by
 have h1 := q8v ((q0m [p]).getD r []) ((q0m [q]).getD r [])
 have h4 := q6f p r
 have h5 := q6f q r
 unfold q6h
 omega
theorem ev_k120 (p q : Pst) (hp : wt p ≤ 20000000) (hq : wt q ≤ 20000000) : Ev (En Tryz.prog rfl).P 120 [q0h p, q0h q] (.ret (q0h (q3o p q))) := by
 have c1 := qj0 p (by omega)
 have c2 := qj0 q (by omega)
 have c3 := ev_k148 (q5w [p]) (q5w [q]) (q8f [p]) (q8f [q]) (q6h p q) 2 (zf3 p q hp hq)
 have c4 := qsq (qfw (q6h p q)) (rowsT_le _ (zcr p q)) (by omega)
 have hm : q3o p q = q6s (qfw (q6h p q)) := rfl
 rw [hm]
 refine Ev.of_body it_k120 (by simp) (Run.start ?_)
 unfold t_k120 q0h
 have hS := q2g
 have hL := qbv
 (have hF := True.intro; refine q01 (k:=?_); clear hF)
 refine q00 [q0h p] (he := c1) (k:=?_)
 (have hF := True.intro; refine q01 (k:=?_); clear hF)
 refine q00 [q0h q] (he := c2) (k:=?_)
 (have hF := True.intro; refine q01 (k:=?_); clear hF)
 refine q00 [.agg (q0l (q5w [p])), .agg (q0l (q5w [q])), .int .i64 2] (he := c3) (k:=?_)
 (have hF := True.intro; refine q01 (k:=?_); clear hF)
 refine q00 [.agg (q0l ((qfw (q6h p q)).map q0q))] (he := c4) (k:=?_)
 unfold q0h
 (have hF := True.intro; refine q01 (k:=?_); clear hF)
 exact Fin.all rfl (by simp [q0k, AVal.stb, q03, q05, fzc, q55]) rfl

def z67 : List SOp := [zO 2 (.box 26 (.tmp 0)),zO 3 (.box 26 (.tmp 1)),zO 4 (.assign (.const (.int .i64 0)))]
instance : Live z67 := ⟨[0,1]⟩
def z65 : List SOp := [zL 10 26 2,zO 11 (.call ⟨.value (.func 64),#[.tmp 10],#[26]⟩),zL 12 26 3,zO 13 (.call ⟨.value (.func 64),#[.tmp 12],#[26]⟩),zO 5 (.alloc 26),zO 6 (.alloc 26),⟨none,.store 26 (.tmp 5) (.tmp 11),none⟩,⟨none,.store 26 (.tmp 6) (.tmp 13),none⟩]
instance : Live z65 := ⟨[2,3]⟩
def z64 : List SOp := [zO 14 (.move (.const (.int .i64 0)))]
instance : Live z64 := ⟨[5,6]⟩
def z63 : List SOp := [zO 15 (.binOp .lss 3 (.tmp 14) (.const (.int .i64 16)) 3)]
instance : Live z63 := ⟨[5,6,14]⟩
def z62 : List SOp := [zM 16 14,zG 7 16]
instance : Live z62 := ⟨[5,6,14]⟩
def z61 : List SOp := [zO 8 (.assign (.const (.int .i64 0))),zO 9 (.assign (.const (.int .i64 0)))]
instance : Live z61 := ⟨[5,6,7,14]⟩
def z60 : List SOp := [zM 17 7,zF 18 26 5 0,zL 19 23 18,zO 20 (.call ⟨.builtin .len,#[.tmp 19],#[23]⟩),zO 21 (.binOp .lss 3 (.tmp 17) (.tmp 20) 3)]
instance : Live z60 := ⟨[5,6,7,8,9,14]⟩
def z5z : List SOp := [zF 22 26 5 0,zL 23 23 22,zM 24 7,zI 25 23 23 24,zL 26 3 25,zG 8 26]
instance : Live z5z := ⟨[5,6,7,9,14]⟩
def z5y : List SOp := [zM 27 7,zF 28 26 6 0,zL 29 23 28,zO 30 (.call ⟨.builtin .len,#[.tmp 29],#[23]⟩),zO 31 (.binOp .lss 3 (.tmp 27) (.tmp 30) 3)]
instance : Live z5y := ⟨[5,6,7,8,9,14]⟩
def qom : List SOp := [zF 32 26 6 0,zL 33 23 32,zM 34 7,zI 35 23 33 34,zL 36 3 35,zG 9 36]
instance : Live qom := ⟨[5,6,7,8,14]⟩
def qol : List SOp := [zM 37 8,zM 38 9,zO 39 (.binOp .neq 3 (.tmp 37) (.tmp 38) 3)]
instance : Live qol := ⟨[5,6,8,9,14]⟩
def qok : List SOp := [zM 40 8,zM 41 9,zO 42 (.call ⟨.value (.func 149),#[.tmp 40,.tmp 41],#[3,3]⟩),zG 4 42]
instance : Live qok := ⟨[8,9]⟩
def qoj : List SOp := [zO 43 (.binOp .add 3 (.tmp 14) (.const (.int .i64 1)) 3),zM 14 43]
instance : Live qoj := ⟨[5,6,14]⟩
def qoi : List SOp := [zF 44 26 5 1,zL 45 24 44,zF 46 26 6 1,zL 47 24 46,zO 48 (.call ⟨.value (.func 150),#[.tmp 45,.tmp 47,.func 151],#[24,24,194]⟩),zG 4 48]
instance : Live qoi := ⟨[5,6]⟩
def qkv : SC :=
 (.seq (.ops false z63) (.seq (.cond (.tmp 15) .skip (.exit 0)) (.seq (.block 1 (.seq (.ops false z62) (.seq (.ops false z61) (.seq (.seq (.ops false z60) (.cond (.tmp 21) (.ops false z5z) .skip)) (.seq (.seq (.ops false z5y) (.cond (.tmp 31) (.ops false qom) .skip)) (.seq (.ops false qol) (.cond (.tmp 39) (.seq (.ops false qok) .ret) .skip))))))) (.ops false qoj))))
def t_k123 : SC :=
 (.seq (.ops false z67) (.seq (.ops true z65) (.seq (.seq (.ops false z64) (.block 0 (.loop qkv))) (.seq (.ops false qoi) .ret))))
theorem it_k123 : FnIs Tryz.prog 123 49 [.tmp 4] t_k123 := ⟨Tryz.f123, _, Tryz.func123, rfl, rfl, rfl, rfl, by kernel_rfl⟩

theorem ev_k123 (p q : Pst) (hp : wt p ≤ 50000000) (hq : wt q ≤ 50000000) : Ev (En Tryz.prog rfl).P 123 [q0h p, q0h q] (.ret (.int .i64 (cmpP p q))) := by
 refine Ev.of_body it_k123 (by simp) (Run.start ?_)
 unfold t_k123 q0h
 have c1 := qgw p (by omega)
 have c2 := qgw q (by omega)
 have h1 := q6g p
 have h2 := q6g q
 have hr : cmpP p q = q67 (qgq (q1g p)) (qgq (q1g q)) := rfl
 rw [hr]
 (have hF := True.intro; refine q01 (k:=?_); clear hF)
 refine q00 [q0h p] (he := c1) (k:=?_)
 (have hF := True.intro; refine q01 (k:=?_); clear hF)
 refine q00 [q0h q] (he := c2) (k:=?_)
 clear c1 c2 hr
 generalize q1g p = x at h1 ⊢
 generalize q1g q = y at h2 ⊢
 unfold q0h
 have hw1 : x.vec.length + x.cloud.length = wt x := rfl
 have hw2 : y.vec.length + y.cloud.length = wt y := rfl
 have e1 := q0e x.vec
 have e2 := q0e y.vec
 (have hF := (aI @e1 @e2); refine q01 (k:=?_); clear hF)
 refine Run.while (σ := Nat) (fun i => ⟨tms [(5, .ptr 5 0), (6, .ptr 6 0), (14, .int .i64 (i : Int))], mms [(5, .cells [.sl 1 (q04 x.vec), .sl 3 (q0c x.cloud)]), (6, .cells [.sl 1 (q04 y.vec), .sl 3 (q0c y.cloud)])]⟩) (fun i => i ≤ 16 ∧ ∀ j, j < i → vv x j = vv y j) (fun i => 16 - i) 0 (have hW := (aI @q03 @q05); q0g) ⟨Nat.zero_le _, fun j hj => absurd hj (Nat.not_lt_zero _)⟩ ?_
 rintro i ⟨hi, hp⟩
 unfold qkv
 by_cases hlt : i < 16
 ·have hne : vv x i ≠ vv y i → q67 (qgq x) (qgq y) = q8a (vv x i) (vv y i) := fun hn =>
   qsb (qjw x) (qjw y) i _ _ _ _ (q4o x hlt) (q4o y hlt) (fun j hj => by rw [q4o x (by omega), q4o y (by omega), hp j hj]) hn
  have heq : vv x i = vv y i → ∀ j, j < i + 1 → vv x j = vv y j := fun he j hj => by
   by_cases e : j = i
   ·rw [e]; exact he
   ·exact hp j (by omega)
  have k1 := qiz (vv x i) (vv y i)
  unfold vv at hne heq k1
  by_cases hx : i < x.vec.length
  ·have g1 : (q04 x.vec)[i]? = some (.int .i64 (q1y x.vec i)) := q0r (by unfold q1y; rw [List.getD_eq_getElem?_getD, List.getElem?_eq_getElem hx]; rfl)
   simp only [if_pos hx] at hne heq k1
   by_cases hy : i < y.vec.length
   ·have g2 : (q04 y.vec)[i]? = some (.int .i64 (q1y y.vec i)) := q0r (by unfold q1y; rw [List.getD_eq_getElem?_getD, List.getElem?_eq_getElem hy]; rfl)
    simp only [if_pos hy] at hne heq k1
    (focus (have hF := (aI (aI @e1 @e2) (aI @g1 @g2)); (repeat' (first | refine go1 (k:=?_) | with_reducible refine Ny.of ?_ ?_ | (refine Hyp.of ?_; intro hc; (try simp only [hc]); (try simp only [Bh] at hc)))); all_goals clear hF))
    ·rw [hne hc]
     refine q00 [.int .i64 (q1y x.vec i), .int .i64 (q1y y.vec i)] (he := k1) (k:=?_)
     (have hF := True.intro; refine q01 (k:=?_); clear hF)
     exact Fin.tmp' rfl rfl
    ·have h := heq hc
     (refine Fin.nextW (i + 1) ?_ (have hW := (aI @q03 @q05); q0g); (try dsimp only))
     exact ⟨⟨hlt, h⟩, by omega⟩
   ·simp only [if_neg hy] at hne heq k1
    (focus (have hF := (aI @e1 (aI @e2 @g1)); (repeat' (first | refine go1 (k:=?_) | with_reducible refine Ny.of ?_ ?_ | (refine Hyp.of ?_; intro hc; (try simp only [hc]); (try simp only [Bh] at hc)))); all_goals clear hF))
    ·rw [hne hc]
     refine q00 [.int .i64 (q1y x.vec i), .int .i64 0] (he := k1) (k:=?_)
     (have hF := True.intro; refine q01 (k:=?_); clear hF)
     exact Fin.tmp' rfl rfl
    ·have h := heq hc
     (refine Fin.nextW (i + 1) ?_ (have hW := (aI @q03 @q05); q0g); (try dsimp only))
     exact ⟨⟨hlt, h⟩, by omega⟩
  ·simp only [if_neg hx] at hne heq k1
   by_cases hy : i < y.vec.length
   ·have g2 : (q04 y.vec)[i]? = some (.int .i64 (q1y y.vec i)) := q0r (by unfold q1y; rw [List.getD_eq_getElem?_getD, List.getElem?_eq_getElem hy]; rfl)
    simp only [if_pos hy] at hne heq k1
    (focus (have hF := (aI @e1 (aI @e2 @g2)); (repeat' (first | refine go1 (k:=?_) | with_reducible refine Ny.of ?_ ?_ | (refine Hyp.of ?_; intro hc; (try simp only [hc]); (try simp only [Bh] at hc)))); all_goals clear hF))
    ·rw [hne hc]
     refine q00 [.int .i64 0, .int .i64 (q1y y.vec i)] (he := k1) (k:=?_)
     (have hF := True.intro; refine q01 (k:=?_); clear hF)
     exact Fin.tmp' rfl rfl
    ·have h := heq hc
     (refine Fin.nextW (i + 1) ?_ (have hW := (aI @q03 @q05); q0g); (try dsimp only))
     exact ⟨⟨hlt, h⟩, by omega⟩
   ·simp only [if_neg hy] at hne heq k1
    (have hF := (aI @e1 @e2); refine q01 (k:=?_); clear hF)
    have h := heq trivial
    (refine Fin.nextW (i + 1) ?_ (have hW := (aI @q03 @q05); q0g); (try dsimp only))
    exact ⟨⟨hlt, h⟩, by omega⟩
 ·have hv : qjw x = qjw y := by
   unfold qjw
   exact List.map_congr_left fun j hj => hp j (by rw [List.mem_range] at hj; omega)
  have k2 := q98 x.cloud y.cloud (by omega) (by omega)
  have hk : q67 (qgq x) (qgq y) = qjo x.cloud y.cloud := by
   unfold qgq
   rw [hv, qin, qfi]
  rw [hk]
  (have hF := (aI @e1 @e2); refine q01 (k:=?_); clear hF)
  refine q00 [.sl 3 (q0c x.cloud), .sl 3 (q0c y.cloud), .fn 151 []] (he := k2) (k:=?_)
  (have hF := (aI @e1 @e2); refine q01 (k:=?_); clear hF)
  exact Fin.tmp' rfl rfl

theorem zrx {q : Int → Prop} (h : ∀ n, ¬ q n) : q9w q = 0 := by
 classical
 rw [q6n]
 exact List.countP_eq_zero.2 fun i _ => by simp [h]
theorem card_one {k : Int} (h1 : 1 ≤ k) (h2 : k ≤ 1000000000) : q9w (fun n => n = k) = 1 := by
 have h := zbs h1 (Int.le_refl k) h2
 have : q9w (fun n => k ≤ n ∧ n ≤ k) = q9w (fun n => n = k) := q7d fun n _ _ => by omega
 omega
theorem qhd {q : Nat → Int → Prop} (h : ∀ r n, ¬ q r n) : ∀ m, qcq q m = 0
 | 0 => rfl
 | m + 1 => by
  show qcq q m + q9w (q m) = 0
  rw [qhd h m, zrx (h m)]

theorem qc0 {a b : Bool} (h : a = true ↔ b = true) : a = b := by cases a <;> cases b <;> simp_all
theorem card_pos {q : Int → Prop} {k : Int} (h1 : 1 ≤ k) (h2 : k ≤ 1000000000) (h : q k) : 1 ≤ q9w q := by
 have e := zry q (fun n => n = k)
 have : q9w (fun n => q n ∧ n = k) = q9w (fun n => n = k) := q7d fun n _ _ => ⟨fun x => x.2, fun x => ⟨x ▸ h, x⟩⟩
 rw [this, card_one h1 h2] at e
 omega
theorem qfl {q : Nat → Int → Prop} {r : Nat} {k : Int} (h1 : 1 ≤ k) (h2 : k ≤ 1000000000) (h : q r k) : ∀ {m : Nat}, r < m → 1 ≤ qcq q m
 | 0, hm => by omega
 | m + 1, hm => by
  show 1 ≤ qcq q m + q9w (q m)
  by_cases e : r = m
  ·subst e
   have := card_pos h1 h2 h
   omega
  ·have := qfl h1 h2 h (m := m) (by omega)
   omega

theorem zet (f a b : Nat → Nat) (c : Nat) (h : ∀ r, f r ≤ a r + b r + c) : ∀ m, ((List.range m).map f).sum ≤ ((List.range m).map a).sum + ((List.range m).map b).sum + m * c
 | 0 => by simp
 | m + 1 => by
  have ih := zet f a b c h m
  have := h m
  rw [List.range_succ, List.map_append, List.map_append, List.map_append, List.sum_append, List.sum_append, List.sum_append, Nat.succ_mul]
  simp only [List.map_cons, List.map_nil, List.sum_cons, List.sum_nil]
  omega
theorem rows_wt (p q : Pst) (h : Nat → List Rn) (c : Nat) (hh : ∀ r, (h r).length ≤ ((q0m [p]).getD r []).length + ((q0m [q]).getD r []).length + c) : wt (q6s ((List.range 16).map h)) ≤ 16 + wt p + wt q + 16 * c := by
 have h1 := qek (t := (List.range 16).map h) (by simp)
 have h2 := zet (fun r => (h r).length) (fun r => ((q0m [p]).getD r []).length) (fun r => ((q0m [q]).getD r []).length) c hh 16
 have h3 := qbc (q0m [p])
 have h4 := qbc (q0m [q])
 have h5 := qdn [p]
 have h6 := qdn [q]
 rw [(q1c [p]).1] at h3
 rw [(q1c [q]).1] at h4
 simp only [List.map_cons, List.map_nil, List.sum_cons, List.sum_nil] at h5 h6
 have h7 : tot ((List.range 16).map h) = ((List.range 16).map fun r => (h r).length).sum := by
  unfold tot
  rw [List.map_map]
  rfl
 omega
theorem qep (p q : Pst) : wt (q3o p q) ≤ 32 + wt p + wt q := by
 have := rows_wt p q (q6h p q) 1 fun r => q8v _ _
 unfold q3o
 omega

def z5x : List SOp := [zO 1 (.box 26 (.tmp 0)),zO 2 (.assign (.const (.int .i64 0)))]
instance : Live z5x := ⟨[0]⟩
def z5w : List SOp := [zL 7 26 1,zO 8 (.call ⟨.value (.func 127),#[.tmp 7],#[26]⟩),zO 3 (.alloc 168),⟨none,.store 168 (.tmp 3) (.tmp 8),none⟩]
instance : Live z5w := ⟨[1]⟩
def z5v : List SOp := [zO 4 (.assign (.const (.int .i64 0)))]
instance : Live z5v := ⟨[3]⟩
def z5u : List SOp := [zO 5 (.assign (.const (.int .i64 0)))]
instance : Live z5u := ⟨[3,4]⟩
def z5t : List SOp := [zM 9 5,zO 10 (.binOp .lss 3 (.tmp 9) (.const (.int .i64 16)) 3)]
instance : Live z5t := ⟨[3,4,5]⟩
def z5s : List SOp := [zO 6 (.assign (.const (.int .i64 0)))]
instance : Live z5s := ⟨[3,4,5]⟩
def z5r : List SOp := [zM 13 6,zO 14 (.binOp .add 3 (.tmp 13) (.const (.int .i64 1)) 3),zM 15 5,zF 16 168 3 0,zI 17 166 16 15,zL 18 23 17,zO 19 (.call ⟨.builtin .len,#[.tmp 18],#[23]⟩),zO 20 (.binOp .lss 3 (.tmp 14) (.tmp 19) 3)]
instance : Live z5r := ⟨[3,4,5,6]⟩
def z5q : List SOp := [zM 23 4,zM 24 5,zF 25 168 3 0,zI 26 166 25 24,zL 27 23 26,zM 28 6,zO 29 (.binOp .add 3 (.tmp 28) (.const (.int .i64 1)) 3),zI 30 23 27 29,zL 31 3 30,zM 32 5,zF 33 168 3 0,zI 34 166 33 32,zL 35 23 34,zM 36 6,zI 37 23 35 36,zL 38 3 37,zO 39 (.binOp .sub 3 (.tmp 31) (.tmp 38) 3),zO 40 (.binOp .add 3 (.tmp 23) (.tmp 39) 3),zG 4 40]
instance : Live z5q := ⟨[3,4,5,6]⟩
def z5p : List SOp := [zM 21 6,zO 22 (.binOp .add 3 (.tmp 21) (.const (.int .i64 2)) 3),zG 6 22]
instance : Live z5p := ⟨[3,4,5,6]⟩
def qoh : List SOp := [zM 11 5,zO 12 (.binOp .add 3 (.tmp 11) (.const (.int .i64 1)) 3),zG 5 12]
instance : Live qoh := ⟨[3,4,5]⟩
def qog : List SOp := [zM 41 4,zG 2 41]
instance : Live qog := ⟨[4]⟩
def qkt : SC :=
 (.seq (.seq (.ops false z5r) (.cond (.tmp 20) .skip (.exit 2))) (.seq (.block 3 (.ops true z5q)) (.ops false z5p)))
def qku : SC :=
 (.seq (.seq (.ops false z5t) (.cond (.tmp 10) .skip (.exit 0))) (.seq (.block 1 (.seq (.ops false z5s) (.block 2 (.loop qkt)))) (.ops false qoh)))
def t_k126 : SC :=
 (.seq (.ops false z5x) (.seq (.ops false z5w) (.seq (.ops false z5v) (.seq (.seq (.ops false z5u) (.block 0 (.loop qku))) (.seq (.ops false qog) .ret)))))
theorem it_k126 : FnIs Tryz.prog 126 42 [.tmp 2] t_k126 := ⟨Tryz.f126, _, Tryz.func126, rfl, rfl, rfl, rfl, by kernel_rfl⟩

def zhs : List SOp := [zO 1 (.box 26 (.tmp 0)),zO 2 (.assign (.const (.bool false)))]
instance : Live zhs := ⟨[0]⟩
def zhr : List SOp := [zL 3 26 1,zO 4 (.call ⟨.value (.func 126),#[.tmp 3],#[26]⟩),zO 5 (.binOp .eql 3 (.tmp 4) (.const (.int .i64 0)) 3),zG 2 5]
instance : Live zhr := ⟨[1]⟩
def t_k76 : SC :=
 (.seq (.ops false zhs) (.seq (.ops false zhr) .ret))
theorem it_k76 : FnIs Tryz.prog 76 6 [.tmp 2] t_k76 := ⟨Tryz.f76, _, Tryz.func76, rfl, rfl, rfl, rfl, by kernel_rfl⟩

def zi6 : List SOp := [zO 2 (.box 26 (.tmp 0)),zO 3 (.box 26 (.tmp 1)),zO 4 (.assign (.const (.bool false)))]
instance : Live zi6 := ⟨[0,1]⟩
def zi5 : List SOp := [zL 5 26 2,zL 6 26 3,zO 7 (.call ⟨.value (.func 120),#[.tmp 5,.tmp 6],#[26,26]⟩),zO 8 (.call ⟨.value (.func 76),#[.tmp 7],#[26]⟩),zG 4 8]
instance : Live zi5 := ⟨[2,3]⟩
def t_k70 : SC :=
 (.seq (.ops false zi6) (.seq (.ops false zi5) .ret))
theorem it_k70 : FnIs Tryz.prog 70 9 [.tmp 4] t_k70 := ⟨Tryz.f70, _, Tryz.func70, rfl, rfl, rfl, rfl, by kernel_rfl⟩

def z2x : List SOp := [zO 4 (.assign (.const (.int .i64 0)))]
instance : Live z2x := ⟨[0,1]⟩
def z2w : List SOp := [zM 5 0,zM 6 1,zO 7 (.binOp .lss 3 (.tmp 5) (.tmp 6) 3)]
instance : Live z2w := ⟨[0,1]⟩
def z2v : List SOp := [zO 4 (.assign (.const (.int .i64 (-1))))]
instance : Live z2v := ⟨[]⟩
def z2u : List SOp := [zM 8 0,zM 9 1,zO 10 (.binOp .gtr 3 (.tmp 8) (.tmp 9) 3)]
instance : Live z2u := ⟨[0,1]⟩
def z2t : List SOp := [zO 4 (.assign (.const (.int .i64 1)))]
instance : Live z2t := ⟨[]⟩
def z2s : List SOp := [zO 4 (.assign (.const (.int .i64 0)))]
instance : Live z2s := ⟨[]⟩
def t_k147 : SC :=
 (.seq (.ops false z2x) (.seq (.seq (.ops false z2w) (.cond (.tmp 7) (.seq (.ops false z2v) .ret) .skip)) (.seq (.seq (.ops false z2u) (.cond (.tmp 10) (.seq (.ops false z2t) .ret) .skip)) (.seq (.ops false z2s) .ret))))
theorem it_k147 : FnIs Tryz.prog 147 11 [.tmp 4] t_k147 := ⟨Tryz.f147, _, Tryz.func147, rfl, rfl, rfl, rfl, by kernel_rfl⟩

def z7b : List SOp := [zO 2 (.box 26 (.tmp 0)),zO 3 (.box 26 (.tmp 1)),zO 4 (.assign (.const (.int .i64 0)))]
instance : Live z7b := ⟨[0,1]⟩
def z7a : List SOp := [zL 11 26 2,zO 12 (.call ⟨.value (.func 117),#[.tmp 11],#[26]⟩),⟨none,.store 26 (.tmp 2) (.tmp 12),none⟩]
instance : Live z7a := ⟨[2,3]⟩
def z79 : List SOp := [zL 13 26 3,zO 14 (.call ⟨.value (.func 117),#[.tmp 13],#[26]⟩),⟨none,.store 26 (.tmp 3) (.tmp 14),none⟩]
instance : Live z79 := ⟨[2,3]⟩
def z78 : List SOp := [zO 5 (.assign (.const (.int .i64 0)))]
instance : Live z78 := ⟨[2,3]⟩
def z75 : List SOp := [zM 15 5,zO 16 (.binOp .lss 3 (.tmp 15) (.const (.int .i64 16)) 3)]
instance : Live z75 := ⟨[2,3,5]⟩
def z74 : List SOp := [zO 6 (.assign (.const (.int .i64 0))),zO 7 (.assign (.const (.int .i64 0)))]
instance : Live z74 := ⟨[2,3,5]⟩
def z73 : List SOp := [zM 19 5,zF 20 26 2 0,zL 21 23 20,zO 22 (.call ⟨.builtin .len,#[.tmp 21],#[23]⟩),zO 23 (.binOp .lss 3 (.tmp 19) (.tmp 22) 3)]
instance : Live z73 := ⟨[2,3,5,6,7]⟩
def z72 : List SOp := [zF 24 26 2 0,zL 25 23 24,zM 26 5,zI 27 23 25 26,zL 28 3 27,zG 6 28]
instance : Live z72 := ⟨[2,3,5,7]⟩
def z71 : List SOp := [zM 29 5,zF 30 26 3 0,zL 31 23 30,zO 32 (.call ⟨.builtin .len,#[.tmp 31],#[23]⟩),zO 33 (.binOp .lss 3 (.tmp 29) (.tmp 32) 3)]
instance : Live z71 := ⟨[2,3,5,6,7]⟩
def qp0 : List SOp := [zF 34 26 3 0,zL 35 23 34,zM 36 5,zI 37 23 35 36,zL 38 3 37,zG 7 38]
instance : Live qp0 := ⟨[2,3,5,6]⟩
def qoz : List SOp := [zM 39 6,zM 40 7,zO 41 (.binOp .neq 3 (.tmp 39) (.tmp 40) 3)]
instance : Live qoz := ⟨[2,3,5,6,7]⟩
def qoy : List SOp := [zM 42 6,zM 43 7,zO 44 (.call ⟨.value (.func 147),#[.tmp 42,.tmp 43],#[3,3]⟩),zG 4 44]
instance : Live qoy := ⟨[6,7]⟩
def qox : List SOp := [zM 17 5,zO 18 (.binOp .add 3 (.tmp 17) (.const (.int .i64 1)) 3),zG 5 18]
instance : Live qox := ⟨[2,3,5]⟩
def qow : List SOp := [zO 8 (.assign (.const (.int .i64 0)))]
instance : Live qow := ⟨[2,3]⟩
def qov : List SOp := [zM 45 8,zF 46 26 2 1,zL 47 24 46,zO 48 (.call ⟨.builtin .len,#[.tmp 47],#[24]⟩),zO 49 (.binOp .lss 3 (.tmp 45) (.tmp 48) 3),zM 50 49,⟨some 51,.move (.tmp 8),some ((some 50),true)⟩,⟨some 52,.fieldAddr 26 (.tmp 3) 1,some ((some 50),true)⟩,⟨some 53,.load 24 (.tmp 52),some ((some 50),true)⟩,⟨some 54,.call ⟨.builtin .len,#[.tmp 53],#[24]⟩,some ((some 50),true)⟩,⟨some 55,.binOp .lss 3 (.tmp 51) (.tmp 54) 3,some ((some 50),true)⟩,zO 56 (.pick (.tmp 50) (.tmp 55) (.const (.bool false)))]
instance : Live qov := ⟨[2,3,8]⟩
def qeg : List SOp := [zF 59 26 2 1,zL 60 24 59,zM 61 8,zI 62 24 60 61,zL 63 127 62,zF 64 26 3 1,zL 65 24 64,zM 66 8,zI 67 24 65 66,zL 68 127 67,zO 9 (.alloc 127),zO 10 (.alloc 127),⟨none,.store 127 (.tmp 9) (.tmp 63),none⟩,⟨none,.store 127 (.tmp 10) (.tmp 68),none⟩]
instance : Live qeg := ⟨[2,3,8]⟩
instance : Rd qeg := ⟨fun j => j == 2 || j == 3⟩
def qou : List SOp := [zF 69 127 9 0,zL 70 3 69,zF 71 127 10 0,zL 72 3 71,zO 73 (.binOp .neq 3 (.tmp 70) (.tmp 72) 3)]
instance : Live qou := ⟨[2,3,8,9,10]⟩
def qot : List SOp := [zF 74 127 9 0,zL 75 3 74,zF 76 127 10 0,zL 77 3 76,zO 78 (.call ⟨.value (.func 147),#[.tmp 75,.tmp 77],#[3,3]⟩),zG 4 78]
instance : Live qot := ⟨[9,10]⟩
def qos : List SOp := [zF 79 127 9 1,zL 80 3 79,zF 81 127 10 1,zL 82 3 81,zO 83 (.binOp .neq 3 (.tmp 80) (.tmp 82) 3)]
instance : Live qos := ⟨[2,3,8,9,10]⟩
def qor : List SOp := [zF 84 127 9 1,zL 85 3 84,zF 86 127 10 1,zL 87 3 86,zO 88 (.call ⟨.value (.func 147),#[.tmp 85,.tmp 87],#[3,3]⟩),zG 4 88]
instance : Live qor := ⟨[9,10]⟩
def qoq : List SOp := [zF 89 127 9 2,zL 90 3 89,zF 91 127 10 2,zL 92 3 91,zO 93 (.binOp .neq 3 (.tmp 90) (.tmp 92) 3)]
instance : Live qoq := ⟨[2,3,8,9,10]⟩
def qop : List SOp := [zF 94 127 9 2,zL 95 3 94,zF 96 127 10 2,zL 97 3 96,zO 98 (.call ⟨.value (.func 147),#[.tmp 95,.tmp 97],#[3,3]⟩),zG 4 98]
instance : Live qop := ⟨[9,10]⟩
def qoo : List SOp := [zM 57 8,zO 58 (.binOp .add 3 (.tmp 57) (.const (.int .i64 1)) 3),zG 8 58]
instance : Live qoo := ⟨[2,3,8]⟩
def qon : List SOp := [zF 99 26 2 1,zL 100 24 99,zO 101 (.call ⟨.builtin .len,#[.tmp 100],#[24]⟩),zF 102 26 3 1,zL 103 24 102,zO 104 (.call ⟨.builtin .len,#[.tmp 103],#[24]⟩),zO 105 (.call ⟨.value (.func 147),#[.tmp 101,.tmp 104],#[3,3]⟩),zG 4 105]
instance : Live qon := ⟨[2,3]⟩
def qky : SC :=
 (.seq (.seq (.ops false z75) (.cond (.tmp 16) .skip (.exit 0))) (.seq (.block 1 (.seq (.ops false z74) (.seq (.seq (.ops false z73) (.cond (.tmp 23) (.ops false z72) .skip)) (.seq (.seq (.ops false z71) (.cond (.tmp 33) (.ops false qp0) .skip)) (.seq (.ops false qoz) (.cond (.tmp 41) (.seq (.ops false qoy) .ret) .skip)))))) (.ops false qox)))
def qkx : SC :=
 (.seq (.seq (.ops false qov) (.cond (.tmp 56) .skip (.exit 2))) (.seq (.block 3 (.seq (.opsW [] qeg) (.seq (.seq (.ops false qou) (.cond (.tmp 73) (.seq (.ops false qot) .ret) .skip)) (.seq (.seq (.ops false qos) (.cond (.tmp 83) (.seq (.ops false qor) .ret) .skip)) (.seq (.ops false qoq) (.cond (.tmp 93) (.seq (.ops false qop) .ret) .skip)))))) (.ops false qoo)))
def t_k119 : SC :=
 (.seq (.ops false z7b) (.seq (.ops false z7a) (.seq (.ops false z79) (.seq (.seq (.ops false z78) (.block 0 (.loop qky))) (.seq (.seq (.ops false qow) (.block 2 (.loop qkx))) (.seq (.ops false qon) .ret))))))
theorem it_k119 : FnIs Tryz.prog 119 106 [.tmp 4] t_k119 := ⟨Tryz.f119, _, Tryz.func119, rfl, rfl, rfl, rfl, by kernel_rfl⟩


theorem ev_k126 (p : Pst) (hw : wt p ≤ 50000000) : Ev (En Tryz.prog rfl).P 126 [q0h p] (.ret (.int .i64 (q2x p))) := by
 have c1 := qj0 p (by omega)
 refine Ev.of_body it_k126 (by simp) (Run.start ?_)
 unfold t_k126 q0h
 have ht : TabLe (q0m [p]) (wt p) := by simpa using q1c [p]
 have hS := q2g
 have hm : q5w [p] = (q0m [p]).map q0q := rfl
 have hp : q2x p = q2e (q0m [p]) 16 := rfl
 rw [hm] at c1
 rw [hp]
 have h16 : (q0l ((q0m [p]).map q0q)).length = 16 := by simp [q0l, ht.1]
 have hone := q45 ((q0m [p]).map q0q)
 have hst := q2g ((q0m [p]).map q0q)
 (have hF := True.intro; refine q01 (k:=?_); clear hF)
 refine q00 [q0h p] (he := c1) (k:=?_)
 clear c1 hm hp
 generalize q0m [p] = t at ht h16 hone hst ⊢
 (have hF := (aI @h16 @hone); refine q01 (k:=?_); clear hF)
 refine Run.while (σ := Nat) (fun r => ⟨tms [(3, .ptr 3 0), (4, .int .i64 (q2e t r)), (5, .int .i64 (r : Int))], mms [(3, .cells (q0l (t.map q0q)))]⟩)
  (fun r => r ≤ 16) (fun r => 16 - r) 0 (have hW := @hst; q0g) (Nat.zero_le _) ?_
 intro r hr
 unfold qku
 by_cases hlt : r < 16
 ·have hrt : r < t.length := by rw [ht.1]; exact hlt
  have hq := ht.2 r
  have g1 : (q0l (t.map q0q))[r]? = some (.sl 1 (q04 (q3m (q10 (t.getD r []))))) := by
   rw [q77 (by rw [List.length_map]; exact hrt)]
   simp [List.getD_eq_getElem?_getD, hrt, q0q]
  have hml := q20 (t.getD r [])
  have hcan := q1d (t.getD r [])
  have hb := q7m ht r
  have hr16 : (r : Int) * (1000000000 * (wt p : Int)) ≤ 16 * (1000000000 * (wt p : Int)) := Int.mul_le_mul_of_nonneg_right (by omega) (by omega)
  have hnx := q6d t r
  unfold qfv at hnx
  generalize q10 (t.getD r []) = m at g1 hml hcan hnx
  have g2 : (q04 (q3m m)).length = 2 * m.length := by rw [q0e, q8q]
  (have hF := (aI @h16 @hone); refine q01 (k:=?_); clear hF)
  refine Run.while (σ := Nat) (fun c => ⟨tms [(3, .ptr 3 0), (4, .int .i64 ((m.take c).foldl q1p (q2e t r))), (5, .int .i64 (r : Int)), (6, .int .i64 ((2 * c : Nat) : Int))], mms [(3, .cells (q0l (t.map q0q)))]⟩)
   (fun c => c ≤ m.length) (fun c => m.length - c) 0 (have hW := @hst; q0g) (Nat.zero_le _) ?_
  intro c hc
  unfold qkt
  by_cases hcl : c < m.length
  ·obtain ⟨x, hx⟩ : ∃ x, m[c]? = some x := ⟨m[c], by simp [hcl]⟩
   have ⟨k1, k2⟩ := qtj hx
   have k1' : (q04 (q3m m))[2 * c]? = some (.int .i64 x.1) := q0r k1
   have k2' : (q04 (q3m m))[2 * c + 1]? = some (.int .i64 (x.2 + 1)) := q0r k2
   have hxr := hcan.2 x (List.mem_of_getElem? hx)
   unfold okR at hxr
   have e8 : ((2 * c : Nat) : Int) + 1 = ((2 * c + 1 : Nat) : Int) := by omega
   have e9 : ((2 * c : Nat) : Int) + 2 = ((2 * (c + 1) : Nat) : Int) := by omega
   have hf : (m.take (c + 1)).foldl q1p (q2e t r) = (m.take c).foldl q1p (q2e t r) + (x.2 + 1 - x.1) := by
    rw [q2t q1p _ m hx]
    unfold q1p
    omega
   have hb2 := q9m (m := m.take c) (fun y hy => by have := hcan.2 y (List.mem_of_mem_take hy); unfold okR at this; omega) (q2e t r)
   have hb3 : (m.take c).length ≤ m.length := by rw [List.length_take]; omega
   generalize (m.take c).foldl q1p (q2e t r) = a at hf hb2 ⊢
   (have hF := (aI (aI (aI @h16 @hone) (aI @g1 @g2)) (aI (aI @k1' @k2') (aI @e8 @e9))); refine q01 (k:=?_); clear hF)
   (refine Fin.nextW (c + 1) ?_ (have hW := (aI @hst @hf); q0g); (try dsimp only))
   omega
  ·have hce : (m.take c).foldl q1p (q2e t r) = q2e t (r + 1) := by
    rw [show c = m.length by omega, List.take_length, q99, hnx]
   rw [hce]
   (have hF := (aI (aI @h16 @hone) (aI @g1 @g2)); refine q01 (k:=?_); clear hF)
   (refine Fin.nextW (r + 1) ?_ (have hW := @hst; q0g); (try dsimp only))
   omega
 ·rw [show r = 16 by omega]
  (have hF := @h16; refine q01 (k:=?_); clear hF)
  exact Fin.tmp' rfl rfl
theorem zqq (p : Pst) (hp : wt p ≤ 50000000) : Ev (En Tryz.prog rfl).P 76 [q0h p] (.ret (.bool (decide (q2x p = 0)))) := by
 refine Ev.of_body it_k76 (by simp) (Run.start ?_)
 unfold t_k76 q0h
 (have hF := True.intro; refine q01 (k:=?_); clear hF)
 refine q00 [q0h p] (he := ev_k126 p hp) (k:=?_)
 (have hF := True.intro; refine q01 (k:=?_); clear hF)
 exact Fin.tmp' rfl rfl
theorem qdf (p q : Pst) : decide (q2x (q3o p q) = 0) = q0n p q := by
 refine qc0 ?_
 rw [decide_eq_true_eq, q2h, qb6]
 constructor
 ·intro h r hr n hn
  refine Classical.byContradiction fun h' => ?_
  have hin := (q8e p q hr n).2 ⟨hn, h'⟩
  have := qfl hin.2.1 hin.2.2.1 hin hr
  omega
 ·intro h
  have := qhd (q := inP (q3o p q)) (fun r n hh => by
   have := (q8e p q hh.1 n).1 hh
   exact this.2 (h r hh.1 n this.1)) 16
  omega
theorem zqr (p q : Pst) (hp : wt p ≤ 10000000) (hq : wt q ≤ 10000000) : Ev (En Tryz.prog rfl).P 70 [q0h p, q0h q] (.ret (.bool (q0n p q))) := by
 have w := qep p q
 have c1 := ev_k120 p q (by omega) (by omega)
 have c2 := zqq (q3o p q) (by omega)
 rw [qdf] at c2
 refine Ev.of_body it_k70 (by simp) (Run.start ?_)
 unfold t_k70 q0h
 (have hF := True.intro; refine q01 (k:=?_); clear hF)
 refine q00 [q0h p, q0h q] (he := c1) (k:=?_)
 (have hF := True.intro; refine q01 (k:=?_); clear hF)
 refine q00 [q0h (q3o p q)] (he := c2) (k:=?_)
 (have hF := True.intro; refine q01 (k:=?_); clear hF)
 exact Fin.tmp' rfl rfl
theorem qfb (a b : Int) : Ev (En Tryz.prog rfl).P 147 [.int .i64 a, .int .i64 b] (.ret (.int .i64 (q8a a b))) := by
 refine Ev.of_body it_k147 (by simp) (Run.start ?_)
 unfold t_k147
 by_cases h1 : a < b
 ·rw [show q8a a b = -1 from if_pos h1]
  (have hF := True.intro; refine q01 (k:=?_); clear hF)
  exact Fin.tmp' rfl rfl
 ·by_cases h2 : b < a
  ·rw [show q8a a b = 1 by unfold q8a; rw [if_neg h1, if_pos h2]]
   (have hF := True.intro; refine q01 (k:=?_); clear hF)
   exact Fin.tmp' rfl rfl
  ·rw [show q8a a b = 0 by unfold q8a; rw [if_neg h1, if_neg h2]]
   (have hF := True.intro; refine q01 (k:=?_); clear hF)
   exact Fin.tmp' rfl rfl

theorem cmpS_def (s t : Sn) : cmpS s t = if q8a s.1 t.1 = 0 then (if q8a s.2.1 t.2.1 = 0 then q8a s.2.2 t.2.2 else q8a s.2.1 t.2.1) else q8a s.1 t.1 := by
 unfold cmpS
 simp only [orI]
 split
 ·split
  ·split
   ·rename_i h; exact h.symm
   ·rfl
  ·rfl
 ·rfl
theorem q7b {a b : Int} : q8a a b = 0 ↔ a = b := by
 unfold q8a
 split
 ·constructor
  ·intro h; simp at h
  ·intro h; omega
 ·split
  ·constructor
   ·intro h; simp at h
   ·intro h; omega
  ·constructor
   ·intro _; omega
   ·intro _; rfl
theorem zr5 (p q : Pst) (hp : wt p ≤ 30000000) (hq : wt q ≤ 30000000) : Ev (En Tryz.prog rfl).P 119 [q0h p, q0h q] (.ret (.int .i64 (cmpP p q))) := by
 refine Ev.of_body it_k119 (by simp) (Run.start ?_)
 unfold t_k119 q0h
 have c1 := qj1 p (by omega)
 have c2 := qj1 q (by omega)
 have h1 := q6g p
 have h2 := q6g q
 have hr : cmpP p q = q67 (qgq (q1g p)) (qgq (q1g q)) := rfl
 rw [hr]
 (have hF := True.intro; refine q01 (k:=?_); clear hF)
 refine q00 [q0h p] (he := c1) (k:=?_)
 unfold q0h
 (have hF := True.intro; refine q01 (k:=?_); clear hF)
 refine q00 [q0h q] (he := c2) (k:=?_)
 clear c1 c2 hr
 generalize q1g p = x at h1 ⊢
 generalize q1g q = y at h2 ⊢
 unfold q0h
 have hw1 : x.vec.length + x.cloud.length = wt x := rfl
 have hw2 : y.vec.length + y.cloud.length = wt y := rfl
 have e1 := q0e x.vec
 have e2 := q0e y.vec
 have e3 := q1n x.cloud
 have e4 := q1n y.cloud
 (have hF := (aI @e1 @e2); refine q01 (k:=?_); clear hF)
 refine Run.while (σ := Nat) (fun i => ⟨tms [(2, .ptr 2 0), (3, .ptr 3 0), (5, .int .i64 (i : Int))], mms [(2, .cells [.sl 1 (q04 x.vec), .sl 3 (q0c x.cloud)]), (3, .cells [.sl 1 (q04 y.vec), .sl 3 (q0c y.cloud)])]⟩) (fun i => i ≤ 16 ∧ ∀ j, j < i → vv x j = vv y j) (fun i => 16 - i) 0 (have hW := (aI @q03 @q05); q0g) ⟨Nat.zero_le _, fun j hj => absurd hj (Nat.not_lt_zero _)⟩ ?_
 rintro i ⟨hi, hp⟩
 unfold qky
 by_cases hlt : i < 16
 ·have hne : vv x i ≠ vv y i → q67 (qgq x) (qgq y) = q8a (vv x i) (vv y i) := fun hn =>
   qsb (qjw x) (qjw y) i _ _ _ _ (q4o x hlt) (q4o y hlt) (fun j hj => by rw [q4o x (by omega), q4o y (by omega), hp j hj]) hn
  have heq : vv x i = vv y i → ∀ j, j < i + 1 → vv x j = vv y j := fun he j hj => by
   by_cases e : j = i
   ·rw [e]; exact he
   ·exact hp j (by omega)
  have k1 := qfb (vv x i) (vv y i)
  unfold vv at hne heq k1
  by_cases hx : i < x.vec.length
  ·have g1 : (q04 x.vec)[i]? = some (.int .i64 (q1y x.vec i)) := q0r (by unfold q1y; rw [List.getD_eq_getElem?_getD, List.getElem?_eq_getElem hx]; rfl)
   simp only [if_pos hx] at hne heq k1
   by_cases hy : i < y.vec.length
   ·have g2 : (q04 y.vec)[i]? = some (.int .i64 (q1y y.vec i)) := q0r (by unfold q1y; rw [List.getD_eq_getElem?_getD, List.getElem?_eq_getElem hy]; rfl)
    simp only [if_pos hy] at hne heq k1
    (focus (have hF := (aI (aI @e1 @e2) (aI @g1 @g2)); (repeat' (first | refine go1 (k:=?_) | with_reducible refine Ny.of ?_ ?_ | (refine Hyp.of ?_; intro hc; (try simp only [hc]); (try simp only [Bh] at hc)))); all_goals clear hF))
    ·rw [hne hc]
     refine q00 [.int .i64 (q1y x.vec i), .int .i64 (q1y y.vec i)] (he := k1) (k:=?_)
     (have hF := True.intro; refine q01 (k:=?_); clear hF)
     exact Fin.tmp' rfl rfl
    ·have h := heq hc
     (refine Fin.nextW (i + 1) ?_ (have hW := (aI @q03 @q05); q0g); (try dsimp only))
     exact ⟨⟨hlt, h⟩, by omega⟩
   ·simp only [if_neg hy] at hne heq k1
    (focus (have hF := (aI @e1 (aI @e2 @g1)); (repeat' (first | refine go1 (k:=?_) | with_reducible refine Ny.of ?_ ?_ | (refine Hyp.of ?_; intro hc; (try simp only [hc]); (try simp only [Bh] at hc)))); all_goals clear hF))
    ·rw [hne hc]
     refine q00 [.int .i64 (q1y x.vec i), .int .i64 0] (he := k1) (k:=?_)
     (have hF := True.intro; refine q01 (k:=?_); clear hF)
     exact Fin.tmp' rfl rfl
    ·have h := heq hc
     (refine Fin.nextW (i + 1) ?_ (have hW := (aI @q03 @q05); q0g); (try dsimp only))
     exact ⟨⟨hlt, h⟩, by omega⟩
  ·simp only [if_neg hx] at hne heq k1
   by_cases hy : i < y.vec.length
   ·have g2 : (q04 y.vec)[i]? = some (.int .i64 (q1y y.vec i)) := q0r (by unfold q1y; rw [List.getD_eq_getElem?_getD, List.getElem?_eq_getElem hy]; rfl)
    simp only [if_pos hy] at hne heq k1
    (focus (have hF := (aI @e1 (aI @e2 @g2)); (repeat' (first | refine go1 (k:=?_) | with_reducible refine Ny.of ?_ ?_ | (refine Hyp.of ?_; intro hc; (try simp only [hc]); (try simp only [Bh] at hc)))); all_goals clear hF))
    ·rw [hne hc]
     refine q00 [.int .i64 0, .int .i64 (q1y y.vec i)] (he := k1) (k:=?_)
     (have hF := True.intro; refine q01 (k:=?_); clear hF)
     exact Fin.tmp' rfl rfl
    ·have h := heq hc
     (refine Fin.nextW (i + 1) ?_ (have hW := (aI @q03 @q05); q0g); (try dsimp only))
     exact ⟨⟨hlt, h⟩, by omega⟩
   ·simp only [if_neg hy] at hne heq k1
    (have hF := (aI @e1 @e2); refine q01 (k:=?_); clear hF)
    have h := heq trivial
    (refine Fin.nextW (i + 1) ?_ (have hW := (aI @q03 @q05); q0g); (try dsimp only))
    exact ⟨⟨hlt, h⟩, by omega⟩
 ·have hv : qjw x = qjw y := by
   unfold qjw
   exact List.map_congr_left fun j hj => hp j (by rw [List.mem_range] at hj; omega)
  have hk : q67 (qgq x) (qgq y) = qjo x.cloud y.cloud := by
   unfold qgq
   rw [hv, qin, qfi]
  rw [hk]
  (have hF := (aI @e1 @e2); refine q01 (k:=?_); clear hF)
  refine Run.while (σ := Nat) (fun i => ⟨tms [(2, .ptr 2 0), (3, .ptr 3 0), (8, .int .i64 (i : Int))], mms [(2, .cells [.sl 1 (q04 x.vec), .sl 3 (q0c x.cloud)]), (3, .cells [.sl 1 (q04 y.vec), .sl 3 (q0c y.cloud)])]⟩) (fun i => i ≤ x.cloud.length ∧ i ≤ y.cloud.length ∧ qjo (x.cloud.drop i) (y.cloud.drop i) = qjo x.cloud y.cloud) (fun i => x.cloud.length - i) 0 (have hW := (aI @q03 @q05); q0g) ⟨Nat.zero_le _, Nat.zero_le _, by rw [List.drop_zero, List.drop_zero]⟩ ?_
  clear hlt hi hp
  rintro i ⟨hi, hi2, hp⟩
  unfold qkx
  by_cases hlt : i < x.cloud.length ∧ i < y.cloud.length
  ·obtain ⟨hla, hlb⟩ := hlt
   obtain ⟨s, hs⟩ : ∃ s, x.cloud[i]? = some s := ⟨x.cloud[i], by simp [hla]⟩
   obtain ⟨t, ht⟩ : ∃ t, y.cloud[i]? = some t := ⟨y.cloud[i], by simp [hlb]⟩
   have g1 := q2o hs
   have g2 := q2o ht
   obtain ⟨_, hxa⟩ := List.getElem?_eq_some_iff.1 hs
   obtain ⟨_, hyb⟩ := List.getElem?_eq_some_iff.1 ht
   have hd : qjo x.cloud y.cloud = if cmpS s t = 0 then qjo (x.cloud.drop (i + 1)) (y.cloud.drop (i + 1)) else cmpS s t := by
    rw [← hp, List.drop_eq_getElem_cons hla, List.drop_eq_getElem_cons hlb, hxa, hyb]
    rfl
   rw [cmpS_def] at hd
   have k1 := qfb s.1 t.1
   have k2 := qfb s.2.1 t.2.1
   have k3 := qfb s.2.2 t.2.2
   unfold qsy at g1 g2
   by_cases q1 : s.1 = t.1
   ·rw [if_pos (q7b.2 q1)] at hd
    by_cases q2 : s.2.1 = t.2.1
    ·rw [if_pos (q7b.2 q2)] at hd
     by_cases q3 : s.2.2 = t.2.2
     ·rw [if_pos (q7b.2 q3)] at hd
      (have hF := (aI (aI (aI @e1 @e2) (aI @e3 @e4)) (aI (aI @g1 @g2) (aI @q1 (aI @q2 @q3)))); refine q6q (k:=?_); clear hF)
      (refine Fin.nextW (i + 1) ?_ (have hW := (aI @q03 @q05); q0g); (try dsimp only))
      exact ⟨⟨hla, hlb, hd.symm⟩, by omega⟩
     ·rw [if_neg (fun h => q3 (q7b.1 h))] at hd
      rw [hd]
      (have hF := (aI (aI (aI @e1 @e2) (aI @e3 @e4)) (aI (aI @g1 @g2) (aI @q1 (aI @q2 @q3)))); refine q6q (k:=?_); clear hF)
      refine q00 [.int .i64 s.2.2, .int .i64 t.2.2] (he := k3) (k:=?_)
      (have hF := True.intro; refine q01 (k:=?_); clear hF)
      exact Fin.tmp' rfl rfl
    ·have hd2 : ¬ q8a s.2.1 t.2.1 = 0 := fun h => q2 (q7b.1 h)
     rw [if_neg hd2, if_neg hd2] at hd
     rw [hd]
     (have hF := (aI (aI (aI @e1 @e2) (aI @e3 @e4)) (aI (aI @g1 @g2) (aI @q1 @q2))); refine q6q (k:=?_); clear hF)
     refine q00 [.int .i64 s.2.1, .int .i64 t.2.1] (he := k2) (k:=?_)
     (have hF := True.intro; refine q01 (k:=?_); clear hF)
     exact Fin.tmp' rfl rfl
   ·have hd2 : ¬ q8a s.1 t.1 = 0 := fun h => q1 (q7b.1 h)
    rw [if_neg hd2, if_neg hd2] at hd
    rw [hd]
    (have hF := (aI (aI @e1 (aI @e2 @e3)) (aI (aI @e4 @g1) (aI @g2 @q1))); refine q6q (k:=?_); clear hF)
    refine q00 [.int .i64 s.1, .int .i64 t.1] (he := k1) (k:=?_)
    (have hF := True.intro; refine q01 (k:=?_); clear hF)
    exact Fin.tmp' rfl rfl
  ·have hd : qjo x.cloud y.cloud = q8a (x.cloud.length : Int) (y.cloud.length : Int) := by
    rw [← hp]
    by_cases ha : i < x.cloud.length
    ·have hb : ¬ i < y.cloud.length := fun h => hlt ⟨ha, h⟩
     rw [List.drop_eq_getElem_cons ha, List.drop_eq_nil_of_le (show y.cloud.length ≤ i by omega)]
     unfold q8a
     rw [if_neg (by omega), if_pos (by omega)]
     rfl
    ·by_cases hb : i < y.cloud.length
     ·rw [List.drop_eq_nil_of_le (show x.cloud.length ≤ i by omega), List.drop_eq_getElem_cons hb]
      unfold q8a
      rw [if_pos (by omega)]
      rfl
     ·rw [List.drop_eq_nil_of_le (show x.cloud.length ≤ i by omega), List.drop_eq_nil_of_le (show y.cloud.length ≤ i by omega)]
      unfold q8a
      rw [if_neg (by omega), if_neg (by omega)]
      rfl
   rw [hd]
   have k1 := qfb (x.cloud.length : Int) (y.cloud.length : Int)
   by_cases ha : i < x.cloud.length
   ·have hb : ¬ i < y.cloud.length := fun h => hlt ⟨ha, h⟩
    (have hF := (aI (aI @e1 @e2) (aI @e3 @e4)); refine q01 (k:=?_); clear hF)
    refine q00 [.int .i64 (x.cloud.length : Int), .int .i64 (y.cloud.length : Int)] (he := k1) (k:=?_)
    (have hF := True.intro; refine q01 (k:=?_); clear hF)
    exact Fin.tmp' rfl rfl
   ·(have hF := (aI (aI @e1 @e2) (aI @e3 @e4)); refine q01 (k:=?_); clear hF)
    refine q00 [.int .i64 (x.cloud.length : Int), .int .i64 (y.cloud.length : Int)] (he := k1) (k:=?_)
    (have hF := True.intro; refine q01 (k:=?_); clear hF)
    exact Fin.tmp' rfl rfl

end Go.Proofs.YthejoeiecenjkaaGreat.Avm
