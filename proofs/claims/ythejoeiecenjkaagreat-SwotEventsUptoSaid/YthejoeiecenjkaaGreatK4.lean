/- Part 4 of the proof: lemmas. -/
import Derived.Test.YthejoeiecenjkaaGreatK3
import Derived.Test.YthejoeiecenjkaaGreatProg
import Derived.KernelRfl
import Derived.Lib.Bytealg
import Derived.Sort.Walk0
import Derived.Shelf.SlSortCmp.Insertion
import Derived.Test.YthejoeiecenjkaaGreatRows
import Derived.WalkKit
import Derived.ProofKit
import Derived.OpenShut
import Derived.JoinedCond
import Derived.Carry
set_option maxRecDepth 100000
set_option maxHeartbeats 4000000
set_option linter.unusedVariables false
set_option linter.unusedSimpArgs false
set_option linter.unusedSectionVars false
set_option linter.defProp false
namespace Go.Proofs.YthejoeiecenjkaaGreat.Avm
open Go.Proofs
def cmpI (a b : Int) : Int := if a < b then -1 else if b < a then 1 else 0
theorem ev_k167 (a : Int) : Ev (En Tryz.prog rfl).P 167 [.int .i64 a] (.ret (.bool false)) := by
  refine Ev.of_body it_k167 (by simp) (Run.start ?_)
  unfold t_k167
  (focus (have hF := True.intro; (repeat' (first | refine go1 (k:=?_) | with_reducible refine Ny.of ?_ ?_ | (refine Hyp.of ?_; intro hc; (try simp only [hc]); (try simp only [Bh] at hc)))); all_goals clear hF))
  all_goals first | exact Fin.tmp' rfl rfl | trace_state
theorem ev_k149 (a b : Int) : Ev (En Tryz.prog rfl).P 149 [.int .i64 a, .int .i64 b] (.ret (.int .i64 (cmpI a b))) := by
  refine Ev.of_body it_k149 (by simp) (Run.start ?_)
  unfold t_k149
  (focus (have hF := True.intro; (repeat' (first | refine go1 (k:=?_) | with_reducible refine Ny.of ?_ ?_ | (refine Hyp.of ?_; intro hc; (try simp only [hc]); (try simp only [Bh] at hc)))); all_goals clear hF))
  refine stCall [.int .i64 a] (he := ev_k167 a) (k:=?_)
  (focus (have hF := True.intro; (repeat' (first | refine go1 (k:=?_) | with_reducible refine Ny.of ?_ ?_ | (refine Hyp.of ?_; intro hc; (try simp only [hc]); (try simp only [Bh] at hc)))); all_goals clear hF))
  refine stCall [.int .i64 b] (he := ev_k167 b) (k:=?_)
  (focus (have hF := True.intro; (repeat' (first | refine go1 (k:=?_) | with_reducible refine Ny.of ?_ ?_ | (refine Hyp.of ?_; intro hc; (try simp only [hc]); (try simp only [Bh] at hc)))); all_goals clear hF))
  · rw [show cmpI a b = -1 from if_pos hc]
    exact Fin.tmp' rfl rfl
  · rename_i hc1
    rw [show cmpI a b = 1 by unfold cmpI; rw [if_neg hc1, if_pos hc]]
    exact Fin.tmp' rfl rfl
  · rename_i hc1
    rw [show cmpI a b = 0 by unfold cmpI; rw [if_neg hc1, if_neg hc]]
    exact Fin.tmp' rfl rfl
def orI : List Int → Int
  | [] => 0
  | x :: l => if x = 0 then orI l else x
theorem orI_drop {l : List Int} {i : Nat} {x : Int} (h : l[i]? = some x) : orI (l.drop i) = if x = 0 then orI (l.drop (i + 1)) else x := by
  obtain ⟨hi, hx⟩ := List.getElem?_eq_some_iff.1 h
  rw [List.drop_eq_getElem_cons hi, hx]
  rfl
theorem ev_k152 (l : List Int) (hl : l.length ≤ 1000000000) : Ev (En Tryz.prog rfl).P 152 [.sl 1 (encIs l)] (.ret (.int .i64 (orI l))) := by
  refine Ev.of_body it_k152 (by simp) (Run.start ?_)
  unfold t_k152
  have e1 := encIs_len l
  (focus (have hF := @e1; (repeat' (first | refine go1 (k:=?_) | with_reducible refine Ny.of ?_ ?_ | (refine Hyp.of ?_; intro hc; (try simp only [hc]); (try simp only [Bh] at hc)))); all_goals clear hF))
  refine Run.while (σ := Nat) (fun i => ⟨tms [(3, .int .i64 0), (6, .sl 1 (encIs l)), (7, .int .i64 (l.length : Int)), (8, .int .i64 (i : Int))], mms []⟩) (fun i => i ≤ l.length ∧ orI (l.drop i) = orI l) (fun i => l.length - i) 0 (have hW := @encIs_stb; stWk) ⟨Nat.zero_le _, by rw [List.drop_zero]⟩ ?_
  rintro i ⟨hi, hp⟩
  unfold t_k152_l1
  by_cases hlt : i < l.length
  · obtain ⟨x, hx⟩ : ∃ x, l[i]? = some x := ⟨l[i], by simp [hlt]⟩
    have g1 := encIs_get hx
    have hd := orI_drop hx
    (focus (have hF := (And.intro @e1 @g1); (repeat' (first | refine go1 (k:=?_) | with_reducible refine Ny.of ?_ ?_ | (refine Hyp.of ?_; intro hc; (try simp only [hc]); (try simp only [Bh] at hc)))); all_goals clear hF))
    · rw [if_neg hc] at hd
      rw [← hp, hd]
      exact Fin.tmp' rfl rfl
    · rw [if_pos hc] at hd
      (refine Fin.nextW (i + 1) ?_ (have hW := @encIs_stb; stWk); (try dsimp only))
      exact ⟨⟨hlt, hd.symm.trans hp⟩, by omega⟩
  · rw [← hp, List.drop_eq_nil_of_le (by omega)]
    (focus (have hF := @e1; (repeat' (first | refine go1 (k:=?_) | with_reducible refine Ny.of ?_ ?_ | (refine Hyp.of ?_; intro hc; (try simp only [hc]); (try simp only [Bh] at hc)))); all_goals clear hF))
    exact Fin.tmp' rfl rfl
def cmpS (s t : Sn) : Int := orI [cmpI s.1 t.1, cmpI s.2.1 t.2.1, cmpI s.2.2 t.2.2]
theorem ev_k151 (s t : Sn) : Ev (En Tryz.prog rfl).P 151 [encS s, encS t] (.ret (.int .i64 (cmpS s t))) := by
  refine Ev.of_body it_k151 (by simp) (Run.start ?_)
  unfold t_k151 encS
  (focus (have hF := True.intro; (repeat' (first | refine go1 (k:=?_) | with_reducible refine Ny.of ?_ ?_ | (refine Hyp.of ?_; intro hc; (try simp only [hc]); (try simp only [Bh] at hc)))); all_goals clear hF))
  refine stCall [.int .i64 s.1, .int .i64 t.1] (he := ev_k149 _ _) (k:=?_)
  (focus (have hF := True.intro; (repeat' (first | refine go1 (k:=?_) | with_reducible refine Ny.of ?_ ?_ | (refine Hyp.of ?_; intro hc; (try simp only [hc]); (try simp only [Bh] at hc)))); all_goals clear hF))
  refine stCall [.int .i64 s.2.1, .int .i64 t.2.1] (he := ev_k149 _ _) (k:=?_)
  (focus (have hF := True.intro; (repeat' (first | refine go1 (k:=?_) | with_reducible refine Ny.of ?_ ?_ | (refine Hyp.of ?_; intro hc; (try simp only [hc]); (try simp only [Bh] at hc)))); all_goals clear hF))
  refine stCall [.int .i64 s.2.2, .int .i64 t.2.2] (he := ev_k149 _ _) (k:=?_)
  (focus (have hF := True.intro; (repeat' (first | refine go1 (k:=?_) | with_reducible refine Ny.of ?_ ?_ | (refine Hyp.of ?_; intro hc; (try simp only [hc]); (try simp only [Bh] at hc)))); all_goals clear hF))
  refine stCall [.sl 1 (encIs [cmpI s.1 t.1, cmpI s.2.1 t.2.1, cmpI s.2.2 t.2.2])] (he := ev_k152 _ (by simp)) (k:=?_)
  (focus (have hF := True.intro; (repeat' (first | refine go1 (k:=?_) | with_reducible refine Ny.of ?_ ?_ | (refine Hyp.of ?_; intro hc; (try simp only [hc]); (try simp only [Bh] at hc)))); all_goals clear hF))
  exact Fin.tmp' rfl rfl
def cmpL : List Sn → List Sn → Int
  | [], [] => 0
  | [], _ :: _ => -1
  | _ :: _, [] => 1
  | x :: l, y :: m => if cmpS x y = 0 then cmpL l m else cmpS x y
theorem ev_slicesCompareFunc (a b : List Sn) (ha : a.length ≤ 1000000000) (hb : b.length ≤ 1000000000) : Ev (En Tryz.prog rfl).P 150 [.sl 3 (encSs a), .sl 3 (encSs b), .fn 151 []] (.ret (.int .i64 (cmpL a b))) := by
  refine Ev.of_body it_k150 (by simp) (Run.start ?_)
  unfold t_k150
  have e1 := encSs_len a
  have e2 := encSs_len b
  (focus (have hF := (And.intro @e1 @e2); (repeat' (first | refine go1 (k:=?_) | with_reducible refine Ny.of ?_ ?_ | (refine Hyp.of ?_; intro hc; (try simp only [hc]); (try simp only [Bh] at hc)))); all_goals clear hF))
  refine Run.while (σ := Nat) (fun i => ⟨tms [(0, .sl 3 (encSs a)), (1, .sl 3 (encSs b)), (2, .fn 151 []), (11, .sl 3 (encSs a)), (12, .int .i64 (a.length : Int)), (13, .int .i64 (i : Int))], mms []⟩) (fun i => i ≤ a.length ∧ i ≤ b.length ∧ cmpL (a.drop i) (b.drop i) = cmpL a b) (fun i => a.length - i) 0 (have hW := @encSs_stb; stWk) ⟨Nat.zero_le _, Nat.zero_le _, by rw [List.drop_zero, List.drop_zero]⟩ ?_
  rintro i ⟨hi, hi2, hp⟩
  unfold t_k150_l1
  by_cases hlt : i < a.length
  · obtain ⟨x, hx⟩ : ∃ x, a[i]? = some x := ⟨a[i], by simp [hlt]⟩
    have g1 := encSs_get hx
    obtain ⟨_, hxa⟩ := List.getElem?_eq_some_iff.1 hx
    by_cases hlb : i < b.length
    · obtain ⟨y, hy⟩ : ∃ y, b[i]? = some y := ⟨b[i], by simp [hlb]⟩
      have g2 := encSs_get hy
      obtain ⟨_, hyb⟩ := List.getElem?_eq_some_iff.1 hy
      have hd : cmpL a b = if cmpS x y = 0 then cmpL (a.drop (i + 1)) (b.drop (i + 1)) else cmpS x y := by
        rw [← hp, List.drop_eq_getElem_cons hlt, List.drop_eq_getElem_cons hlb, hxa, hyb]
        rfl
      unfold encS at g1 g2
      (focus (have hF := (And.intro (And.intro @e1 @e2) (And.intro @g1 @g2)); (repeat' (first | refine go1 (k:=?_) | with_reducible refine Ny.of ?_ ?_ | (refine Hyp.of ?_; intro hc; (try simp only [hc]); (try simp only [Bh] at hc)))); all_goals clear hF))
      refine stCall [.agg [.int .i64 x.1, .int .i64 x.2.1, .int .i64 x.2.2], .agg [.int .i64 y.1, .int .i64 y.2.1, .int .i64 y.2.2]] (he := ev_k151 x y) (k:=?_)
      (focus (have hF := (And.intro (And.intro @e1 @e2) (And.intro @g1 @g2)); (repeat' (first | refine go1 (k:=?_) | with_reducible refine Ny.of ?_ ?_ | (refine Hyp.of ?_; intro hc; (try simp only [hc]); (try simp only [Bh] at hc)))); all_goals clear hF))
      · rw [if_neg hc] at hd
        rw [hd]
        exact Fin.tmp' rfl rfl
      · rw [if_pos hc] at hd
        (refine Fin.nextW (i + 1) ?_ (have hW := @encSs_stb; stWk); (try dsimp only))
        exact ⟨⟨hlt, hlb, hd.symm⟩, by omega⟩
    · have hd : cmpL a b = 1 := by
        rw [← hp, List.drop_eq_getElem_cons hlt, List.drop_eq_nil_of_le (show b.length ≤ i by omega)]
        rfl
      rw [hd]
      (focus (have hF := (And.intro @e1 (And.intro @e2 @g1)); (repeat' (first | refine go1 (k:=?_) | with_reducible refine Ny.of ?_ ?_ | (refine Hyp.of ?_; intro hc; (try simp only [hc]); (try simp only [Bh] at hc)))); all_goals clear hF))
      exact Fin.tmp' rfl rfl
  · have hia : i = a.length := by omega
    (focus (have hF := (And.intro @e1 @e2); (repeat' (first | refine go1 (k:=?_) | with_reducible refine Ny.of ?_ ?_ | (refine Hyp.of ?_; intro hc; (try simp only [hc]); (try simp only [Bh] at hc)))); all_goals clear hF))
    · have hd : cmpL a b = -1 := by
        rw [← hp, List.drop_eq_nil_of_le (show a.length ≤ i by omega), List.drop_eq_getElem_cons (show i < b.length by omega)]
        rfl
      rw [hd]
      exact Fin.tmp' rfl rfl
    · have hd : cmpL a b = 0 := by
        rw [← hp, List.drop_eq_nil_of_le (show a.length ≤ i by omega), List.drop_eq_nil_of_le (show b.length ≤ i by omega)]
        rfl
      rw [hd]
      exact Fin.tmp' rfl rfl

def lexI : List Int → List Int → Int
  | [], [] => 0
  | [], _ :: _ => -1
  | _ :: _, [] => 1
  | x :: l, y :: m => if x < y then -1 else if y < x then 1 else lexI l m
theorem lexI_range : ∀ l m : List Int, lexI l m = -1 ∨ lexI l m = 0 ∨ lexI l m = 1
  | [], [] => .inr (.inl rfl)
  | [], _ :: _ => .inl rfl
  | _ :: _, [] => .inr (.inr rfl)
  | x :: l, y :: m => by
    unfold lexI
    split
    · exact .inl rfl
    · split
      · exact .inr (.inr rfl)
      · exact lexI_range l m
theorem lexI_neg : ∀ l m : List Int, lexI m l = - lexI l m
  | [], [] => rfl
  | [], _ :: _ => rfl
  | _ :: _, [] => rfl
  | x :: l, y :: m => by
    have ih := lexI_neg l m
    unfold lexI
    by_cases h1 : x < y
    · rw [if_neg (show ¬ y < x by omega), if_pos h1, if_pos h1]; rfl
    · by_cases h2 : y < x
      · rw [if_pos h2, if_neg h1, if_pos h2]
      · rw [if_neg h1, if_neg h2, if_neg h2, if_neg h1, ih]
theorem lexI_self : ∀ l : List Int, lexI l l = 0
  | [] => rfl
  | x :: l => by unfold lexI; rw [if_neg (by omega), if_neg (by omega), lexI_self l]
theorem lexI_eq : ∀ {l m : List Int}, lexI l m = 0 → l = m
  | [], [], _ => rfl
  | [], _ :: _, h => by simp [lexI] at h
  | _ :: _, [], h => by simp [lexI] at h
  | x :: l, y :: m, h => by
    unfold lexI at h
    by_cases h1 : x < y
    · rw [if_pos h1] at h; simp at h
    · by_cases h2 : y < x
      · rw [if_neg h1, if_pos h2] at h; simp at h
      · rw [if_neg h1, if_neg h2] at h
        rw [lexI_eq h, show x = y by omega]
theorem lexI_trans : ∀ {l m k : List Int}, lexI l m ≤ 0 → lexI m k ≤ 0 → lexI l k ≤ 0
  | [], _, [], _, _ => by simp [lexI]
  | [], _, _ :: _, _, _ => by simp [lexI]
  | _ :: _, [], _, h, _ => by simp [lexI] at h
  | _ :: _, _ :: _, [], _, h => by simp [lexI] at h
  | x :: l, y :: m, z :: k, h, h' => by
    unfold lexI at h h' ⊢
    by_cases a1 : x < y
    · by_cases b1 : y < z
      · rw [if_pos (by omega)]; omega
      · by_cases b2 : z < y
        · rw [if_neg b1, if_pos b2] at h'; omega
        · rw [if_pos (by omega)]; omega
    · by_cases a2 : y < x
      · rw [if_neg a1, if_pos a2] at h; omega
      · rw [if_neg a1, if_neg a2] at h
        by_cases b1 : y < z
        · rw [if_pos (by omega)]; omega
        · by_cases b2 : z < y
          · rw [if_neg b1, if_pos b2] at h'; omega
          · rw [if_neg b1, if_neg b2] at h'
            rw [if_neg (by omega), if_neg (by omega)]
            exact lexI_trans h h'
theorem lexI_app : ∀ (l : List Int) (c d : List Int), lexI (l ++ c) (l ++ d) = lexI c d
  | [], _, _ => rfl
  | x :: l, c, d => by
    show (if x < x then (-1 : Int) else if x < x then 1 else lexI (l ++ c) (l ++ d)) = _
    rw [if_neg (by omega), if_neg (by omega), lexI_app l]
theorem lexI_at : ∀ (l m : List Int) (i : Nat) (x y : Int) (c d : List Int), l[i]? = some x → m[i]? = some y → (∀ j, j < i → l[j]? = m[j]?) → x ≠ y → lexI (l ++ c) (m ++ d) = cmpI x y
  | [], _, _, _, _, _, _, h, _, _, _ => by simp at h
  | _ :: _, [], _, _, _, _, _, _, h, _, _ => by simp at h
  | a :: l, b :: m, 0, x, y, c, d, h1, h2, _, hn => by
    simp at h1 h2
    subst h1; subst h2
    show lexI (a :: (l ++ c)) (b :: (m ++ d)) = _
    unfold lexI cmpI
    by_cases e1 : a < b
    · rw [if_pos e1, if_pos e1]
    · rw [if_neg e1, if_neg e1, if_pos (by omega), if_pos (by omega)]
  | a :: l, b :: m, i + 1, x, y, c, d, h1, h2, hj, hn => by
    have e := hj 0 (by omega)
    simp at e
    subst e
    show lexI (a :: (l ++ c)) (a :: (m ++ d)) = _
    unfold lexI
    rw [if_neg (by omega), if_neg (by omega)]
    refine lexI_at l m i x y c d (by simpa using h1) (by simpa using h2) (fun j hjl => ?_) hn
    have := hj (j + 1) (by omega)
    simpa using this
def flatS : List Sn → List Int
  | [] => []
  | s :: l => s.1 :: s.2.1 :: s.2.2 :: flatS l
theorem flatS_inj : ∀ {l m : List Sn}, flatS l = flatS m → l = m
  | [], [], _ => rfl
  | [], _ :: _, h => by simp [flatS] at h
  | _ :: _, [], h => by simp [flatS] at h
  | x :: l, y :: m, h => by
    simp only [flatS, List.cons.injEq] at h
    rw [flatS_inj h.2.2.2, show x = y from Prod.ext h.1 (Prod.ext h.2.1 h.2.2.1)]
theorem cmpL_flat : ∀ l m : List Sn, lexI (flatS l) (flatS m) = cmpL l m
  | [], [] => rfl
  | [], _ :: _ => rfl
  | _ :: _, [] => rfl
  | x :: l, y :: m => by
    have ih := cmpL_flat l m
    simp only [flatS, lexI, cmpL, cmpS, orI, cmpI, ih]
    by_cases a1 : x.1 < y.1
    · simp [a1]
    · by_cases a2 : y.1 < x.1
      · simp [a1, a2]
      · by_cases b1 : x.2.1 < y.2.1
        · simp [a1, a2, b1]
        · by_cases b2 : y.2.1 < x.2.1
          · simp [a1, a2, b1, b2]
          · by_cases c1 : x.2.2 < y.2.2
            · simp [a1, a2, b1, b2, c1]
            · by_cases c2 : y.2.2 < x.2.2
              · simp [a1, a2, b1, b2, c1, c2]
              · simp [a1, a2, b1, b2, c1, c2]
def vv (p : Pst) (r : Nat) : Int := if r < p.vec.length then vecAt p.vec r else 0
def vecK (p : Pst) : List Int := (List.range 16).map (vv p)
def keyP (p : Pst) : List Int := vecK p ++ flatS p.cloud
def cmpP (p q : Pst) : Int := lexI (keyP (normP p)) (keyP (normP q))
theorem vecK_get (p : Pst) {r : Nat} (hr : r < 16) : (vecK p)[r]? = some (vv p r) := by
  unfold vecK
  rw [List.getElem?_map, List.getElem?_range hr]
  rfl
theorem vecK_len (p : Pst) : (vecK p).length = 16 := by simp [vecK]
theorem keyP_inj {p q : Pst} (hp : CanP p) (hq : CanP q) (h : keyP p = keyP q) : p = q := by
  have h1 : vecK p = vecK q := by
    have := congrArg (List.take 16) h
    unfold keyP at this
    rwa [List.take_left' (vecK_len p), List.take_left' (vecK_len q)] at this
  have h2 : p.cloud = q.cloud := by
    have := congrArg (List.drop 16) h
    unfold keyP at this
    rw [List.drop_left' (vecK_len p), List.drop_left' (vecK_len q)] at this
    exact flatS_inj this
  refine hp.ext hq fun r hr n => ?_
  have e : vv p r = vv q r := by
    have a := vecK_get p hr
    rw [h1, vecK_get q hr] at a
    exact (Option.some.inj a).symm
  have k : ∀ z : Pst, 1 ≤ n → ((r < z.vec.length ∧ n ≤ vecAt z.vec r) ↔ n ≤ vv z r) := fun z hn => by
    unfold vv
    by_cases hz : r < z.vec.length
    · rw [if_pos hz]; exact ⟨fun h => h.2, fun h => ⟨hz, h⟩⟩
    · rw [if_neg hz]; exact ⟨fun h => absurd h.1 hz, fun h => by omega⟩
  unfold inP
  rw [h2]
  constructor
  · rintro ⟨a, b, c, d⟩
    refine ⟨a, b, c, d.imp (fun d => ?_) id⟩
    rw [k q b, ← e, ← k p b]; exact d
  · rintro ⟨a, b, c, d⟩
    refine ⟨a, b, c, d.imp (fun d => ?_) id⟩
    rw [k p b, e, ← k q b]; exact d
theorem cmpP_zero {p q : Pst} : cmpP p q = 0 ↔ normP p = normP q := by
  constructor
  · intro h
    exact keyP_inj (canP_norm p) (canP_norm q) (lexI_eq h)
  · intro h
    unfold cmpP
    rw [h, lexI_self]

def r_k170_1 : List SOp := [⟨some 2,.assign (.const (.bool false)),none⟩]
instance : Live r_k170_1 := ⟨[0]⟩
def r_k170_2 : List SOp := [⟨some 3,.move (.tmp 0),none⟩,⟨some 4,.binOp .leq 5 (.const (.int .u8 65)) (.tmp 3) 5,none⟩,⟨some 5,.move (.tmp 4),none⟩,⟨some 6,.move (.tmp 0),some ((some 5),true)⟩,⟨some 7,.binOp .leq 5 (.tmp 6) (.const (.int .u8 90)) 5,some ((some 5),true)⟩,⟨some 8,.pick (.tmp 5) (.tmp 7) (.const (.bool false)),none⟩,⟨some 2,.assign (.tmp 8),none⟩]
instance : Live r_k170_2 := ⟨[0]⟩
def t_k170 : SC :=
  (.seq (.ops false r_k170_1) (.seq (.ops false r_k170_2) .ret))
theorem it_k170 : FnIs Tryz.prog 170 9 [.tmp 2] t_k170 := ⟨Tryz.f170, _, Tryz.func170, rfl, rfl, rfl, rfl, by kernel_rfl⟩

def r_k171_1 : List SOp := [⟨some 2,.assign (.const (.bool false)),none⟩]
instance : Live r_k171_1 := ⟨[0]⟩
def r_k171_2 : List SOp := [⟨some 3,.move (.tmp 0),none⟩,⟨some 4,.binOp .leq 5 (.const (.int .u8 48)) (.tmp 3) 5,none⟩,⟨some 5,.move (.tmp 4),none⟩,⟨some 6,.move (.tmp 0),some ((some 5),true)⟩,⟨some 7,.binOp .leq 5 (.tmp 6) (.const (.int .u8 57)) 5,some ((some 5),true)⟩,⟨some 8,.pick (.tmp 5) (.tmp 7) (.const (.bool false)),none⟩,⟨some 2,.assign (.tmp 8),none⟩]
instance : Live r_k171_2 := ⟨[0]⟩
def t_k171 : SC :=
  (.seq (.ops false r_k171_1) (.seq (.ops false r_k171_2) .ret))
theorem it_k171 : FnIs Tryz.prog 171 9 [.tmp 2] t_k171 := ⟨Tryz.f171, _, Tryz.func171, rfl, rfl, rfl, rfl, by kernel_rfl⟩

def r_k172_1 : List SOp := [⟨some 2,.assign (.const (.bool false)),none⟩]
instance : Live r_k172_1 := ⟨[0]⟩
def r_k172_2 : List SOp := [⟨some 3,.move (.tmp 0),none⟩,⟨some 4,.binOp .eql 5 (.tmp 3) (.const (.int .u8 45)) 5,none⟩,⟨some 5,.move (.tmp 4),none⟩,⟨some 6,.move (.tmp 0),some ((some 5),false)⟩,⟨some 7,.binOp .eql 5 (.tmp 6) (.const (.int .u8 46)) 5,some ((some 5),false)⟩,⟨some 8,.pick (.tmp 5) (.const (.bool true)) (.tmp 7),none⟩,⟨some 2,.assign (.tmp 8),none⟩]
instance : Live r_k172_2 := ⟨[0]⟩
def t_k172 : SC :=
  (.seq (.ops false r_k172_1) (.seq (.ops false r_k172_2) .ret))
theorem it_k172 : FnIs Tryz.prog 172 9 [.tmp 2] t_k172 := ⟨Tryz.f172, _, Tryz.func172, rfl, rfl, rfl, rfl, by kernel_rfl⟩

def r_k158_1 : List SOp := [⟨some 2,.assign (.const (.int .i64 0)),none⟩,⟨some 3,.assign (.const (.int .i64 0)),none⟩]
instance : Live r_k158_1 := ⟨[0]⟩
def r_k158_2 : List SOp := [⟨some 6,.move (.tmp 0),none⟩,⟨some 7,.binOp .eql 9 (.tmp 6) (.const (.string ⟨#[]⟩)) 9,none⟩]
instance : Live r_k158_2 := ⟨[0]⟩
def r_k158_3 : List SOp := [⟨some 2,.assign (.const (.int .i64 0)),none⟩,⟨some 3,.assign (.const (.int .i64 20)),none⟩]
instance : Live r_k158_3 := ⟨[]⟩
def r_k158_4 : List SOp := [⟨some 8,.move (.tmp 0),none⟩,⟨some 9,.call ⟨.builtin .len,#[.tmp 8],#[9]⟩,none⟩,⟨some 10,.binOp .gtr 3 (.tmp 9) (.const (.int .i64 24)) 3,none⟩]
instance : Live r_k158_4 := ⟨[0]⟩
def r_k158_5 : List SOp := [⟨some 2,.assign (.const (.int .i64 0)),none⟩,⟨some 3,.assign (.const (.int .i64 21)),none⟩]
instance : Live r_k158_5 := ⟨[]⟩
def r_k158_6 : List SOp := [⟨some 11,.move (.tmp 0),none⟩,⟨some 12,.call ⟨.builtin .len,#[.tmp 11],#[9]⟩,none⟩,⟨some 13,.move (.const (.int .i64 0)),none⟩]
instance : Live r_k158_6 := ⟨[0]⟩
def r_k158_7 : List SOp := [⟨some 14,.binOp .lss 3 (.tmp 13) (.tmp 12) 3,none⟩]
instance : Live r_k158_7 := ⟨[0,12,13]⟩
def r_k158_8 : List SOp := [⟨some 15,.move (.tmp 13),none⟩,⟨some 4,.assign (.tmp 15),none⟩]
instance : Live r_k158_8 := ⟨[0,12,13]⟩
def r_k158_9 : List SOp := [⟨some 16,.move (.tmp 0),none⟩,⟨some 17,.move (.tmp 4),none⟩,⟨some 18,.index 9 (.tmp 16) (.tmp 17),none⟩,⟨some 5,.assign (.tmp 18),none⟩]
instance : Live r_k158_9 := ⟨[0,4,12,13]⟩
def r_k158_10 : List SOp := [⟨some 19,.move (.tmp 5),none⟩,⟨some 20,.call ⟨.value (.func 170),#[.tmp 19],#[5]⟩,none⟩,⟨some 21,.move (.tmp 20),none⟩,⟨some 22,.move (.tmp 5),some ((some 21),false)⟩,⟨some 23,.call ⟨.value (.func 171),#[.tmp 22],#[5]⟩,some ((some 21),false)⟩,⟨some 24,.pick (.tmp 21) (.const (.bool true)) (.tmp 23),none⟩]
instance : Live r_k158_10 := ⟨[0,4,5,12,13]⟩
def r_k158_11 : List SOp := [⟨some 25,.move (.tmp 5),none⟩,⟨some 26,.call ⟨.value (.func 172),#[.tmp 25],#[5]⟩,none⟩,⟨some 27,.unOp .not 4 (.tmp 26),none⟩,⟨some 28,.move (.tmp 27),none⟩,⟨some 29,.move (.tmp 4),some ((some 28),false)⟩,⟨some 30,.binOp .eql 3 (.tmp 29) (.const (.int .i64 0)) 3,some ((some 28),false)⟩,⟨some 31,.pick (.tmp 28) (.const (.bool true)) (.tmp 30),none⟩,⟨some 32,.move (.tmp 31),none⟩,⟨some 33,.move (.tmp 4),some ((some 32),false)⟩,⟨some 34,.move (.tmp 0),some ((some 32),false)⟩,⟨some 35,.call ⟨.builtin .len,#[.tmp 34],#[9]⟩,some ((some 32),false)⟩,⟨some 36,.binOp .sub 3 (.tmp 35) (.const (.int .i64 1)) 3,some ((some 32),false)⟩,⟨some 37,.binOp .eql 3 (.tmp 33) (.tmp 36) 3,some ((some 32),false)⟩,⟨some 38,.pick (.tmp 32) (.const (.bool true)) (.tmp 37),none⟩,⟨some 39,.move (.tmp 38),none⟩,⟨some 40,.move (.tmp 0),some ((some 39),false)⟩,⟨some 41,.move (.tmp 4),some ((some 39),false)⟩,⟨some 42,.binOp .sub 3 (.tmp 41) (.const (.int .i64 1)) 3,some ((some 39),false)⟩,⟨some 43,.index 9 (.tmp 40) (.tmp 42),some ((some 39),false)⟩,⟨some 44,.call ⟨.value (.func 172),#[.tmp 43],#[5]⟩,some ((some 39),false)⟩,⟨some 45,.pick (.tmp 39) (.const (.bool true)) (.tmp 44),none⟩]
instance : Live r_k158_11 := ⟨[0,4,5,12,13]⟩
def r_k158_12 : List SOp := [⟨some 46,.move (.tmp 4),none⟩,⟨some 2,.assign (.tmp 46),none⟩,⟨some 3,.assign (.const (.int .i64 22)),none⟩]
instance : Live r_k158_12 := ⟨[4]⟩
def r_k158_13 : List SOp := [⟨some 47,.binOp .add 3 (.tmp 13) (.const (.int .i64 1)) 3,none⟩,⟨some 13,.move (.tmp 47),none⟩]
instance : Live r_k158_13 := ⟨[0,12,13]⟩
def r_k158_14 : List SOp := [⟨some 2,.assign (.const (.int .i64 0)),none⟩,⟨some 3,.assign (.const (.int .i64 0)),none⟩]
instance : Live r_k158_14 := ⟨[]⟩
def t_k158_l1 : SC :=
  (.seq (.ops false r_k158_7) (.seq (.cond (.tmp 14) .skip (.exit 0)) (.seq (.block 1 (.seq (.ops false r_k158_8) (.seq (.ops false r_k158_9) (.seq (.seq (.ops false r_k158_10) (.cond (.tmp 24) (.exit 1) .skip)) (.seq (.ops false r_k158_11) (.cond (.tmp 45) (.seq (.ops false r_k158_12) .ret) .skip)))))) (.ops false r_k158_13))))
def t_k158 : SC :=
  (.seq (.ops false r_k158_1) (.seq (.seq (.ops false r_k158_2) (.cond (.tmp 7) (.seq (.ops false r_k158_3) .ret) .skip)) (.seq (.seq (.ops false r_k158_4) (.cond (.tmp 10) (.seq (.ops false r_k158_5) .ret) .skip)) (.seq (.seq (.ops false r_k158_6) (.block 0 (.loop t_k158_l1))) (.seq (.ops false r_k158_14) .ret)))))
theorem it_k158 : FnIs Tryz.prog 158 48 [.tmp 2, .tmp 3] t_k158 := ⟨Tryz.f158, _, Tryz.func158, rfl, rfl, rfl, rfl, by kernel_rfl⟩

def r_k137_1 : List SOp := [⟨some 2,.assign (.const (.bool false)),none⟩]
instance : Live r_k137_1 := ⟨[0]⟩
def r_k137_2 : List SOp := [⟨some 6,.move (.tmp 0),none⟩,⟨some 7,.call ⟨.value (.func 158),#[.tmp 6],#[9]⟩,none⟩,⟨some 5,.move (.tmp 7),none⟩,⟨some 8,.extract (.tmp 5) 0,none⟩,⟨some 9,.extract (.tmp 5) 1,none⟩,⟨some 3,.assign (.tmp 8),none⟩,⟨some 4,.assign (.tmp 9),none⟩]
instance : Live r_k137_2 := ⟨[0]⟩
def r_k137_3 : List SOp := [⟨some 10,.move (.tmp 4),none⟩,⟨some 11,.binOp .eql 32 (.tmp 10) (.const (.int .i64 0)) 32,none⟩,⟨some 2,.assign (.tmp 11),none⟩]
instance : Live r_k137_3 := ⟨[4]⟩
def t_k137 : SC :=
  (.seq (.ops false r_k137_1) (.seq (.ops false r_k137_2) (.seq (.ops false r_k137_3) .ret)))
theorem it_k137 : FnIs Tryz.prog 137 12 [.tmp 2] t_k137 := ⟨Tryz.f137, _, Tryz.func137, rfl, rfl, rfl, rfl, by kernel_rfl⟩

def r_k193_1 : List SOp := [⟨some 2,.assign (.const (.bool false)),none⟩]
instance : Live r_k193_1 := ⟨[0]⟩
def r_k193_2 : List SOp := [⟨some 3,.move (.tmp 0),none⟩,⟨some 4,.binOp .geq 5 (.tmp 3) (.const (.int .u8 65)) 5,none⟩,⟨some 5,.move (.tmp 4),none⟩,⟨some 6,.move (.tmp 0),some ((some 5),true)⟩,⟨some 7,.binOp .leq 5 (.tmp 6) (.const (.int .u8 90)) 5,some ((some 5),true)⟩,⟨some 8,.pick (.tmp 5) (.tmp 7) (.const (.bool false)),none⟩,⟨some 2,.assign (.tmp 8),none⟩]
instance : Live r_k193_2 := ⟨[0]⟩
def t_k193 : SC :=
  (.seq (.ops false r_k193_1) (.seq (.ops false r_k193_2) .ret))
theorem it_k193 : FnIs Tryz.prog 193 9 [.tmp 2] t_k193 := ⟨Tryz.f193, _, Tryz.func193, rfl, rfl, rfl, rfl, by kernel_rfl⟩

def r_k194_1 : List SOp := [⟨some 2,.assign (.const (.bool false)),none⟩]
instance : Live r_k194_1 := ⟨[0]⟩
def r_k194_2 : List SOp := [⟨some 3,.move (.tmp 0),none⟩,⟨some 4,.binOp .geq 5 (.tmp 3) (.const (.int .u8 48)) 5,none⟩,⟨some 5,.move (.tmp 4),none⟩,⟨some 6,.move (.tmp 0),some ((some 5),true)⟩,⟨some 7,.binOp .leq 5 (.tmp 6) (.const (.int .u8 57)) 5,some ((some 5),true)⟩,⟨some 8,.pick (.tmp 5) (.tmp 7) (.const (.bool false)),none⟩,⟨some 2,.assign (.tmp 8),none⟩]
instance : Live r_k194_2 := ⟨[0]⟩
def t_k194 : SC :=
  (.seq (.ops false r_k194_1) (.seq (.ops false r_k194_2) .ret))
theorem it_k194 : FnIs Tryz.prog 194 9 [.tmp 2] t_k194 := ⟨Tryz.f194, _, Tryz.func194, rfl, rfl, rfl, rfl, by kernel_rfl⟩

def r_k195_1 : List SOp := [⟨some 2,.assign (.const (.bool false)),none⟩]
instance : Live r_k195_1 := ⟨[0]⟩
def r_k195_2 : List SOp := [⟨some 3,.move (.tmp 0),none⟩,⟨some 4,.binOp .eql 5 (.tmp 3) (.const (.int .u8 45)) 5,none⟩,⟨some 5,.move (.tmp 4),none⟩,⟨some 6,.move (.tmp 0),some ((some 5),false)⟩,⟨some 7,.binOp .eql 5 (.tmp 6) (.const (.int .u8 46)) 5,some ((some 5),false)⟩,⟨some 8,.pick (.tmp 5) (.const (.bool true)) (.tmp 7),none⟩,⟨some 2,.assign (.tmp 8),none⟩]
instance : Live r_k195_2 := ⟨[0]⟩
def t_k195 : SC :=
  (.seq (.ops false r_k195_1) (.seq (.ops false r_k195_2) .ret))
theorem it_k195 : FnIs Tryz.prog 195 9 [.tmp 2] t_k195 := ⟨Tryz.f195, _, Tryz.func195, rfl, rfl, rfl, rfl, by kernel_rfl⟩

def r_k184_1 : List SOp := [⟨some 4,.assign (.const (.bool false)),none⟩]
instance : Live r_k184_1 := ⟨[0,1]⟩
def r_k184_2 : List SOp := [⟨some 6,.move (.tmp 0),none⟩,⟨some 7,.move (.tmp 1),none⟩,⟨some 8,.index 9 (.tmp 6) (.tmp 7),none⟩,⟨some 5,.assign (.tmp 8),none⟩]
instance : Live r_k184_2 := ⟨[0,1]⟩
def r_k184_3 : List SOp := [⟨some 9,.move (.tmp 5),none⟩,⟨some 10,.call ⟨.value (.func 193),#[.tmp 9],#[5]⟩,none⟩,⟨some 11,.move (.tmp 10),none⟩,⟨some 12,.move (.tmp 5),some ((some 11),false)⟩,⟨some 13,.call ⟨.value (.func 194),#[.tmp 12],#[5]⟩,some ((some 11),false)⟩,⟨some 14,.pick (.tmp 11) (.const (.bool true)) (.tmp 13),none⟩]
instance : Live r_k184_3 := ⟨[0,1,5]⟩
def r_k184_4 : List SOp := [⟨some 4,.assign (.const (.bool true)),none⟩]
instance : Live r_k184_4 := ⟨[]⟩
def r_k184_5 : List SOp := [⟨some 15,.move (.tmp 5),none⟩,⟨some 16,.call ⟨.value (.func 195),#[.tmp 15],#[5]⟩,none⟩,⟨some 17,.unOp .not 4 (.tmp 16),none⟩]
instance : Live r_k184_5 := ⟨[0,1,5]⟩
def r_k184_6 : List SOp := [⟨some 4,.assign (.const (.bool false)),none⟩]
instance : Live r_k184_6 := ⟨[]⟩
def r_k184_7 : List SOp := [⟨some 18,.move (.tmp 1),none⟩,⟨some 19,.binOp .eql 3 (.tmp 18) (.const (.int .i64 0)) 3,none⟩,⟨some 20,.move (.tmp 19),none⟩,⟨some 21,.move (.tmp 1),some ((some 20),false)⟩,⟨some 22,.move (.tmp 0),some ((some 20),false)⟩,⟨some 23,.call ⟨.builtin .len,#[.tmp 22],#[9]⟩,some ((some 20),false)⟩,⟨some 24,.binOp .sub 3 (.tmp 23) (.const (.int .i64 1)) 3,some ((some 20),false)⟩,⟨some 25,.binOp .eql 3 (.tmp 21) (.tmp 24) 3,some ((some 20),false)⟩,⟨some 26,.pick (.tmp 20) (.const (.bool true)) (.tmp 25),none⟩]
instance : Live r_k184_7 := ⟨[0,1]⟩
def r_k184_8 : List SOp := [⟨some 4,.assign (.const (.bool false)),none⟩]
instance : Live r_k184_8 := ⟨[]⟩
def r_k184_9 : List SOp := [⟨some 27,.move (.tmp 0),none⟩,⟨some 28,.move (.tmp 1),none⟩,⟨some 29,.binOp .sub 3 (.tmp 28) (.const (.int .i64 1)) 3,none⟩,⟨some 30,.index 9 (.tmp 27) (.tmp 29),none⟩,⟨some 31,.call ⟨.value (.func 195),#[.tmp 30],#[5]⟩,none⟩,⟨some 32,.unOp .not 4 (.tmp 31),none⟩,⟨some 4,.assign (.tmp 32),none⟩]
instance : Live r_k184_9 := ⟨[0,1]⟩
def t_k184 : SC :=
  (.seq (.ops false r_k184_1) (.seq (.ops false r_k184_2) (.seq (.seq (.ops false r_k184_3) (.cond (.tmp 14) (.seq (.ops false r_k184_4) .ret) .skip)) (.seq (.seq (.ops false r_k184_5) (.cond (.tmp 17) (.seq (.ops false r_k184_6) .ret) .skip)) (.seq (.seq (.ops false r_k184_7) (.cond (.tmp 26) (.seq (.ops false r_k184_8) .ret) .skip)) (.seq (.ops false r_k184_9) .ret))))))
theorem it_k184 : FnIs Tryz.prog 184 33 [.tmp 4] t_k184 := ⟨Tryz.f184, _, Tryz.func184, rfl, rfl, rfl, rfl, by kernel_rfl⟩

def r_k165_1 : List SOp := [⟨some 2,.assign (.const (.int .i64 0)),none⟩,⟨some 3,.assign (.const (.int .i64 0)),none⟩]
instance : Live r_k165_1 := ⟨[0]⟩
def r_k165_2 : List SOp := [⟨some 5,.move (.tmp 0),none⟩,⟨some 6,.call ⟨.builtin .len,#[.tmp 5],#[9]⟩,none⟩,⟨some 7,.binOp .eql 3 (.tmp 6) (.const (.int .i64 0)) 3,none⟩]
instance : Live r_k165_2 := ⟨[0]⟩
def r_k165_3 : List SOp := [⟨some 2,.assign (.const (.int .i64 0)),none⟩,⟨some 3,.assign (.const (.int .i64 20)),none⟩]
instance : Live r_k165_3 := ⟨[]⟩
def r_k165_4 : List SOp := [⟨some 8,.move (.tmp 0),none⟩,⟨some 9,.call ⟨.builtin .len,#[.tmp 8],#[9]⟩,none⟩,⟨some 10,.binOp .gtr 3 (.tmp 9) (.const (.int .i64 24)) 3,none⟩]
instance : Live r_k165_4 := ⟨[0]⟩
def r_k165_5 : List SOp := [⟨some 2,.assign (.const (.int .i64 0)),none⟩,⟨some 3,.assign (.const (.int .i64 21)),none⟩]
instance : Live r_k165_5 := ⟨[]⟩
def r_k165_6 : List SOp := [⟨some 4,.assign (.const (.int .i64 0)),none⟩]
instance : Live r_k165_6 := ⟨[0]⟩
def r_k165_7 : List SOp := [⟨some 11,.move (.tmp 4),none⟩,⟨some 12,.move (.tmp 0),none⟩,⟨some 13,.call ⟨.builtin .len,#[.tmp 12],#[9]⟩,none⟩,⟨some 14,.binOp .lss 3 (.tmp 11) (.tmp 13) 3,none⟩]
instance : Live r_k165_7 := ⟨[0,4]⟩
def r_k165_8 : List SOp := [⟨some 17,.move (.tmp 0),none⟩,⟨some 18,.move (.tmp 4),none⟩,⟨some 19,.call ⟨.value (.func 184),#[.tmp 17,.tmp 18],#[9,3]⟩,none⟩,⟨some 20,.unOp .not 4 (.tmp 19),none⟩]
instance : Live r_k165_8 := ⟨[0,4]⟩
def r_k165_9 : List SOp := [⟨some 21,.move (.tmp 4),none⟩,⟨some 2,.assign (.tmp 21),none⟩,⟨some 3,.assign (.const (.int .i64 22)),none⟩]
instance : Live r_k165_9 := ⟨[4]⟩
def r_k165_10 : List SOp := [⟨some 15,.move (.tmp 4),none⟩,⟨some 16,.binOp .add 3 (.tmp 15) (.const (.int .i64 1)) 3,none⟩,⟨some 4,.assign (.tmp 16),none⟩]
instance : Live r_k165_10 := ⟨[0,4]⟩
def r_k165_11 : List SOp := [⟨some 2,.assign (.const (.int .i64 0)),none⟩,⟨some 3,.assign (.const (.int .i64 0)),none⟩]
instance : Live r_k165_11 := ⟨[]⟩
def t_k165_l1 : SC :=
  (.seq (.seq (.ops false r_k165_7) (.cond (.tmp 14) .skip (.exit 0))) (.seq (.block 1 (.seq (.ops false r_k165_8) (.cond (.tmp 20) (.seq (.ops false r_k165_9) .ret) .skip))) (.ops false r_k165_10)))
def t_k165 : SC :=
  (.seq (.ops false r_k165_1) (.seq (.seq (.ops false r_k165_2) (.cond (.tmp 7) (.seq (.ops false r_k165_3) .ret) .skip)) (.seq (.seq (.ops false r_k165_4) (.cond (.tmp 10) (.seq (.ops false r_k165_5) .ret) .skip)) (.seq (.seq (.ops false r_k165_6) (.block 0 (.loop t_k165_l1))) (.seq (.ops false r_k165_11) .ret)))))
theorem it_k165 : FnIs Tryz.prog 165 22 [.tmp 2, .tmp 3] t_k165 := ⟨Tryz.f165, _, Tryz.func165, rfl, rfl, rfl, rfl, by kernel_rfl⟩

def r_k146_1 : List SOp := [⟨some 2,.assign (.const (.bool false)),none⟩]
instance : Live r_k146_1 := ⟨[0]⟩
def r_k146_2 : List SOp := [⟨some 6,.move (.tmp 0),none⟩,⟨some 7,.call ⟨.value (.func 165),#[.tmp 6],#[9]⟩,none⟩,⟨some 5,.move (.tmp 7),none⟩,⟨some 8,.extract (.tmp 5) 0,none⟩,⟨some 9,.extract (.tmp 5) 1,none⟩,⟨some 3,.assign (.tmp 8),none⟩,⟨some 4,.assign (.tmp 9),none⟩]
instance : Live r_k146_2 := ⟨[0]⟩
def r_k146_3 : List SOp := [⟨some 10,.move (.tmp 4),none⟩,⟨some 11,.binOp .eql 3 (.tmp 10) (.const (.int .i64 0)) 3,none⟩,⟨some 2,.assign (.tmp 11),none⟩]
instance : Live r_k146_3 := ⟨[4]⟩
def t_k146 : SC :=
  (.seq (.ops false r_k146_1) (.seq (.ops false r_k146_2) (.seq (.ops false r_k146_3) .ret)))
theorem it_k146 : FnIs Tryz.prog 146 12 [.tmp 2] t_k146 := ⟨Tryz.f146, _, Tryz.func146, rfl, rfl, rfl, rfl, by kernel_rfl⟩

def isLet (c : Int) : Bool := decide (65 ≤ c) && decide (c ≤ 90)
def isDig (c : Int) : Bool := decide (48 ≤ c) && decide (c ≤ 57)
def isMk (c : Int) : Bool := decide (c = 45) || decide (c = 46)
def byteAt (s : ByteArray) (i : Nat) : Int := match s[i]? with | some b => (b.toNat : Int) | none => 0
theorem byteAt_get {s : ByteArray} {i : Nat} (h : i < s.size) : ∃ b : UInt8, s[i]? = some b ∧ byteAt s i = (b.toNat : Int) := by
  have e : s[i]? = some s[i] := by
    rw [getElem?_pos s i h]
  exact ⟨s[i], e, by unfold byteAt; rw [e]⟩
def standS (s : ByteArray) (i : Nat) : Bool := (isLet (byteAt s i) || isDig (byteAt s i)) || (isMk (byteAt s i) && (!decide (i = 0) && (!decide (i = s.size - 1) && !isMk (byteAt s (i - 1)))))
def badS (s : ByteArray) : Option Nat := (List.range s.size).find? fun i => !standS s i
def chkS (s : ByteArray) : Int × Int := if s.size = 0 then (0, 20) else if 24 < s.size then (0, 21) else match badS s with | some i => (i, 22) | none => (0, 0)
def goodS (s : ByteArray) : Bool := decide ((chkS s).2 = 0)
theorem ev_k170 (c : Int) : Ev (En Tryz.prog rfl).P 170 [.int .u8 c] (.ret (.bool (isLet c))) := by
  refine Ev.of_body it_k170 (by simp) (Run.start ?_)
  unfold t_k170 isLet
  by_cases h1 : 65 ≤ c <;> by_cases h2 : c ≤ 90
  all_goals
    simp only [h1, h2, decide_true, decide_false, Bool.and_true, Bool.and_false, Bool.true_and, Bool.false_and]
    (focus (have hF := True.intro; (repeat' (first | refine go1 (k:=?_) | with_reducible refine Ny.of ?_ ?_ | (refine Hyp.of ?_; intro hc; (try simp only [hc]); (try simp only [Bh] at hc)))); all_goals clear hF))
    all_goals first | exact Fin.tmp' rfl rfl | (exfalso; omega)
theorem ev_k171 (c : Int) : Ev (En Tryz.prog rfl).P 171 [.int .u8 c] (.ret (.bool (isDig c))) := by
  refine Ev.of_body it_k171 (by simp) (Run.start ?_)
  unfold t_k171 isDig
  by_cases h1 : 48 ≤ c <;> by_cases h2 : c ≤ 57
  all_goals
    simp only [h1, h2, decide_true, decide_false, Bool.and_true, Bool.and_false, Bool.true_and, Bool.false_and]
    (focus (have hF := True.intro; (repeat' (first | refine go1 (k:=?_) | with_reducible refine Ny.of ?_ ?_ | (refine Hyp.of ?_; intro hc; (try simp only [hc]); (try simp only [Bh] at hc)))); all_goals clear hF))
    all_goals first | exact Fin.tmp' rfl rfl | (exfalso; omega)
theorem ev_k172 (c : Int) : Ev (En Tryz.prog rfl).P 172 [.int .u8 c] (.ret (.bool (isMk c))) := by
  refine Ev.of_body it_k172 (by simp) (Run.start ?_)
  unfold t_k172 isMk
  by_cases h1 : c = 45 <;> by_cases h2 : c = 46
  all_goals
    simp only [h1, h2, decide_true, decide_false, Bool.or_true, Bool.or_false, Bool.true_or, Bool.false_or]
    (focus (have hF := True.intro; (repeat' (first | refine go1 (k:=?_) | with_reducible refine Ny.of ?_ ?_ | (refine Hyp.of ?_; intro hc; (try simp only [hc]); (try simp only [Bh] at hc)))); all_goals clear hF))
    all_goals first | exact Fin.tmp' rfl rfl | (exfalso; omega)
theorem ev_k193 (c : Int) : Ev (En Tryz.prog rfl).P 193 [.int .u8 c] (.ret (.bool (isLet c))) := by
  refine Ev.of_body it_k193 (by simp) (Run.start ?_)
  unfold t_k193 isLet
  by_cases h1 : 65 ≤ c <;> by_cases h2 : c ≤ 90
  all_goals
    simp only [h1, h2, decide_true, decide_false, Bool.and_true, Bool.and_false, Bool.true_and, Bool.false_and]
    (focus (have hF := True.intro; (repeat' (first | refine go1 (k:=?_) | with_reducible refine Ny.of ?_ ?_ | (refine Hyp.of ?_; intro hc; (try simp only [hc]); (try simp only [Bh] at hc)))); all_goals clear hF))
    all_goals first | exact Fin.tmp' rfl rfl | (exfalso; omega)
theorem ev_k194 (c : Int) : Ev (En Tryz.prog rfl).P 194 [.int .u8 c] (.ret (.bool (isDig c))) := by
  refine Ev.of_body it_k194 (by simp) (Run.start ?_)
  unfold t_k194 isDig
  by_cases h1 : 48 ≤ c <;> by_cases h2 : c ≤ 57
  all_goals
    simp only [h1, h2, decide_true, decide_false, Bool.and_true, Bool.and_false, Bool.true_and, Bool.false_and]
    (focus (have hF := True.intro; (repeat' (first | refine go1 (k:=?_) | with_reducible refine Ny.of ?_ ?_ | (refine Hyp.of ?_; intro hc; (try simp only [hc]); (try simp only [Bh] at hc)))); all_goals clear hF))
    all_goals first | exact Fin.tmp' rfl rfl | (exfalso; omega)
theorem ev_k195 (c : Int) : Ev (En Tryz.prog rfl).P 195 [.int .u8 c] (.ret (.bool (isMk c))) := by
  refine Ev.of_body it_k195 (by simp) (Run.start ?_)
  unfold t_k195 isMk
  by_cases h1 : c = 45 <;> by_cases h2 : c = 46
  all_goals
    simp only [h1, h2, decide_true, decide_false, Bool.or_true, Bool.or_false, Bool.true_or, Bool.false_or]
    (focus (have hF := True.intro; (repeat' (first | refine go1 (k:=?_) | with_reducible refine Ny.of ?_ ?_ | (refine Hyp.of ?_; intro hc; (try simp only [hc]); (try simp only [Bh] at hc)))); all_goals clear hF))
    all_goals first | exact Fin.tmp' rfl rfl | (exfalso; omega)
theorem find_take {q : Nat → Bool} {n i : Nat} (hi : i < n) (h0 : ∀ j, j < i → q j = false) (h : q i = true) : (List.range n).find? q = some i := by
  rw [List.find?_eq_some_iff_getElem]
  refine ⟨h, i, by simpa using hi, by simp, fun j hj => by simp [h0 j hj]⟩
theorem find_none {q : Nat → Bool} {n : Nat} (h0 : ∀ j, j < n → q j = false) : (List.range n).find? q = none := by
  rw [List.find?_eq_none]
  intro j hj
  simp [h0 j (by simpa using hj)]
theorem chkS_bad {s : ByteArray} (h1 : ¬ s.size = 0) (h2 : ¬ 24 < s.size) {i : Nat} (hi : i < s.size) (h0 : ∀ j, j < i → standS s j = true) (h : standS s i = false) : chkS s = ((i : Int), 22) := by
  unfold chkS badS
  rw [if_neg h1, if_neg h2, find_take hi (fun j hj => by simp [h0 j hj]) (by simp [h])]
theorem chkS_ok {s : ByteArray} (h1 : ¬ s.size = 0) (h2 : ¬ 24 < s.size) (h0 : ∀ j, j < s.size → standS s j = true) : chkS s = (0, 0) := by
  unfold chkS badS
  rw [if_neg h1, if_neg h2, find_none (fun j hj => by simp [h0 j hj])]
theorem size_zero {s : ByteArray} : s = ByteArray.empty ↔ s.size = 0 := by
  constructor
  · intro h; rw [h]; rfl
  · intro h
    cases s with
    | mk d =>
      have : d = #[] := Array.eq_empty_of_size_eq_zero h
      rw [this]; rfl
theorem ev_k158 (s : ByteArray) : Ev (En Tryz.prog rfl).P 158 [.str s] (.ret (.tup [.int .i64 (chkS s).1, .int .i64 (chkS s).2])) := by
  refine Ev.of_body it_k158 (by simp) (Run.start ?_)
  unfold t_k158
  by_cases h1 : s.size = 0
  · have h1' : (s = (⟨#[]⟩ : ByteArray)) = True := eq_true (size_zero.2 h1)
    have : chkS s = (0, 20) := by unfold chkS; rw [if_pos h1]
    rw [this]
    (focus (have hF := @h1'; (repeat' (first | refine go1 (k:=?_) | with_reducible refine Ny.of ?_ ?_ | (refine Hyp.of ?_; intro hc; (try simp only [hc]); (try simp only [Bh] at hc)))); all_goals clear hF))
    exact Fin.all rfl rfl rfl
  · have h1' : (s = (⟨#[]⟩ : ByteArray)) = False := eq_false fun h => h1 (size_zero.1 h)
    by_cases h2 : 24 < s.size
    · have : chkS s = (0, 21) := by unfold chkS; rw [if_neg h1, if_pos h2]
      rw [this]
      (focus (have hF := @h1'; (repeat' (first | refine go1 (k:=?_) | with_reducible refine Ny.of ?_ ?_ | (refine Hyp.of ?_; intro hc; (try simp only [hc]); (try simp only [Bh] at hc)))); all_goals clear hF))
      exact Fin.all rfl rfl rfl
    · (focus (have hF := @h1'; (repeat' (first | refine go1 (k:=?_) | with_reducible refine Ny.of ?_ ?_ | (refine Hyp.of ?_; intro hc; (try simp only [hc]); (try simp only [Bh] at hc)))); all_goals clear hF))
      refine Run.while (σ := Nat) (fun i => ⟨tms [(0, .str s), (12, .int .i64 (s.size : Int)), (13, .int .i64 (i : Int))], mms []⟩) (fun i => i ≤ s.size ∧ ∀ j, j < i → standS s j = true) (fun i => s.size - i) 0 (have hW := True.intro; stWk) ⟨Nat.zero_le _, fun j hj => absurd hj (Nat.not_lt_zero _)⟩ ?_
      rintro i ⟨hi, hp⟩
      unfold t_k158_l1
      by_cases hlt : i < s.size
      · obtain ⟨b, hb, hbe⟩ := byteAt_get hlt
        have hok : standS s i = true → ∀ j, j < i + 1 → standS s j = true := fun h j hj => by
          by_cases e : j = i
          · rw [e]; exact h
          · exact hp j (by omega)
        have hbad := chkS_bad h1 h2 hlt hp
        have c1 := ev_k170 (b.toNat : Int)
        have c2 := ev_k171 (b.toNat : Int)
        have c3 := ev_k172 (b.toNat : Int)
        unfold standS at hok hbad
        rw [hbe] at hok hbad
        generalize isLet (b.toNat : Int) = v1 at c1 hok hbad
        generalize isDig (b.toNat : Int) = v2 at c2 hok hbad
        generalize isMk (b.toNat : Int) = v3 at c3 hok hbad
        (focus (have hF := @hb; (repeat' (first | refine go1 (k:=?_) | with_reducible refine Ny.of ?_ ?_ | (refine Hyp.of ?_; intro hc; (try simp only [hc]); (try simp only [Bh] at hc)))); all_goals clear hF))
        refine stCall [.int .u8 (b.toNat : Int)] (he := c1) (k:=?_)
        cases v1
        case' true =>
          have hn := hok (by simp)
          (focus (have hF := @hb; (repeat' (first | refine go1 (k:=?_) | with_reducible refine Ny.of ?_ ?_ | (refine Hyp.of ?_; intro hc; (try simp only [hc]); (try simp only [Bh] at hc)))); all_goals clear hF))
          (refine Fin.nextW (i + 1) ?_ (have hW := True.intro; stWk); (try dsimp only))
          exact ⟨⟨hlt, hn⟩, by omega⟩
        case' false =>
          (focus (have hF := @hb; (repeat' (first | refine go1 (k:=?_) | with_reducible refine Ny.of ?_ ?_ | (refine Hyp.of ?_; intro hc; (try simp only [hc]); (try simp only [Bh] at hc)))); all_goals clear hF))
          refine stCall [.int .u8 (b.toNat : Int)] (he := c2) (k:=?_)
          cases v2
          case' true =>
            have hn := hok (by simp)
            (focus (have hF := @hb; (repeat' (first | refine go1 (k:=?_) | with_reducible refine Ny.of ?_ ?_ | (refine Hyp.of ?_; intro hc; (try simp only [hc]); (try simp only [Bh] at hc)))); all_goals clear hF))
            (refine Fin.nextW (i + 1) ?_ (have hW := True.intro; stWk); (try dsimp only))
            exact ⟨⟨hlt, hn⟩, by omega⟩
          case' false =>
            (focus (have hF := @hb; (repeat' (first | refine go1 (k:=?_) | with_reducible refine Ny.of ?_ ?_ | (refine Hyp.of ?_; intro hc; (try simp only [hc]); (try simp only [Bh] at hc)))); all_goals clear hF))
            refine stCall [.int .u8 (b.toNat : Int)] (he := c3) (k:=?_)
            cases v3
            case' false =>
              rw [hbad (by simp)]
              (focus (have hF := @hb; (repeat' (first | refine go1 (k:=?_) | with_reducible refine Ny.of ?_ ?_ | (refine Hyp.of ?_; intro hc; (try simp only [hc]); (try simp only [Bh] at hc)))); all_goals clear hF))
              exact Fin.all rfl rfl rfl
            case' true =>
              by_cases i0 : i = 0
              · rw [hbad (by simp [i0])]
                subst i0
                (focus (have hF := @hb; (repeat' (first | refine go1 (k:=?_) | with_reducible refine Ny.of ?_ ?_ | (refine Hyp.of ?_; intro hc; (try simp only [hc]); (try simp only [Bh] at hc)))); all_goals clear hF))
                exact Fin.all rfl rfl rfl
              · by_cases i1 : i = s.size - 1
                · rw [hbad (by simp [i1])]
                  have i1' : (i : Int) = (s.size : Int) - 1 := by omega
                  have i0' : ¬ (i : Int) = 0 := by omega
                  have i2' : IntKind.i64.wrap ((s.size : Int) - 1) = (i : Int) := by rw [wrap_ok (by omega)]; omega
                  (focus (have hF := (And.intro @hb (And.intro @i0' @i2')); (repeat' (first | refine go1 (k:=?_) | with_reducible refine Ny.of ?_ ?_ | (refine Hyp.of ?_; intro hc; (try simp only [hc]); (try simp only [Bh] at hc)))); all_goals clear hF))
                  exact Fin.all rfl rfl rfl
                · have i0' : ¬ (i : Int) = 0 := by omega
                  have i1' : ¬ (i : Int) = (s.size : Int) - 1 := by omega
                  obtain ⟨c, hc, hce⟩ := byteAt_get (s := s) (i := i - 1) (by omega)
                  have c4 := ev_k172 (c.toNat : Int)
                  have hpw : IntKind.i64.wrap ((i : Int) - 1) = ((i - 1 : Nat) : Int) := by rw [wrap_ok (by omega)]; omega
                  rw [hce] at hok hbad
                  generalize isMk (c.toNat : Int) = v4 at c4 hok hbad
                  (focus (have hF := (And.intro (And.intro @hb @i0') (And.intro @i1' (And.intro @hpw @hc))); (repeat' (first | refine go1 (k:=?_) | with_reducible refine Ny.of ?_ ?_ | (refine Hyp.of ?_; intro hc; (try simp only [hc]); (try simp only [Bh] at hc)))); all_goals clear hF))
                  refine stCall [.int .u8 (c.toNat : Int)] (he := c4) (k:=?_)
                  cases v4
                  · have hn := hok (by simp [i0, i1])
                    (focus (have hF := @hb; (repeat' (first | refine go1 (k:=?_) | with_reducible refine Ny.of ?_ ?_ | (refine Hyp.of ?_; intro hc; (try simp only [hc]); (try simp only [Bh] at hc)))); all_goals clear hF))
                    (refine Fin.nextW (i + 1) ?_ (have hW := True.intro; stWk); (try dsimp only))
                    exact ⟨⟨hlt, hn⟩, by omega⟩
                  · rw [hbad (by simp)]
                    (focus (have hF := @hb; (repeat' (first | refine go1 (k:=?_) | with_reducible refine Ny.of ?_ ?_ | (refine Hyp.of ?_; intro hc; (try simp only [hc]); (try simp only [Bh] at hc)))); all_goals clear hF))
                    exact Fin.all rfl rfl rfl
      · rw [chkS_ok h1 h2 fun j hj => hp j (by omega)]
        (focus (have hF := True.intro; (repeat' (first | refine go1 (k:=?_) | with_reducible refine Ny.of ?_ ?_ | (refine Hyp.of ?_; intro hc; (try simp only [hc]); (try simp only [Bh] at hc)))); all_goals clear hF))
        exact Fin.all rfl rfl rfl
theorem ev_k137 (s : ByteArray) : Ev (En Tryz.prog rfl).P 137 [.str s] (.ret (.bool (goodS s))) := by
  refine Ev.of_body it_k137 (by simp) (Run.start ?_)
  unfold t_k137 goodS
  (focus (have hF := True.intro; (repeat' (first | refine go1 (k:=?_) | with_reducible refine Ny.of ?_ ?_ | (refine Hyp.of ?_; intro hc; (try simp only [hc]); (try simp only [Bh] at hc)))); all_goals clear hF))
  refine stCall [.str s] (he := ev_k158 s) (k:=?_)
  (focus (have hF := True.intro; (repeat' (first | refine go1 (k:=?_) | with_reducible refine Ny.of ?_ ?_ | (refine Hyp.of ?_; intro hc; (try simp only [hc]); (try simp only [Bh] at hc)))); all_goals clear hF))
  exact Fin.tmp' rfl rfl
theorem ev_k184 (s : ByteArray) (i : Nat) (hi : i < s.size) (hs : s.size ≤ 1000000) : Ev (En Tryz.prog rfl).P 184 [.str s, .int .i64 (i : Int)] (.ret (.bool (standS s i))) := by
  refine Ev.of_body it_k184 (by simp) (Run.start ?_)
  unfold t_k184 standS
  obtain ⟨b, hb, hbe⟩ := byteAt_get hi
  rw [hbe]
  have c1 := ev_k193 (b.toNat : Int)
  have c2 := ev_k194 (b.toNat : Int)
  have c3 := ev_k195 (b.toNat : Int)
  generalize isLet (b.toNat : Int) = v1 at c1 ⊢
  generalize isDig (b.toNat : Int) = v2 at c2 ⊢
  generalize isMk (b.toNat : Int) = v3 at c3 ⊢
  (focus (have hF := @hb; (repeat' (first | refine go1 (k:=?_) | with_reducible refine Ny.of ?_ ?_ | (refine Hyp.of ?_; intro hc; (try simp only [hc]); (try simp only [Bh] at hc)))); all_goals clear hF))
  refine stCall [.int .u8 (b.toNat : Int)] (he := c1) (k:=?_)
  cases v1
  case' true =>
    (focus (have hF := @hb; (repeat' (first | refine go1 (k:=?_) | with_reducible refine Ny.of ?_ ?_ | (refine Hyp.of ?_; intro hc; (try simp only [hc]); (try simp only [Bh] at hc)))); all_goals clear hF))
    exact Fin.tmp' rfl rfl
  case' false =>
    (focus (have hF := @hb; (repeat' (first | refine go1 (k:=?_) | with_reducible refine Ny.of ?_ ?_ | (refine Hyp.of ?_; intro hc; (try simp only [hc]); (try simp only [Bh] at hc)))); all_goals clear hF))
    refine stCall [.int .u8 (b.toNat : Int)] (he := c2) (k:=?_)
    cases v2
    case' true =>
      (focus (have hF := @hb; (repeat' (first | refine go1 (k:=?_) | with_reducible refine Ny.of ?_ ?_ | (refine Hyp.of ?_; intro hc; (try simp only [hc]); (try simp only [Bh] at hc)))); all_goals clear hF))
      exact Fin.tmp' rfl rfl
    case' false =>
      (focus (have hF := @hb; (repeat' (first | refine go1 (k:=?_) | with_reducible refine Ny.of ?_ ?_ | (refine Hyp.of ?_; intro hc; (try simp only [hc]); (try simp only [Bh] at hc)))); all_goals clear hF))
      refine stCall [.int .u8 (b.toNat : Int)] (he := c3) (k:=?_)
      cases v3
      case' false =>
        (focus (have hF := @hb; (repeat' (first | refine go1 (k:=?_) | with_reducible refine Ny.of ?_ ?_ | (refine Hyp.of ?_; intro hc; (try simp only [hc]); (try simp only [Bh] at hc)))); all_goals clear hF))
        exact Fin.tmp' rfl rfl
      case' true =>
        by_cases i0 : i = 0
        · subst i0
          (focus (have hF := @hb; (repeat' (first | refine go1 (k:=?_) | with_reducible refine Ny.of ?_ ?_ | (refine Hyp.of ?_; intro hc; (try simp only [hc]); (try simp only [Bh] at hc)))); all_goals clear hF))
          exact Fin.tmp' rfl rfl
        · by_cases i1 : i = s.size - 1
          · have e : (false || false || (true && (!decide (i = 0) && (!decide (i = s.size - 1) && !isMk (byteAt s (i - 1)))))) = false := by simp [i1]
            rw [e]
            (focus (have hF := @hb; (repeat' (first | refine go1 (k:=?_) | with_reducible refine Ny.of ?_ ?_ | (refine Hyp.of ?_; intro hc; (try simp only [hc]); (try simp only [Bh] at hc)))); all_goals clear hF))
            all_goals first | exact Fin.tmp' rfl rfl | (exfalso; omega)
          · obtain ⟨c, hc, hce⟩ := byteAt_get (s := s) (i := i - 1) (by omega)
            have c4 := ev_k195 (c.toNat : Int)
            have hpw : IntKind.i64.wrap ((i : Int) - 1) = ((i - 1 : Nat) : Int) := by rw [wrap_ok (by omega)]; omega
            rw [hce]
            generalize isMk (c.toNat : Int) = v4 at c4 ⊢
            have e : (false || false || (true && (!decide (i = 0) && (!decide (i = s.size - 1) && !v4)))) = !v4 := by simp [i0, i1]
            rw [e]
            have i1' : ¬ (i : Int) = (s.size : Int) - 1 := by omega
            (focus (have hF := (And.intro (And.intro @hb @i1') (And.intro @hpw @hc)); (repeat' (first | refine go1 (k:=?_) | with_reducible refine Ny.of ?_ ?_ | (refine Hyp.of ?_; intro hc; (try simp only [hc]); (try simp only [Bh] at hc)))); all_goals clear hF))
            refine stCall [.int .u8 (c.toNat : Int)] (he := c4) (k:=?_)
            (focus (have hF := @hb; (repeat' (first | refine go1 (k:=?_) | with_reducible refine Ny.of ?_ ?_ | (refine Hyp.of ?_; intro hc; (try simp only [hc]); (try simp only [Bh] at hc)))); all_goals clear hF))
            exact Fin.tmp' rfl rfl
theorem ev_k165 (s : ByteArray) : Ev (En Tryz.prog rfl).P 165 [.str s] (.ret (.tup [.int .i64 (chkS s).1, .int .i64 (chkS s).2])) := by
  refine Ev.of_body it_k165 (by simp) (Run.start ?_)
  unfold t_k165
  by_cases h1 : s.size = 0
  · have : chkS s = (0, 20) := by unfold chkS; rw [if_pos h1]
    rw [this]
    have h1' : ((s.size : Int) = 0) = True := eq_true (by omega)
    (focus (have hF := @h1'; (repeat' (first | refine go1 (k:=?_) | with_reducible refine Ny.of ?_ ?_ | (refine Hyp.of ?_; intro hc; (try simp only [hc]); (try simp only [Bh] at hc)))); all_goals clear hF))
    exact Fin.all rfl rfl rfl
  · by_cases h2 : 24 < s.size
    · have : chkS s = (0, 21) := by unfold chkS; rw [if_neg h1, if_pos h2]
      rw [this]
      (focus (have hF := True.intro; (repeat' (first | refine go1 (k:=?_) | with_reducible refine Ny.of ?_ ?_ | (refine Hyp.of ?_; intro hc; (try simp only [hc]); (try simp only [Bh] at hc)))); all_goals clear hF))
      exact Fin.all rfl rfl rfl
    · (focus (have hF := True.intro; (repeat' (first | refine go1 (k:=?_) | with_reducible refine Ny.of ?_ ?_ | (refine Hyp.of ?_; intro hc; (try simp only [hc]); (try simp only [Bh] at hc)))); all_goals clear hF))
      refine Run.while (σ := Nat) (fun i => ⟨tms [(0, .str s), (4, .int .i64 (i : Int))], mms []⟩) (fun i => i ≤ s.size ∧ ∀ j, j < i → standS s j = true) (fun i => s.size - i) 0 (have hW := True.intro; stWk) ⟨Nat.zero_le _, fun j hj => absurd hj (Nat.not_lt_zero _)⟩ ?_
      rintro i ⟨hi, hp⟩
      unfold t_k165_l1
      by_cases hlt : i < s.size
      · have hok : standS s i = true → ∀ j, j < i + 1 → standS s j = true := fun h j hj => by
          by_cases e : j = i
          · rw [e]; exact h
          · exact hp j (by omega)
        have hbad := chkS_bad h1 h2 hlt hp
        have c1 := ev_k184 s i hlt (by omega)
        generalize standS s i = v at c1 hok hbad
        (focus (have hF := True.intro; (repeat' (first | refine go1 (k:=?_) | with_reducible refine Ny.of ?_ ?_ | (refine Hyp.of ?_; intro hc; (try simp only [hc]); (try simp only [Bh] at hc)))); all_goals clear hF))
        refine stCall [.str s, .int .i64 (i : Int)] (he := c1) (k:=?_)
        cases v
        · rw [hbad rfl]
          (focus (have hF := True.intro; (repeat' (first | refine go1 (k:=?_) | with_reducible refine Ny.of ?_ ?_ | (refine Hyp.of ?_; intro hc; (try simp only [hc]); (try simp only [Bh] at hc)))); all_goals clear hF))
          exact Fin.all rfl rfl rfl
        · have hn := hok rfl
          (focus (have hF := True.intro; (repeat' (first | refine go1 (k:=?_) | with_reducible refine Ny.of ?_ ?_ | (refine Hyp.of ?_; intro hc; (try simp only [hc]); (try simp only [Bh] at hc)))); all_goals clear hF))
          (refine Fin.nextW (i + 1) ?_ (have hW := True.intro; stWk); (try dsimp only))
          exact ⟨⟨hlt, hn⟩, by omega⟩
      · rw [chkS_ok h1 h2 fun j hj => hp j (by omega)]
        (focus (have hF := True.intro; (repeat' (first | refine go1 (k:=?_) | with_reducible refine Ny.of ?_ ?_ | (refine Hyp.of ?_; intro hc; (try simp only [hc]); (try simp only [Bh] at hc)))); all_goals clear hF))
        exact Fin.all rfl rfl rfl
theorem ev_k146 (s : ByteArray) : Ev (En Tryz.prog rfl).P 146 [.str s] (.ret (.bool (goodS s))) := by
  refine Ev.of_body it_k146 (by simp) (Run.start ?_)
  unfold t_k146 goodS
  (focus (have hF := True.intro; (repeat' (first | refine go1 (k:=?_) | with_reducible refine Ny.of ?_ ?_ | (refine Hyp.of ?_; intro hc; (try simp only [hc]); (try simp only [Bh] at hc)))); all_goals clear hF))
  refine stCall [.str s] (he := ev_k165 s) (k:=?_)
  (focus (have hF := True.intro; (repeat' (first | refine go1 (k:=?_) | with_reducible refine Ny.of ?_ ?_ | (refine Hyp.of ?_; intro hc; (try simp only [hc]); (try simp only [Bh] at hc)))); all_goals clear hF))
  exact Fin.tmp' rfl rfl

def bs (s : ByteArray) : List Int := s.data.toList.map fun b => (b.toNat : Int)
def cmpB (a b : ByteArray) : Int := lexI (bs a) (bs b)
theorem cmpBytes_lex : ∀ a b : List UInt8, Go.Lib.compareBytes a b = lexI (a.map fun b => (b.toNat : Int)) (b.map fun b => (b.toNat : Int))
  | [], [] => rfl
  | [], _ :: _ => rfl
  | _ :: _, [] => rfl
  | x :: a, y :: b => by
    have ih := cmpBytes_lex a b
    unfold Go.Lib.compareBytes
    simp only [List.map_cons]
    unfold lexI
    rw [ih]
    by_cases h1 : x < y
    · have h2 : ((x.toNat : Int) < (y.toNat : Int)) := by have := UInt8.lt_iff_toNat_lt.1 h1; omega
      rw [if_pos h1, if_pos h2]
    · have h2 : ¬ ((x.toNat : Int) < (y.toNat : Int)) := fun h => h1 (UInt8.lt_iff_toNat_lt.2 (by omega))
      rw [if_neg h1, if_neg h2]
      by_cases h3 : y < x
      · have h4 : ((y.toNat : Int) < (x.toNat : Int)) := by have := UInt8.lt_iff_toNat_lt.1 h3; omega
        rw [if_pos h3, if_pos h4]
      · have h4 : ¬ ((y.toNat : Int) < (x.toNat : Int)) := fun h => h3 (UInt8.lt_iff_toNat_lt.2 (by omega))
        rw [if_neg h3, if_neg h4]
theorem less_lex : ∀ a b : List UInt8, Op.bytesLess a b = decide (lexI (a.map fun b => (b.toNat : Int)) (b.map fun b => (b.toNat : Int)) < 0)
  | [], [] => rfl
  | [], _ :: _ => rfl
  | _ :: _, [] => rfl
  | x :: a, y :: b => by
    have ih := less_lex a b
    unfold Op.bytesLess
    simp only [List.map_cons]
    unfold lexI
    rw [ih]
    by_cases h1 : x < y
    · have h2 : ((x.toNat : Int) < (y.toNat : Int)) := by have := UInt8.lt_iff_toNat_lt.1 h1; omega
      rw [if_pos h2]
      simp [h1]
    · have h2 : ¬ ((x.toNat : Int) < (y.toNat : Int)) := fun h => h1 (UInt8.lt_iff_toNat_lt.2 (by omega))
      rw [if_neg h2]
      by_cases h3 : y < x
      · have h4 : ((y.toNat : Int) < (x.toNat : Int)) := by have := UInt8.lt_iff_toNat_lt.1 h3; omega
        have h5 : ¬ x = y := fun e => by rw [e] at h4; omega
        rw [if_pos h4]
        simp [h1, h5]
      · have h4 : ¬ ((y.toNat : Int) < (x.toNat : Int)) := fun h => h3 (UInt8.lt_iff_toNat_lt.2 (by omega))
        have h5 : x = y := UInt8.toNat_inj.1 (by omega)
        rw [if_neg h4]
        subst h5
        simp [h1]
theorem toList_data (s : ByteArray) : s.toList = s.data.toList := by
  have := ByteArray.toList_eq (bs := s)
  exact this
theorem cmpB_less (a b : ByteArray) : Op.bytesLess a.toList b.toList = decide (cmpB a b < 0) := by
  rw [toList_data, toList_data, less_lex]
  rfl
theorem bs_inj {a b : ByteArray} (h : bs a = bs b) : a = b := by
  have : ∀ l m : List UInt8, l.map (fun b => (b.toNat : Int)) = m.map (fun b => (b.toNat : Int)) → l = m := by
    intro l
    induction l with
    | nil => intro m h; cases m with | nil => rfl | cons y m => simp at h
    | cons x l ih =>
      intro m h
      cases m with
      | nil => simp at h
      | cons y m =>
        simp only [List.map_cons, List.cons.injEq] at h
        rw [ih m h.2, show x = y from UInt8.toNat_inj.1 (by omega)]
  cases a with
  | mk da => cases b with
    | mk db =>
      have := this _ _ h
      congr 1
      exact Array.toList_inj.1 this
theorem cmpB_zero {a b : ByteArray} : cmpB a b = 0 ↔ a = b := ⟨fun h => bs_inj (lexI_eq h), fun h => by rw [h]; exact lexI_self _⟩
structure Ent where
  rep : Int
  num : Int
  sku : ByteArray
  qty : Int
structure Rec where
  sku : ByteArray
  past : Pst
def encE (e : Ent) : AVal := .agg [.int .i64 e.rep, .int .i64 e.num, .str e.sku, .int .i64 e.qty]
def encK (r : Rec) : AVal := .agg [.str r.sku, .sl 1 (encIs r.past.vec), .sl 3 (encSs r.past.cloud)]
def encEs (l : List Ent) : List AVal := l.map encE
def encKs (l : List Rec) : List AVal := l.map encK
theorem encE_stb (e : Ent) : (encE e).stb = true := rfl
theorem encK_stb (r : Rec) : (encK r).stb = true := by simp [encK, AVal.stb, stbs, encIs_stb, encSs_stb]
theorem encEs_stb (l : List Ent) : stbs (encEs l) = true := stbs_map encE_stb
theorem encKs_stb (l : List Rec) : stbs (encKs l) = true := stbs_map encK_stb
theorem stbK : (∀ e, (encE e).stb = true) ∧ (∀ r, (encK r).stb = true) ∧ (∀ l, stbs (encEs l) = true) ∧ (∀ l, stbs (encKs l) = true) := ⟨encE_stb, encK_stb, encEs_stb, encKs_stb⟩
theorem encEs_len (l : List Ent) : (encEs l).length = l.length := by simp [encEs]
theorem encKs_len (l : List Rec) : (encKs l).length = l.length := by simp [encKs]
theorem encEs_get {l : List Ent} {i : Nat} {e : Ent} (h : l[i]? = some e) : (encEs l)[i]? = some (.agg [.int .i64 e.rep, .int .i64 e.num, .str e.sku, .int .i64 e.qty]) := by simp [encEs, h, encE]
theorem encKs_get {l : List Rec} {i : Nat} {r : Rec} (h : l[i]? = some r) : (encKs l)[i]? = some (.agg [.str r.sku, .sl 1 (encIs r.past.vec), .sl 3 (encSs r.past.cloud)]) := by simp [encKs, h, encK]
theorem encEs_snoc (l : List Ent) (a b : Int) (s : ByteArray) (q : Int) : encEs l ++ [.agg [.int .i64 a, .int .i64 b, .str s, .int .i64 q]] = encEs (l ++ [⟨a, b, s, q⟩]) := by simp [encEs, encE]
theorem encKs_snoc (l : List Rec) (s : ByteArray) (v : List Int) (c : List Sn) : encKs l ++ [.agg [.str s, .sl 1 (encIs v), .sl 3 (encSs c)]] = encKs (l ++ [⟨s, ⟨v, c⟩⟩]) := by simp [encKs, encK]
def dotLt (a b : Rn) : Bool := decide (a.1 < b.1) || (decide (a.1 = b.1) && decide (a.2 < b.2))
def Ent.dot (e : Ent) : Rn := (e.rep, e.num)
def entErr (e : Ent) : Int := if e.rep < 0 ∨ 16 ≤ e.rep then 3 else if e.num < 1 ∨ 1000000000 < e.num then 2 else if goodS e.sku = false then 5 else if e.qty < 1 ∨ 1000000 < e.qty then 6 else 0
def FormE (l : List Ent) : Prop := (∀ (i : Nat) e, l[i]? = some e → entErr e = 0) ∧ ∀ (i : Nat) a b, l[i]? = some a → l[i + 1]? = some b → dotLt a.dot b.dot = true
open Classical in
noncomputable def formE (l : List Ent) : Bool := decide (FormE l)
theorem formE_true {l : List Ent} (h : FormE l) : formE l = true := by classical exact decide_eq_true h
theorem formE_false {l : List Ent} (h : ¬ FormE l) : formE l = false := by classical exact decide_eq_false h
theorem formE_iff {l : List Ent} : formE l = true ↔ FormE l := by classical exact decide_eq_true_iff
def cmpR (a b : Rec) : Int := if cmpB a.sku b.sku = 0 then cmpP a.past b.past else cmpB a.sku b.sku
def recErr (r : Rec) : Int := if ¬ r.sku.size = 0 ∧ goodS r.sku = false then 5 else if isNormP r.past = false ∨ sizeP r.past = 0 then 1 else 0
def FormK (l : List Rec) : Prop := (∀ (i : Nat) r, l[i]? = some r → recErr r = 0) ∧ ∀ (i : Nat) a b, l[i]? = some a → l[i + 1]? = some b → cmpR a b < 0
open Classical in
noncomputable def formK (l : List Rec) : Bool := decide (FormK l)
theorem formK_true {l : List Rec} (h : FormK l) : formK l = true := by classical exact decide_eq_true h
theorem formK_false {l : List Rec} (h : ¬ FormK l) : formK l = false := by classical exact decide_eq_false h
theorem formK_iff {l : List Rec} : formK l = true ↔ FormK l := by classical exact decide_eq_true_iff
def wtK (r : Rec) : Nat := wt r.past + 1
def wtKs (l : List Rec) : Nat := (l.map wtK).sum
theorem wtK_le {l : List Rec} {r : Rec} (h : r ∈ l) : wtK r ≤ wtKs l := by
  unfold wtKs
  obtain ⟨i, hi, rfl⟩ := List.getElem_of_mem h
  have := sum_get (l.map wtK) i
  simpa [List.getD_eq_getElem?_getD, hi] using this
theorem wtKs_len (l : List Rec) : l.length ≤ wtKs l := by
  induction l with
  | nil => exact Nat.zero_le _
  | cons r l ih =>
    unfold wtKs at *
    simp only [List.map_cons, List.sum_cons, List.length_cons, wtK]
    omega

section
open Go.Proofs Go.Shelf Go.RowKit Go.Lib Go.Sort
theorem cmpB_ng (a b : ByteArray) : cmpB b a = - cmpB a b := lexI_neg _ _
theorem cmpP_neg (p q : Pst) : cmpP q p = - cmpP p q := lexI_neg _ _
theorem cmpR_neg (a b : Rec) : cmpR b a = - cmpR a b := by
  unfold cmpR
  rw [cmpB_ng a.sku b.sku, cmpP_neg a.past b.past]
  by_cases h : cmpB a.sku b.sku = 0
  · rw [if_pos (by omega), if_pos h]
  · rw [if_neg (by omega), if_neg h]
theorem cmpR_self (a : Rec) : cmpR a a = 0 := by
  unfold cmpR
  rw [if_pos (cmpB_zero.2 rfl)]
  exact cmpP_zero.2 rfl
theorem cmpR_le {a b c : Rec} (h1 : cmpR a b ≤ 0) (h2 : cmpR b c ≤ 0) : cmpR a c ≤ 0 := by
  have s1 : cmpB a.sku b.sku ≤ 0 := by
    unfold cmpR at h1
    split at h1
    · omega
    · exact h1
  have s2 : cmpB b.sku c.sku ≤ 0 := by
    unfold cmpR at h2
    split at h2
    · omega
    · exact h2
  have s3 : cmpB a.sku c.sku ≤ 0 := lexI_trans s1 s2
  by_cases h : cmpB a.sku c.sku = 0
  · have e := cmpB_zero.1 h
    have s4 : cmpB a.sku b.sku = 0 := by
      have := cmpB_ng b.sku c.sku
      rw [← e] at this s2
      omega
    have s5 : cmpB b.sku c.sku = 0 := by rw [← cmpB_zero.1 s4]; exact h
    unfold cmpR at h1 h2 ⊢
    rw [if_pos s4] at h1
    rw [if_pos s5] at h2
    rw [if_pos h]
    exact lexI_trans h1 h2
  · unfold cmpR
    rw [if_neg h]
    exact s3
theorem cmpR_lt {a b c : Rec} (h1 : cmpR a b < 0) (h2 : cmpR b c < 0) : cmpR a c < 0 := by
  have h3 := cmpR_le (a := a) (b := b) (c := c) (by omega) (by omega)
  rcases Int.lt_or_eq_of_le h3 with h | h
  · exact h
  · have h4 := cmpR_le (a := b) (b := c) (c := a) (by omega) (by have := cmpR_neg a c; omega)
    have := cmpR_neg a b
    omega
def CanR (r : Rec) : Prop := normP r.past = r.past
def SrtR (l : List Rec) : Prop := l.Pairwise fun a b => cmpR a b < 0
theorem SrtR.ext : ∀ {l m : List Rec}, SrtR l → SrtR m → (∀ x, x ∈ l ↔ x ∈ m) → l = m
  | [], [], _, _, _ => rfl
  | [], y :: m, _, _, h => absurd ((h y).2 (by simp)) (by simp)
  | x :: l, [], _, _, h => absurd ((h x).1 (by simp)) (by simp)
  | x :: l, y :: m, hl, hm, h => by
    unfold SrtR at hl hm
    rw [List.pairwise_cons] at hl hm
    have irr : ∀ a : Rec, ¬ cmpR a a < 0 := fun a => by rw [cmpR_self]; omega
    have e : x = y := by
      rcases List.mem_cons.1 ((h x).1 (by simp)) with e | e
      · exact e
      · rcases List.mem_cons.1 ((h y).2 (by simp)) with e' | e'
        · exact e'.symm
        · have h1 := hm.1 x e
          have h2 := hl.1 y e'
          exact absurd (cmpR_lt h1 h2) (irr _)
    subst e
    have : l = m := by
      refine SrtR.ext hl.2 hm.2 fun z => ⟨fun hz => ?_, fun hz => ?_⟩
      · rcases List.mem_cons.1 ((h z).1 (by simp [hz])) with e | e
        · subst e; exact absurd (hl.1 z hz) (irr z)
        · exact e
      · rcases List.mem_cons.1 ((h z).2 (by simp [hz])) with e | e
        · subst e; exact absurd (hm.1 z hz) (irr z)
        · exact e
    rw [this]
def insR (x : Rec) : List Rec → List Rec
  | [] => [x]
  | y :: l => if cmpR x y < 0 then x :: y :: l else if cmpR x y = 0 then y :: l else y :: insR x l
def ordR : List Rec → List Rec
  | [] => []
  | x :: l => insR x (ordR l)
end

def NewQ (t : Tmp) (cs : List AVal) : Ex → AS → Prop
  | .ret, s => ∃ k, s.T t = .ptr k 0 ∧ s.M k = some (.cells cs) ∧ stbs cs = true
  | _, _ => False
theorem results_one {P : Program} {fn : Func} {t : Tmp} (hrs : fn.results.toList = [.tmp t]) (tm : Array Value) (w : World) : (results fn tm).run P w = .ok (tm.getD t undef) w := by
  have hm : (fn.results.mapM (fun r => match r with | .tmp t => pure (tm.getD t undef) | .cell c t => do loadVar t (← asAddr (tm.getD c undef)) : ResultVar → Sem Value)).run P w = .ok #[tm.getD t undef] w := by
    rw [Array.mapM_eq_mapM_toList, hrs]
    simp only [Sem.run_map, List.mapM_cons, List.mapM_nil, Sem.run_bind, Sem.run_pure, Result.andThen]
  unfold results
  simp only [Sem.run_bind]
  refine Eq.trans (congrArg (fun r => Result.andThen r _) hm) ?_
  simp [Result.andThen]
theorem EvNew.of_body {E : Env} {f : FuncId} {n : Nat} {t : Tmp} {sc : SC} (hf : FnIs E.P f n [.tmp t] sc) {args cs : List AVal} (hl : args.length ≤ n)
    (h : AW E n sc (NewQ t cs) ⟨initT args, NoM⟩) : EvNew E.P f args cs := by
  obtain ⟨fn, c, h1, h2, h3, rfl, hrs, h6⟩ := hf
  refine ⟨⟨fn, h1, h2, by simp [h3]⟩, fun B w vs G hG hsz hv hB => ?_⟩
  refine calls_of_wp h1 h3 ?_
  have hR : Rel fn.ntmps B G ⟨initT args, NoM⟩ { tmps := vs ++ Array.replicate (fn.ntmps - vs.size) undef, defers := [] } w := by
    refine ⟨by simp; omega, rfl, fun t => ?_, fun k blk hk => by simp [NoM] at hk, fun b hb => ⟨hB b hb, hG b⟩, fun b hb => absurd (hG b) hb⟩
    simp only [initT]
    cases ht : args[t]? with
    | none => exact .undef _
    | some x =>
      have hlt : t < vs.size := by
        rw [hsz]
        rcases Nat.lt_or_ge t args.length with h' | h'
        · exact h'
        · rw [List.getElem?_eq_none h'] at ht; cases ht
      have : (vs ++ Array.replicate (fn.ntmps - vs.size) undef).getD t undef = vs[t] := by
        rw [Array.getD_eq_getD_getElem?, Array.getElem?_append_left hlt]
        simp [hlt]
      simp only [Option.getD_some, this]
      exact hv t x _ ht (by simp [hlt])
  refine h c h6 B G _ w hR _ fun e s a' w' G' hA hR' hq => ?_
  cases e with
  | normal => exact hq.elim
  | exit id => exact hq.elim
  | pan x => exact hq.elim
  | ret =>
    obtain ⟨k, q1, q2, q3⟩ := hq
    have hx := hR'.temps t
    rw [q1] at hx
    have e1 : a'.tmps.getD t undef = .pointer (some ⟨G'.β k, 0, none⟩) := by
      generalize a'.tmps.getD t undef = tv at hx
      cases hx
      rfl
    obtain ⟨cc, el, b1, b2, b3, b4, b5⟩ := hR'.mem k _ q2
    let G2 : Gh := { G' with ow := fun b => if b = G'.β k then G'.ow b else none }
    have g2 : ∀ b, G'.ow b = none → G2.ow b = none := fun b hb => by simp only [G2]; split <;> first | exact hb | rfl
    have hge : w.heap.size ≤ G'.β k := by
      rcases Nat.lt_or_ge (G'.β k) w.heap.size with h' | h'
      · have := (hA.keep _ h' (hG _)).2
        rw [b1] at this
        cases this
      · exact h'
    refine ⟨hR'.defers, _, results_one hrs a'.tmps w', G2, G'.β k, cc, el, hge, hR'.ol _ (by rw [b1]; simp), by simp only [G2, if_true]; rw [b1]; simp,
      ⟨hA.os, hA.tape, hA.output, hA.size, fun b hb ho => ⟨(hA.keep b hb ho).1, g2 b (hA.keep b hb ho).2⟩⟩, by rw [e1], b3, b4, fun i x hx => ?_⟩
    obtain ⟨u, hu, hcr⟩ := b5 i x hx
    have hst : x.stb = true := stbs_get q3 hx
    refine ⟨u, hu, ?_⟩
    have hvr : VR (Dm s.M) G' B w' x u := by
      cases x <;> first | exact hcr | (simp [AVal.stb] at hst; done)
    exact hvr.stable (fun b _ hn ho => ⟨rfl, hn, g2 b ho⟩) hst

def FrQ (t : Tmp) (sz : Nat) (xs : List AVal) : Ex → AS → Prop
  | .ret, s => ∃ k e, s.T t = .os k e ∧ s.M k = some (.arr e sz xs) ∧ stbs xs = true
  | _, _ => False
theorem EvFresh.of_body {E : Env} {f : FuncId} {n : Nat} {t : Tmp} {sc : SC} (hf : FnIs E.P f n [.tmp t] sc) {args xs : List AVal} {sz : Nat} (hl : args.length ≤ n)
    (h : AW E n sc (FrQ t sz xs) ⟨initT args, NoM⟩) : EvFresh E.P f args sz xs := by
  obtain ⟨fn, c, h1, h2, h3, rfl, hrs, h6⟩ := hf
  refine ⟨⟨fn, h1, h2, by simp [h3]⟩, fun B w vs G hG hsz hv hB => ?_⟩
  refine calls_of_wp h1 h3 ?_
  have hR : Rel fn.ntmps B G ⟨initT args, NoM⟩ { tmps := vs ++ Array.replicate (fn.ntmps - vs.size) undef, defers := [] } w := by
    refine ⟨by simp; omega, rfl, fun t => ?_, fun k blk hk => by simp [NoM] at hk, fun b hb => ⟨hB b hb, hG b⟩, fun b hb => absurd (hG b) hb⟩
    simp only [initT]
    cases ht : args[t]? with
    | none => exact .undef _
    | some x =>
      have hlt : t < vs.size := by
        rw [hsz]
        rcases Nat.lt_or_ge t args.length with h' | h'
        · exact h'
        · rw [List.getElem?_eq_none h'] at ht; cases ht
      have : (vs ++ Array.replicate (fn.ntmps - vs.size) undef).getD t undef = vs[t] := by
        rw [Array.getD_eq_getD_getElem?, Array.getElem?_append_left hlt]
        simp [hlt]
      simp only [Option.getD_some, this]
      exact hv t x _ ht (by simp [hlt])
  refine h c h6 B G _ w hR _ fun e s a' w' G' hA hR' hq => ?_
  cases e with
  | normal => exact hq.elim
  | exit id => exact hq.elim
  | pan x => exact hq.elim
  | ret =>
    obtain ⟨k, e, q1, q2, q3⟩ := hq
    have hx := hR'.temps t
    rw [q1] at hx
    have e1 : a'.tmps.getD t undef = G'.hd k e := by generalize a'.tmps.getD t undef = q at hx; cases hx with | os _ _ _ v hv => exact hv
    have hb : OwnAt (Dm s.M) G' B w' (.arr k) sz xs (G'.hd k e) := hR'.mem k _ q2
    let G2 : Gh := { G' with ow := fun b => if G'.ow b = some (.arr k) then some (.arr k) else none }
    have g2 : ∀ b, G'.ow b = none → G2.ow b = none := fun b hb => by simp [G2, hb]
    refine ⟨hR'.defers, _, results_one hrs a'.tmps w', G2, G'.hd k e, .arr k, by rw [e1], ⟨hA.os, hA.tape, hA.output, hA.size, fun b hb ho => ⟨(hA.keep b hb ho).1, g2 b (hA.keep b hb ho).2⟩⟩, fun b hb' => hR'.ol b fun hn => hb' (g2 b hn), ?_⟩
    exact hb.trade (fun b hb ho => ⟨hb, by simp [G2, ho]⟩) fun x hx u hr => hr.stable (fun b _ hn ho => ⟨rfl, hn, g2 b ho⟩) (stbs_flat q3 x hx)

def odd (n : Nat) : Bool := decide (n % 2 = 1)
theorem odd_iff (n : Nat) : odd n = true ↔ n % 2 = 1 := by simp [odd]
theorem odd_succ (n : Nat) : odd (n + 1) = !odd n := by
  unfold odd
  rcases Nat.mod_two_eq_zero_or_one n with h | h
  · have : (n + 1) % 2 = 1 := by omega
    simp [h, this]
  · have : (n + 1) % 2 = 0 := by omega
    simp [h, this]
structure CbI (a b : List Int) (f : Bool → Bool → Bool) (i j : Nat) (v : Bool) (t : List Int) : Prop where
  hi : i ≤ a.length
  hj : j ≤ b.length
  sa : ∀ x ∈ t, ∀ y ∈ a.drop i, x < y
  sb : ∀ x ∈ t, ∀ y ∈ b.drop j, x < y
  ab : ∀ x ∈ a.take i, ∀ y ∈ b.drop j, x < y
  ba : ∀ x ∈ b.take j, ∀ y ∈ a.drop i, x < y
  rise : t.Pairwise (fun x y => x < y)
  val : v = f (odd i) (odd j)
  len : odd t.length = v
  le : t.length ≤ i + j
  mem : ∀ m, odd (cnt t m) = f (odd (cnt (a.take i) m)) (odd (cnt (b.take j) m))
theorem CbI.start {a b : List Int} {f : Bool → Bool → Bool} (hf : f false false = false) : CbI a b f 0 0 false [] := by
  refine ⟨Nat.zero_le _, Nat.zero_le _, by simp, by simp, by simp, by simp, .nil, by simp [odd, hf], rfl, Nat.le_refl _, fun m => ?_⟩
  simp [cnt_nil, odd, hf]
theorem CbI.step {a b : List Int} {f : Bool → Bool → Bool} (hra : a.Pairwise (fun x y => x < y)) (hrb : b.Pairwise (fun x y => x < y)) {i j : Nat} {v : Bool} {t : List Int} (h : CbI a b f i j v t) {x : Int} {i' j' : Nat}
    (ha : (i' = i + 1 ∧ a[i]? = some x) ∨ (i' = i ∧ ∀ y ∈ a.drop i, x < y)) (hb : (j' = j + 1 ∧ b[j]? = some x) ∨ (j' = j ∧ ∀ y ∈ b.drop j, x < y)) (hx : i' = i + 1 ∨ j' = j + 1) :
    CbI a b f i' j' (f (odd i') (odd j')) (if f (odd i') (odd j') = v then t else t ++ [x]) := by
  have key : ∀ (l : List Int) (k k' : Nat), l.Pairwise (fun x y => x < y) → k ≤ l.length → ((k' = k + 1 ∧ l[k]? = some x) ∨ (k' = k ∧ ∀ y ∈ l.drop k, x < y)) →
      k' ≤ l.length ∧ (∀ y ∈ l.drop k', x < y) ∧ (∀ y ∈ l.take k', y ∈ l.take k ∨ y = x) ∧ (∀ y ∈ l.drop k', y ∈ l.drop k) ∧ (∀ m, m < x → cnt (l.take k') m = cnt (l.take k) m) ∧ (l.take k').length = k' := by
    intro l k k' hr hk hc
    rcases hc with ⟨rfl, hg⟩ | ⟨rfl, hg⟩
    · obtain ⟨hlt, he⟩ := List.getElem?_eq_some_iff.1 hg
      have hd : l.drop k = x :: l.drop (k + 1) := by rw [List.drop_eq_getElem_cons hlt, he]
      have ht : l.take (k + 1) = l.take k ++ [x] := by rw [List.take_add_one, hg]; rfl
      have hp : (x :: l.drop (k + 1)).Pairwise (fun x y => x < y) := by rw [← hd]; exact hr.drop
      refine ⟨hlt, fun y hy => (List.pairwise_cons.1 hp).1 y hy, fun y hy => ?_, fun y hy => by rw [hd]; exact List.mem_cons_of_mem _ hy, fun m hm => ?_, by rw [List.length_take]; omega⟩
      · rw [ht] at hy
        simpa using hy
      · rw [ht, cnt_append, cnt_cons, if_neg (by omega), cnt_nil]; rfl
    · exact ⟨hk, hg, fun y hy => .inl hy, fun y hy => hy, fun _ _ => rfl, by rw [List.length_take]; omega⟩
  obtain ⟨a1, a2, a3, a4, a5, a6⟩ := key a i i' hra h.hi ha
  obtain ⟨b1, b2, b3, b4, b5, b6⟩ := key b j j' hrb h.hj hb
  have hxin : (x ∈ a.drop i) ∨ (x ∈ b.drop j) := by
    rcases hx with e | e
    · rcases ha with ⟨_, hg⟩ | ⟨e2, _⟩
      · obtain ⟨hlt, he⟩ := List.getElem?_eq_some_iff.1 hg
        exact .inl (by rw [List.drop_eq_getElem_cons hlt, he]; exact List.mem_cons_self)
      · omega
    · rcases hb with ⟨_, hg⟩ | ⟨e2, _⟩
      · obtain ⟨hlt, he⟩ := List.getElem?_eq_some_iff.1 hg
        exact .inr (by rw [List.drop_eq_getElem_cons hlt, he]; exact List.mem_cons_self)
      · omega
  have tx : ∀ y ∈ t, y < x := fun y hy => by
    rcases hxin with e | e
    · exact h.sa y hy x e
    · exact h.sb y hy x e
  have ax : ∀ y ∈ a.take i, y < x := fun y hy => by
    rcases hxin with e | e
    · have h1 := hra
      rw [← List.take_append_drop i a, List.pairwise_append] at h1
      exact h1.2.2 y hy x e
    · exact h.ab y hy x e
  have bx : ∀ y ∈ b.take j, y < x := fun y hy => by
    rcases hxin with e | e
    · exact h.ba y hy x e
    · have h1 := hrb
      rw [← List.take_append_drop j b, List.pairwise_append] at h1
      exact h1.2.2 y hy x e
  have ax' : ∀ y ∈ a.take i', y ≤ x := fun y hy => by
    rcases a3 y hy with e | e
    · have := ax y e; omega
    · omega
  have bx' : ∀ y ∈ b.take j', y ≤ x := fun y hy => by
    rcases b3 y hy with e | e
    · have := bx y e; omega
    · omega
  have tx' : ∀ y ∈ (if f (odd i') (odd j') = v then t else t ++ [x]), y ≤ x := fun y hy => by
    split at hy
    · have := tx y hy; omega
    · rcases List.mem_append.1 hy with e | e
      · have := tx y e; omega
      · simp at e; omega
  have hlen : odd (if f (odd i') (odd j') = v then t else t ++ [x]).length = f (odd i') (odd j') := by
    by_cases e : f (odd i') (odd j') = v
    · rw [if_pos e, h.len, e]
    · rw [if_neg e, List.length_append]
      show odd (t.length + 1) = _
      rw [odd_succ, h.len]
      revert e
      cases v <;> cases f (odd i') (odd j') <;> simp
  refine ⟨a1, b1, fun y hy z hz => ?_, fun y hy z hz => ?_, fun y hy z hz => ?_, fun y hy z hz => ?_, ?_, rfl, hlen, ?_, fun m => ?_⟩
  · have := tx' y hy; have := a2 z hz; omega
  · have := tx' y hy; have := b2 z hz; omega
  · have := ax' y hy; have := b2 z hz; omega
  · have := bx' y hy; have := a2 z hz; omega
  · split
    · exact h.rise
    · exact push_rise h.rise tx
  · have h1 := h.le
    have h2 : i + j + 1 ≤ i' + j' := by omega
    split
    · omega
    · simp only [List.length_append, List.length_cons, List.length_nil]; omega
  · rcases Int.lt_or_le m x with hm | hm
    · rw [a5 m hm, b5 m hm, ← h.mem m]
      congr 1
      split
      · rfl
      · rw [cnt_append, cnt_cons, if_neg (by omega), cnt_nil]; rfl
    · rw [cnt_all (fun y hy => Int.le_trans (ax' y hy) hm), cnt_all (fun y hy => Int.le_trans (bx' y hy) hm), cnt_all (fun y hy => Int.le_trans (tx' y hy) hm), a6, b6, hlen]
theorem CbI.done {a b : List Int} {f : Bool → Bool → Bool} {v : Bool} {t : List Int} (h : CbI a b f a.length b.length v t) (hf : f false false = false) {p q : Int → Prop} (ha : Turns p a) (hb : Turns q b) (r : Int → Prop)
    (hr : ∀ m, r m ↔ f (odd (cnt a m)) (odd (cnt b m)) = true) : Turns r t := by
  refine ⟨h.rise, ?_, fun m => ?_⟩
  · have h1 := h.val
    have e1 : odd a.length = false := by have := ha.even; simp [odd]; omega
    have e2 : odd b.length = false := by have := hb.even; simp [odd]; omega
    rw [e1, e2, hf] at h1
    have := h.len
    rw [h1] at this
    simp [odd] at this
    omega
  · rw [hr, ← odd_iff, h.mem m, List.take_length, List.take_length]

def r_k166_1 : List SOp := [⟨some 6,.assign (.const (.slice none 0 0)),none⟩]
instance : Live r_k166_1 := ⟨[0,1,2]⟩
def r_k166_2 : List SOp := [⟨some 7,.assign (.const (.slice none 0 0)),none⟩]
instance : Live r_k166_2 := ⟨[0,1,2]⟩
def r_k166_3 : List SOp := [⟨some 8,.assign (.const (.int .i64 0)),none⟩,⟨some 9,.assign (.const (.int .i64 0)),none⟩]
instance : Live r_k166_3 := ⟨[0,1,2,7]⟩
def r_k166_4 : List SOp := [⟨some 10,.assign (.const (.bool false)),none⟩]
instance : Live r_k166_4 := ⟨[0,1,2,7,8,9]⟩
def r_k166_5 : List SOp := [⟨some 15,.move (.tmp 8),none⟩,⟨some 16,.move (.tmp 0),none⟩,⟨some 17,.call ⟨.builtin .len,#[.tmp 16],#[23]⟩,none⟩,⟨some 18,.binOp .lss 3 (.tmp 15) (.tmp 17) 3,none⟩,⟨some 19,.move (.tmp 18),none⟩,⟨some 20,.move (.tmp 9),some ((some 19),false)⟩,⟨some 21,.move (.tmp 1),some ((some 19),false)⟩,⟨some 22,.call ⟨.builtin .len,#[.tmp 21],#[23]⟩,some ((some 19),false)⟩,⟨some 23,.binOp .lss 3 (.tmp 20) (.tmp 22) 3,some ((some 19),false)⟩,⟨some 24,.pick (.tmp 19) (.const (.bool true)) (.tmp 23),none⟩]
instance : Live r_k166_5 := ⟨[0,1,2,7,8,9,10]⟩
def r_k166_6 : List SOp := [⟨some 11,.assign (.const (.int .i64 0)),none⟩]
instance : Live r_k166_6 := ⟨[0,1,2,7,8,9,10]⟩
def r_k166_7 : List SOp := [⟨some 25,.move (.tmp 9),none⟩,⟨some 26,.move (.tmp 1),none⟩,⟨some 27,.call ⟨.builtin .len,#[.tmp 26],#[23]⟩,none⟩,⟨some 28,.binOp .eql 3 (.tmp 25) (.tmp 27) 3,none⟩,⟨some 29,.move (.tmp 28),none⟩,⟨some 30,.move (.tmp 8),some ((some 29),false)⟩,⟨some 31,.move (.tmp 0),some ((some 29),false)⟩,⟨some 32,.call ⟨.builtin .len,#[.tmp 31],#[23]⟩,some ((some 29),false)⟩,⟨some 33,.binOp .lss 3 (.tmp 30) (.tmp 32) 3,some ((some 29),false)⟩,⟨some 34,.move (.tmp 33),some ((some 29),false)⟩,⟨some 35,.move (.tmp 0),some ((some 34),true)⟩,⟨some 36,.move (.tmp 8),some ((some 34),true)⟩,⟨some 37,.indexAddr 23 (.tmp 35) (.tmp 36),some ((some 34),true)⟩,⟨some 38,.load 3 (.tmp 37),some ((some 34),true)⟩,⟨some 39,.move (.tmp 1),some ((some 34),true)⟩,⟨some 40,.move (.tmp 9),some ((some 34),true)⟩,⟨some 41,.indexAddr 23 (.tmp 39) (.tmp 40),some ((some 34),true)⟩,⟨some 42,.load 3 (.tmp 41),some ((some 34),true)⟩,⟨some 43,.binOp .lss 3 (.tmp 38) (.tmp 42) 3,some ((some 34),true)⟩,⟨some 44,.pick (.tmp 34) (.tmp 43) (.const (.bool false)),some ((some 29),false)⟩,⟨some 45,.pick (.tmp 29) (.const (.bool true)) (.tmp 44),none⟩]
instance : Live r_k166_7 := ⟨[0,1,2,7,8,9,10]⟩
def r_k166_8 : List SOp := [⟨some 46,.move (.tmp 0),none⟩,⟨some 47,.move (.tmp 8),none⟩,⟨some 48,.indexAddr 23 (.tmp 46) (.tmp 47),none⟩,⟨some 49,.load 3 (.tmp 48),none⟩,⟨some 11,.assign (.tmp 49),none⟩]
instance : Live r_k166_8 := ⟨[0,1,2,7,8,9,10]⟩
def r_k166_9 : List SOp := [⟨some 50,.move (.tmp 1),none⟩,⟨some 51,.move (.tmp 9),none⟩,⟨some 52,.indexAddr 23 (.tmp 50) (.tmp 51),none⟩,⟨some 53,.load 3 (.tmp 52),none⟩,⟨some 11,.assign (.tmp 53),none⟩]
instance : Live r_k166_9 := ⟨[0,1,2,7,8,9,10]⟩
def r_k166_10 : List SOp := [⟨some 54,.move (.tmp 8),none⟩,⟨some 55,.move (.tmp 0),none⟩,⟨some 56,.call ⟨.builtin .len,#[.tmp 55],#[23]⟩,none⟩,⟨some 57,.binOp .lss 3 (.tmp 54) (.tmp 56) 3,none⟩,⟨some 58,.move (.tmp 57),none⟩,⟨some 59,.move (.tmp 0),some ((some 58),true)⟩,⟨some 60,.move (.tmp 8),some ((some 58),true)⟩,⟨some 61,.indexAddr 23 (.tmp 59) (.tmp 60),some ((some 58),true)⟩,⟨some 62,.load 3 (.tmp 61),some ((some 58),true)⟩,⟨some 63,.move (.tmp 11),some ((some 58),true)⟩,⟨some 64,.binOp .eql 3 (.tmp 62) (.tmp 63) 3,some ((some 58),true)⟩,⟨some 65,.pick (.tmp 58) (.tmp 64) (.const (.bool false)),none⟩]
instance : Live r_k166_10 := ⟨[0,1,2,7,8,9,10,11]⟩
def r_k166_11 : List SOp := [⟨some 66,.move (.tmp 8),none⟩,⟨some 67,.binOp .add 3 (.tmp 66) (.const (.int .i64 1)) 3,none⟩,⟨some 8,.assign (.tmp 67),none⟩]
instance : Live r_k166_11 := ⟨[0,1,2,7,8,9,10,11]⟩
def r_k166_12 : List SOp := [⟨some 68,.move (.tmp 9),none⟩,⟨some 69,.move (.tmp 1),none⟩,⟨some 70,.call ⟨.builtin .len,#[.tmp 69],#[23]⟩,none⟩,⟨some 71,.binOp .lss 3 (.tmp 68) (.tmp 70) 3,none⟩,⟨some 72,.move (.tmp 71),none⟩,⟨some 73,.move (.tmp 1),some ((some 72),true)⟩,⟨some 74,.move (.tmp 9),some ((some 72),true)⟩,⟨some 75,.indexAddr 23 (.tmp 73) (.tmp 74),some ((some 72),true)⟩,⟨some 76,.load 3 (.tmp 75),some ((some 72),true)⟩,⟨some 77,.move (.tmp 11),some ((some 72),true)⟩,⟨some 78,.binOp .eql 3 (.tmp 76) (.tmp 77) 3,some ((some 72),true)⟩,⟨some 79,.pick (.tmp 72) (.tmp 78) (.const (.bool false)),none⟩]
instance : Live r_k166_12 := ⟨[0,1,2,7,8,9,10,11]⟩
def r_k166_13 : List SOp := [⟨some 80,.move (.tmp 9),none⟩,⟨some 81,.binOp .add 3 (.tmp 80) (.const (.int .i64 1)) 3,none⟩,⟨some 9,.assign (.tmp 81),none⟩]
instance : Live r_k166_13 := ⟨[0,1,2,7,8,9,10,11]⟩
def r_k166_14 : List SOp := [⟨some 82,.move (.tmp 8),none⟩,⟨some 83,.binOp .rem 3 (.tmp 82) (.const (.int .i64 2)) 3,none⟩,⟨some 84,.binOp .eql 3 (.tmp 83) (.const (.int .i64 1)) 3,none⟩,⟨some 85,.move (.tmp 9),none⟩,⟨some 86,.binOp .rem 3 (.tmp 85) (.const (.int .i64 2)) 3,none⟩,⟨some 87,.binOp .eql 3 (.tmp 86) (.const (.int .i64 1)) 3,none⟩,⟨some 12,.assign (.tmp 84),none⟩,⟨some 13,.assign (.tmp 87),none⟩]
instance : Live r_k166_14 := ⟨[0,1,2,7,8,9,10,11]⟩
def r_k166_15 : List SOp := [⟨some 88,.move (.tmp 2),none⟩,⟨some 89,.binOp .eql 3 (.tmp 88) (.const (.int .i64 1)) 3,none⟩,⟨some 90,.move (.tmp 89),none⟩,⟨some 91,.move (.tmp 12),some ((some 90),true)⟩,⟨some 92,.pick (.tmp 90) (.tmp 91) (.const (.bool false)),none⟩,⟨some 93,.move (.tmp 92),none⟩,⟨some 94,.move (.tmp 13),some ((some 93),true)⟩,⟨some 95,.pick (.tmp 93) (.tmp 94) (.const (.bool false)),none⟩,⟨some 96,.move (.tmp 95),none⟩,⟨some 97,.move (.tmp 2),some ((some 96),false)⟩,⟨some 98,.binOp .eql 3 (.tmp 97) (.const (.int .i64 2)) 3,some ((some 96),false)⟩,⟨some 99,.move (.tmp 98),some ((some 96),false)⟩,⟨some 100,.move (.tmp 12),some ((some 99),true)⟩,⟨some 101,.pick (.tmp 99) (.tmp 100) (.const (.bool false)),some ((some 96),false)⟩,⟨some 102,.move (.tmp 101),some ((some 96),false)⟩,⟨some 103,.move (.tmp 13),some ((some 102),true)⟩,⟨some 104,.unOp .not 4 (.tmp 103),some ((some 102),true)⟩,⟨some 105,.pick (.tmp 102) (.tmp 104) (.const (.bool false)),some ((some 96),false)⟩,⟨some 106,.pick (.tmp 96) (.const (.bool true)) (.tmp 105),none⟩,⟨some 14,.assign (.tmp 106),none⟩]
instance : Live r_k166_15 := ⟨[0,1,2,7,8,9,10,11,12,13]⟩
def r_k166_16 : List SOp := [⟨some 107,.move (.tmp 14),none⟩,⟨some 108,.move (.tmp 10),none⟩,⟨some 109,.binOp .neq 4 (.tmp 107) (.tmp 108) 4,none⟩]
instance : Live r_k166_16 := ⟨[0,1,2,7,8,9,10,11,14]⟩
def r_k166_17 : List SOp := [⟨some 110,.move (.tmp 7),none⟩,⟨some 111,.move (.tmp 11),none⟩,⟨some 112,.buildSlice 23 1 #[(0,.tmp 111)],none⟩,⟨some 113,.call ⟨.builtin .append,#[.tmp 110,.tmp 112],#[23,23]⟩,none⟩,⟨some 7,.assign (.tmp 113),none⟩]
instance : Live r_k166_17 := ⟨[0,1,2,7,8,9,11,14]⟩
def r_k166_18 : List SOp := [⟨some 114,.move (.tmp 14),none⟩,⟨some 10,.assign (.tmp 114),none⟩]
instance : Live r_k166_18 := ⟨[0,1,2,7,8,9,14]⟩
def r_k166_19 : List SOp := [⟨some 115,.move (.tmp 7),none⟩,⟨some 6,.assign (.tmp 115),none⟩]
instance : Live r_k166_19 := ⟨[7]⟩
def t_k166_l1 : SC :=
  (.seq (.seq (.ops false r_k166_5) (.cond (.tmp 24) .skip (.exit 0))) (.block 1 (.seq (.ops false r_k166_6) (.seq (.seq (.ops true r_k166_7) (.cond (.tmp 45) (.ops false r_k166_8) (.ops false r_k166_9))) (.seq (.seq (.ops false r_k166_10) (.cond (.tmp 65) (.ops false r_k166_11) .skip)) (.seq (.seq (.ops false r_k166_12) (.cond (.tmp 79) (.ops false r_k166_13) .skip)) (.seq (.ops false r_k166_14) (.seq (.ops false r_k166_15) (.seq (.ops false r_k166_16) (.cond (.tmp 109) (.seq (.ops false r_k166_17) (.ops false r_k166_18)) .skip))))))))))
def t_k166 : SC :=
  (.seq (.ops false r_k166_1) (.seq (.ops false r_k166_2) (.seq (.ops false r_k166_3) (.seq (.ops false r_k166_4) (.seq (.block 0 (.loop t_k166_l1)) (.seq (.ops false r_k166_19) .ret))))))
theorem it_k166 : FnIs Tryz.prog 166 116 [.tmp 6] t_k166 := ⟨Tryz.f166, _, Tryz.func166, rfl, rfl, rfl, rfl, by kernel_rfl⟩

def p1_k166_l1 : SC := (.seq (.seq (.ops false r_k166_12) (.cond (.tmp 79) (.ops false r_k166_13) .skip)) (.seq (.ops false r_k166_14) (.seq (.ops false r_k166_15) (.seq (.ops false r_k166_16) (.cond (.tmp 109) (.seq (.ops false r_k166_17) (.ops false r_k166_18)) .skip)))))
def p2_k166_l1 : SC := (.seq (.seq (.ops false r_k166_10) (.cond (.tmp 65) (.ops false r_k166_11) .skip)) p1_k166_l1)
def p3_k166_l1 : SC := (.seq (.seq (.ops true r_k166_7) (.cond (.tmp 45) (.ops false r_k166_8) (.ops false r_k166_9))) p2_k166_l1)
def c_k166_l1 : SC := (.seq (.seq (.ops false r_k166_5) (.cond (.tmp 24) .skip (.exit 0))) (.block 1 (.seq (.ops false r_k166_6) p3_k166_l1)))
theorem cut_k166_l1 : t_k166_l1 = c_k166_l1 := rfl

structure CbS where
  i : Nat
  j : Nat
  v : Bool
  t : List Int
theorem tmod_two (i : Nat) : ((i : Int)).tmod 2 = ((i % 2 : Nat) : Int) := by rw [Int.ofNat_tmod]; rfl
theorem odd_dec (i : Nat) : decide (((i % 2 : Nat) : Int) = 1) = odd i := by
  unfold odd
  rw [decide_eq_decide]
  omega
theorem getD_at {l : List Int} {i : Nat} (h : i < l.length) : l[i]? = some (l.getD i 0) := by simp [h]
theorem drop_above {l : List Int} (hr : l.Pairwise (fun x y => x < y)) {i : Nat} {x : Int} (h : i < l.length → x < l.getD i 0) : ∀ y ∈ l.drop i, x < y := by
  intro y hy
  rcases Nat.lt_or_ge i l.length with hi | hi
  · rw [List.drop_eq_getElem_cons hi] at hy
    have hp := hr.drop (i := i)
    rw [List.drop_eq_getElem_cons hi] at hp
    have e : l.getD i 0 = l[i] := by simp [hi]
    have h1 := h hi
    rw [e] at h1
    rcases List.mem_cons.1 hy with rfl | hy
    · exact h1
    · have := (List.pairwise_cons.1 hp).1 y hy
      omega
  · rw [List.drop_eq_nil_of_le hi] at hy
    cases hy
theorem ev_k166 {a b t : List Int} {p q r : Int → Prop} (ha : Turns p a) (hb : Turns q b) (ht : Turns r t) (hla : a.length ≤ 400000000) (hlb : b.length ≤ 400000000) (rule : Int) (f : Bool → Bool → Bool)
    (hrf : (rule = 1 ∧ f = fun x y => x && y) ∨ (rule = 2 ∧ f = fun x y => x && !y)) (hr : ∀ m, r m ↔ f (odd (cnt a m)) (odd (cnt b m)) = true) :
    Ev (En Tryz.prog rfl).P 166 [.sl 1 (encIs a), .sl 1 (encIs b), .int .i64 rule] (.ret (.sl 1 (encIs t))) := by
  refine Ev.of_body it_k166 (by simp) (Run.start ?_)
  unfold t_k166
  have e1 := encIs_len a
  have e2 := encIs_len b
  have hf : f false false = false := by rcases hrf with ⟨_, rfl⟩ | ⟨_, rfl⟩ <;> rfl
  (focus (have hF := (And.intro @e1 @e2); (repeat' (first | refine go1 (k:=?_) | with_reducible refine Ny.of ?_ ?_ | (refine Hyp.of ?_; intro hc; (try simp only [hc]); (try simp only [Bh] at hc)))); all_goals clear hF))
  refine Run.wk (Wk.own_nil 7 113 1 rfl rfl) ?_
  refine Run.while (σ := CbS) (fun z => ⟨tms [(0, .sl 1 (encIs a)), (1, .sl 1 (encIs b)), (2, .int .i64 rule), (7, .os 113 z.t.length), (8, .int .i64 (z.i : Int)), (9, .int .i64 (z.j : Int)), (10, .bool z.v)], mms [(113, .arr z.t.length 1 (encIs z.t))]⟩)
    (fun z => CbI a b f z.i z.j z.v z.t) (fun z => (a.length - z.i) + (b.length - z.j)) ⟨0, 0, false, []⟩ (have hW := @encIs_stb; stWk) (CbI.start hf) ?_
  rintro ⟨i, j, v, u⟩ h
  dsimp only at h ⊢
  have hi := h.hi
  have hj := h.hj
  have hle := h.le
  have e3 := encIs_len u
  rw [cut_k166_l1]
  unfold c_k166_l1
  refine Run.mid (σ := Unit) (fun _ => ⟨tms [(0, .sl 1 (encIs a)), (1, .sl 1 (encIs b)), (2, .int .i64 rule), (7, .os 113 u.length), (8, .int .i64 (i : Int)), (9, .int .i64 (j : Int)), (10, .bool v)], mms [(113, .arr u.length 1 (encIs u))]⟩) (fun _ => i < a.length ∨ j < b.length) ?_ ?_
  · (focus (have hF := (And.intro @e1 (And.intro @e2 @e3)); (repeat' (first | refine go1 (k:=?_) | with_reducible refine Ny.of ?_ ?_ | (refine Hyp.of ?_; intro hc; (try simp only [hc]); (try simp only [Bh] at hc)))); all_goals clear hF))
    · (refine Fin.nextW (()) ?_ (have hW := True.intro; stWk); (try dsimp only))
      exact .inl (by omega)
    · (refine Fin.nextW (()) ?_ (have hW := True.intro; stWk); (try dsimp only))
      exact .inr (by omega)
    · rw [show i = a.length by omega, show j = b.length by omega] at h
      rw [← (h.done hf ha hb r hr).uniq ht]
      exact stRet (.sl 1 (encIs u))
  intro _ hin
  (focus (have hF := (And.intro @e1 (And.intro @e2 @e3)); (repeat' (first | refine go1 (k:=?_) | with_reducible refine Ny.of ?_ ?_ | (refine Hyp.of ?_; intro hc; (try simp only [hc]); (try simp only [Bh] at hc)))); all_goals clear hF))
  unfold p3_k166_l1
  refine Run.mid (σ := Int) (fun x => ⟨tms [(0, .sl 1 (encIs a)), (1, .sl 1 (encIs b)), (2, .int .i64 rule), (7, .os 113 u.length), (8, .int .i64 (i : Int)), (9, .int .i64 (j : Int)), (10, .bool v), (11, .int .i64 x)], mms [(113, .arr u.length 1 (encIs u))]⟩)
    (fun x => (i < a.length → x ≤ a.getD i 0) ∧ (j < b.length → x ≤ b.getD j 0) ∧ ((i < a.length ∧ a.getD i 0 = x) ∨ (j < b.length ∧ b.getD j 0 = x))) ?_ ?_
  · (focus (have hF := (And.intro (And.intro @e1 @e2) (And.intro @e3 @encIs_at)); (repeat' (first | refine go1 (k:=?_) | with_reducible refine Ny.of ?_ ?_ | (refine Hyp.of ?_; intro hc; (try simp only [hc]); (try simp only [Bh] at hc)))); all_goals clear hF))
    all_goals first
      | ((refine Fin.nextW (a.getD i 0) ?_ (have hW := True.intro; stWk); (try dsimp only))
         exact ⟨fun _ => Int.le_refl _, fun _ => by omega, .inl ⟨by omega, rfl⟩⟩)
      | ((refine Fin.nextW (b.getD j 0) ?_ (have hW := True.intro; stWk); (try dsimp only))
         exact ⟨fun _ => by omega, fun _ => Int.le_refl _, .inr ⟨by omega, rfl⟩⟩)
  rintro x ⟨x1, x2, x3⟩
  unfold p2_k166_l1
  refine Run.mid (σ := Nat) (fun i' => ⟨tms [(0, .sl 1 (encIs a)), (1, .sl 1 (encIs b)), (2, .int .i64 rule), (7, .os 113 u.length), (8, .int .i64 (i' : Int)), (9, .int .i64 (j : Int)), (10, .bool v), (11, .int .i64 x)], mms [(113, .arr u.length 1 (encIs u))]⟩)
    (fun i' => (i' = i + 1 ∧ i < a.length ∧ a.getD i 0 = x) ∨ (i' = i ∧ (i < a.length → x < a.getD i 0))) ?_ ?_
  · (focus (have hF := (And.intro (And.intro @e1 @e2) (And.intro @e3 @encIs_at)); (repeat' (first | refine go1 (k:=?_) | with_reducible refine Ny.of ?_ ?_ | (refine Hyp.of ?_; intro hc; (try simp only [hc]); (try simp only [Bh] at hc)))); all_goals clear hF))
    all_goals first
      | ((refine Fin.nextW (i + 1) ?_ (have hW := True.intro; stWk); (try dsimp only))
         exact .inl ⟨rfl, by omega, by omega⟩)
      | ((refine Fin.nextW (i) ?_ (have hW := True.intro; stWk); (try dsimp only))
         exact .inr ⟨rfl, fun h => by have := x1 h; omega⟩)
  intro i' hi'
  unfold p1_k166_l1
  refine Run.mid (σ := Nat) (fun j' => ⟨tms [(0, .sl 1 (encIs a)), (1, .sl 1 (encIs b)), (2, .int .i64 rule), (7, .os 113 u.length), (8, .int .i64 (i' : Int)), (9, .int .i64 (j' : Int)), (10, .bool v), (11, .int .i64 x)], mms [(113, .arr u.length 1 (encIs u))]⟩)
    (fun j' => (j' = j + 1 ∧ j < b.length ∧ b.getD j 0 = x) ∨ (j' = j ∧ (j < b.length → x < b.getD j 0))) ?_ ?_
  · (focus (have hF := (And.intro (And.intro @e1 @e2) (And.intro @e3 @encIs_at)); (repeat' (first | refine go1 (k:=?_) | with_reducible refine Ny.of ?_ ?_ | (refine Hyp.of ?_; intro hc; (try simp only [hc]); (try simp only [Bh] at hc)))); all_goals clear hF))
    all_goals first
      | ((refine Fin.nextW (j + 1) ?_ (have hW := True.intro; stWk); (try dsimp only))
         exact .inl ⟨rfl, by omega, by omega⟩)
      | ((refine Fin.nextW (j) ?_ (have hW := True.intro; stWk); (try dsimp only))
         exact .inr ⟨rfl, fun h => by have := x2 h; omega⟩)
  intro j' hj'
  have st := h.step ha.rise hb.rise (x := x) (i' := i') (j' := j') (hi'.imp (fun q => ⟨q.1, by rw [getD_at q.2.1, q.2.2]⟩) (fun q => ⟨q.1, drop_above ha.rise q.2⟩)) (hj'.imp (fun q => ⟨q.1, by rw [getD_at q.2.1, q.2.2]⟩) (fun q => ⟨q.1, drop_above hb.rise q.2⟩)) (by
    rcases x3 with q | q
    · rcases hi' with w | w
      · exact .inl w.1
      · have := w.2 q.1; omega
    · rcases hj' with w | w
      · exact .inr w.1
      · have := w.2 q.1; omega)
  have st1 := st.hi
  have st2 := st.hj
  have st3 : (a.length - i') + (b.length - j') < (a.length - i) + (b.length - j) := by omega
  have hub : u.length ≤ 800000000 := by omega
  have m1 := tmod_two i'
  have m2 := tmod_two j'
  have m3 := odd_dec i'
  have m4 := odd_dec j'
  have hlu : (u ++ [x]).length = u.length + 1 := by simp
  clear hi' hj' x1 x2 x3 hi hj
  generalize odd i' = o1 at st m3
  generalize odd j' = o2 at st m4
  rcases hrf with ⟨rfl, rfl⟩ | ⟨rfl, rfl⟩ <;> cases o1 <;> cases o2 <;> cases v <;> simp only [Bool.and_true, Bool.and_false, Bool.true_and, Bool.false_and, Bool.not_true, Bool.not_false, if_true, reduceCtorEq, if_false] at st
  all_goals
    (focus (have hF := (And.intro (And.intro (And.intro @e1 @e2) (And.intro @e3 @m1)) (And.intro (And.intro @m2 @m3) (And.intro @m4 @encIs_snoc))); (repeat' (first | refine go1 (k:=?_) | with_reducible refine Ny.of ?_ ?_ | (refine Hyp.of ?_; intro hc; (try simp only [hc]); (try simp only [Bh] at hc)))); all_goals clear hF))
    first
      | (have st' : CbI a b _ i' j' true u := st
         (refine Fin.nextW (⟨i', j', true, u⟩) ?_ (have hW := @encIs_stb; stWk); (try dsimp only))
         exact ⟨st', st3⟩)
      | (have st' : CbI a b _ i' j' false u := st
         (refine Fin.nextW (⟨i', j', false, u⟩) ?_ (have hW := @encIs_stb; stWk); (try dsimp only))
         exact ⟨st', st3⟩)
      | (have st' : CbI a b _ i' j' true (u ++ [x]) := st
         (refine Fin.nextW (⟨i', j', true, u ++ [x]⟩) ?_ (have hW := (And.intro @encIs_stb @hlu); stWk); (try dsimp only))
         exact ⟨st', st3⟩)
      | (have st' : CbI a b _ i' j' false (u ++ [x]) := st
         (refine Fin.nextW (⟨i', j', false, u ++ [x]⟩) ?_ (have hW := (And.intro @encIs_stb @hlu); stWk); (try dsimp only))
         exact ⟨st', st3⟩)

def r_k128_1 : List SOp := [⟨some 1,.box 168 (.tmp 0),none⟩,⟨some 2,.alloc 26,none⟩]
instance : Live r_k128_1 := ⟨[0]⟩
def r_k128_2 : List SOp := [⟨some 3,.alloc 26,none⟩]
instance : Live r_k128_2 := ⟨[1,2]⟩
def r_k128_3 : List SOp := [⟨some 8,.makeSlice 23 (.const (.int .i64 16)) (.const (.int .i64 16)),none⟩,⟨some 4,.assign (.tmp 8),none⟩]
instance : Live r_k128_3 := ⟨[1,2,3]⟩
def r_k128_4 : List SOp := [⟨some 5,.assign (.const (.int .i64 0)),none⟩]
instance : Live r_k128_4 := ⟨[1,2,3,4]⟩
def r_k128_5 : List SOp := [⟨some 6,.assign (.const (.int .i64 0)),none⟩]
instance : Live r_k128_5 := ⟨[1,2,3,4,5]⟩
def r_k128_6 : List SOp := [⟨some 9,.move (.tmp 6),none⟩,⟨some 10,.binOp .lss 3 (.tmp 9) (.const (.int .i64 16)) 3,none⟩]
instance : Live r_k128_6 := ⟨[1,2,3,4,5,6]⟩
def r_k128_7 : List SOp := [⟨some 7,.assign (.const (.int .i64 0)),none⟩]
instance : Live r_k128_7 := ⟨[1,2,3,4,5,6]⟩
def r_k128_8 : List SOp := [⟨some 13,.move (.tmp 7),none⟩,⟨some 14,.binOp .add 3 (.tmp 13) (.const (.int .i64 1)) 3,none⟩,⟨some 15,.move (.tmp 6),none⟩,⟨some 16,.fieldAddr 168 (.tmp 1) 0,none⟩,⟨some 17,.indexAddr 166 (.tmp 16) (.tmp 15),none⟩,⟨some 18,.load 23 (.tmp 17),none⟩,⟨some 19,.call ⟨.builtin .len,#[.tmp 18],#[23]⟩,none⟩,⟨some 20,.binOp .lss 3 (.tmp 14) (.tmp 19) 3,none⟩]
instance : Live r_k128_8 := ⟨[1,2,3,4,5,6,7]⟩
def r_k128_9 : List SOp := [⟨some 23,.move (.tmp 6),none⟩,⟨some 24,.fieldAddr 168 (.tmp 1) 0,none⟩,⟨some 25,.indexAddr 166 (.tmp 24) (.tmp 23),none⟩,⟨some 26,.load 23 (.tmp 25),none⟩,⟨some 27,.move (.tmp 7),none⟩,⟨some 28,.indexAddr 23 (.tmp 26) (.tmp 27),none⟩,⟨some 29,.load 3 (.tmp 28),none⟩,⟨some 30,.binOp .eql 3 (.tmp 29) (.const (.int .i64 1)) 3,none⟩]
instance : Live r_k128_9 := ⟨[1,2,3,4,5,6,7]⟩
def r_k128_10 : List SOp := [⟨some 31,.move (.tmp 4),none⟩,⟨some 32,.move (.tmp 6),none⟩,⟨some 33,.move (.tmp 6),none⟩,⟨some 34,.fieldAddr 168 (.tmp 1) 0,none⟩,⟨some 35,.indexAddr 166 (.tmp 34) (.tmp 33),none⟩,⟨some 36,.load 23 (.tmp 35),none⟩,⟨some 37,.move (.tmp 7),none⟩,⟨some 38,.binOp .add 3 (.tmp 37) (.const (.int .i64 1)) 3,none⟩,⟨some 39,.indexAddr 23 (.tmp 36) (.tmp 38),none⟩,⟨some 40,.load 3 (.tmp 39),none⟩,⟨some 41,.binOp .sub 3 (.tmp 40) (.const (.int .i64 1)) 3,none⟩,⟨some 42,.indexAddr 23 (.tmp 31) (.tmp 32),none⟩,⟨none,.store 3 (.tmp 42) (.tmp 41),none⟩]
instance : Live r_k128_10 := ⟨[1,2,3,4,6,7]⟩
def r_k128_11 : List SOp := [⟨some 43,.move (.tmp 6),none⟩,⟨some 44,.binOp .add 3 (.tmp 43) (.const (.int .i64 1)) 3,none⟩,⟨some 5,.assign (.tmp 44),none⟩]
instance : Live r_k128_11 := ⟨[1,2,3,4,6,7]⟩
def r_k128_12 : List SOp := [⟨some 45,.fieldAddr 26 (.tmp 3) 1,none⟩,⟨some 46,.load 24 (.tmp 45),none⟩,⟨some 47,.move (.tmp 6),none⟩,⟨some 48,.move (.tmp 6),none⟩,⟨some 49,.fieldAddr 168 (.tmp 1) 0,none⟩,⟨some 50,.indexAddr 166 (.tmp 49) (.tmp 48),none⟩,⟨some 51,.load 23 (.tmp 50),none⟩,⟨some 52,.move (.tmp 7),none⟩,⟨some 53,.indexAddr 23 (.tmp 51) (.tmp 52),none⟩,⟨some 54,.load 3 (.tmp 53),none⟩,⟨some 55,.move (.tmp 6),none⟩,⟨some 56,.fieldAddr 168 (.tmp 1) 0,none⟩,⟨some 57,.indexAddr 166 (.tmp 56) (.tmp 55),none⟩,⟨some 58,.load 23 (.tmp 57),none⟩,⟨some 59,.move (.tmp 7),none⟩,⟨some 60,.binOp .add 3 (.tmp 59) (.const (.int .i64 1)) 3,none⟩,⟨some 61,.indexAddr 23 (.tmp 58) (.tmp 60),none⟩,⟨some 62,.load 3 (.tmp 61),none⟩,⟨some 63,.binOp .sub 3 (.tmp 62) (.const (.int .i64 1)) 3,none⟩,⟨some 64,.build 127 #[(0,.tmp 47),(1,.tmp 54),(2,.tmp 63)],none⟩,⟨some 65,.buildSlice 24 1 #[(0,.tmp 64)],none⟩,⟨some 66,.call ⟨.builtin .append,#[.tmp 46,.tmp 65],#[24,24]⟩,none⟩,⟨some 67,.fieldAddr 26 (.tmp 3) 1,none⟩,⟨none,.store 24 (.tmp 67) (.tmp 66),none⟩]
instance : Live r_k128_12 := ⟨[1,2,3,4,5,6,7]⟩
instance : Rd r_k128_12 := ⟨fun j => j == 1⟩
def r_k128_13 : List SOp := [⟨some 21,.move (.tmp 7),none⟩,⟨some 22,.binOp .add 3 (.tmp 21) (.const (.int .i64 2)) 3,none⟩,⟨some 7,.assign (.tmp 22),none⟩]
instance : Live r_k128_13 := ⟨[1,2,3,4,5,6,7]⟩
def r_k128_14 : List SOp := [⟨some 11,.move (.tmp 6),none⟩,⟨some 12,.binOp .add 3 (.tmp 11) (.const (.int .i64 1)) 3,none⟩,⟨some 6,.assign (.tmp 12),none⟩]
instance : Live r_k128_14 := ⟨[1,2,3,4,5,6]⟩
def r_k128_15 : List SOp := [⟨some 68,.move (.tmp 4),none⟩,⟨some 69,.move (.tmp 5),none⟩,⟨some 70,.slice 23 (.tmp 68) none (some (.tmp 69)) none,none⟩,⟨some 71,.fieldAddr 26 (.tmp 3) 0,none⟩,⟨none,.store 23 (.tmp 71) (.tmp 70),none⟩]
instance : Live r_k128_15 := ⟨[2,3,4,5]⟩
def r_k128_16 : List SOp := [⟨some 72,.load 26 (.tmp 3),none⟩,⟨none,.store 26 (.tmp 2) (.tmp 72),none⟩]
instance : Live r_k128_16 := ⟨[2,3]⟩
def t_k128_l2 : SC :=
  (.seq (.seq (.ops false r_k128_8) (.cond (.tmp 20) .skip (.exit 2))) (.seq (.block 3 (.seq (.ops false r_k128_9) (.cond (.tmp 30) (.seq (.ops false r_k128_10) (.ops false r_k128_11)) (.opsW [46] r_k128_12)))) (.ops false r_k128_13)))
def t_k128_l1 : SC :=
  (.seq (.seq (.ops false r_k128_6) (.cond (.tmp 10) .skip (.exit 0))) (.seq (.block 1 (.seq (.ops false r_k128_7) (.block 2 (.loop t_k128_l2)))) (.ops false r_k128_14)))
def t_k128 : SC :=
  (.seq (.ops false r_k128_1) (.seq (.ops false r_k128_2) (.seq (.ops false r_k128_3) (.seq (.ops false r_k128_4) (.seq (.seq (.ops false r_k128_5) (.block 0 (.loop t_k128_l1))) (.seq (.ops false r_k128_15) (.seq (.ops false r_k128_16) .ret)))))))
theorem it_k128 : FnIs Tryz.prog 128 73 [.cell 2 26] t_k128 := ⟨Tryz.f128, _, Tryz.func128, rfl, rfl, rfl, rfl, by kernel_rfl⟩

def rowF (t : Tab) (r c : Nat) : List Sn := cloudT t r ++ ((leadOf ((normR (t.getD r [])).take c)).2).map (spanOf r)
theorem rowF_zero (t : Tab) (r : Nat) : rowF t r 0 = cloudT t r := by simp [rowF, leadOf]
theorem rowF_all (t : Tab) (r : Nat) : rowF t r (normR (t.getD r [])).length = cloudT t (r + 1) := by
  unfold rowF
  rw [cloudT_succ, List.take_length]
  rfl
theorem rowF_first {t : Tab} {r : Nat} {x : Rn} (hx : (normR (t.getD r []))[0]? = some x) (h : x.1 = 1) : rowF t r 1 = rowF t r 0 := by
  unfold rowF
  rw [List.take_add_one, hx]
  simp [leadOf, h]
theorem rowF_succ {t : Tab} {r c : Nat} {x : Rn} (hx : (normR (t.getD r []))[c]? = some x) (h : x.1 ≠ 1) : rowF t r (c + 1) = rowF t r c ++ [((r : Int), x.1, x.2)] := by
  unfold rowF
  rw [List.take_add_one, hx, List.append_assoc]
  congr 1
  cases c with
  | zero => simp [leadOf, h, spanOf]
  | succ c =>
    cases hm : normR (t.getD r []) with
    | nil => rw [hm] at hx; simp at hx
    | cons y l =>
      rw [hm] at hx
      simp only [List.take_succ_cons, List.cons_append, leadOf]
      simp only [Option.toList]
      split <;> simp [spanOf]
theorem rowF_len (t : Tab) (r c : Nat) : (rowF t r c).length ≤ (cloudT t r).length + (normR (t.getD r [])).length := by
  have h1 := leadOf_len ((normR (t.getD r [])).take c)
  unfold rowF
  rw [List.length_append, List.length_map]
  rw [List.length_take] at h1
  omega
theorem turns_at {m : List Rn} {c : Nat} {x : Rn} (h : m[c]? = some x) : (turnsC m)[2 * c]? = some x.1 ∧ (turnsC m)[2 * c + 1]? = some (x.2 + 1) := by
  induction m generalizing c with
  | nil => simp at h
  | cons y m ih =>
    rw [turnsC_cons]
    cases c with
    | zero => simp at h; subst h; exact ⟨rfl, rfl⟩
    | succ c =>
      have := ih (c := c) (by simpa using h)
      exact ⟨by simpa [Nat.mul_add] using this.1, by simpa [Nat.mul_add] using this.2⟩
theorem can_later {m : List Rn} (h : Can m) {c : Nat} {x : Rn} (hx : m[c + 1]? = some x) : x.1 ≠ 1 := by
  cases m with
  | nil => simp at hx
  | cons y m =>
    have hy := (Can.cons_iff.1 h)
    have hm : x ∈ m := List.mem_of_getElem? (by simpa using hx)
    have h1 := hy.2.1 x hm
    have h2 := hy.1
    unfold sepR at h1
    unfold okR at h2
    omega
theorem vecU_same {t : Tab} {r : Nat} (hr : r < 16) (h : leadT t r = 0) : vecU t (r + 1) = vecU t r := by
  unfold vecU
  rw [leadsT_succ, h, List.append_assoc, show 16 - r = (16 - (r + 1)) + 1 by omega, List.replicate_succ]
  rfl
def szF (t : Tab) (r : Nat) : Nat → Nat
  | 0 => sizeT t r
  | _ + 1 => sizeT t (r + 1)
def vcF (t : Tab) (r : Nat) : Nat → List Int
  | 0 => vecU t r
  | _ + 1 => vecU t (r + 1)
theorem ev_k128 (t : Tab) {n : Nat} (ht : TabLe t n) (hn : n ≤ 50000000) : Ev (En Tryz.prog rfl).P 128 [.agg (encSet (t.map turnsR))] (.ret (encP (pastT t))) := by
  refine Ev.of_body it_k128 (by simp) (Run.start ?_)
  unfold t_k128
  have h16 : (encSet (t.map turnsR)).length = 16 := by simp [encSet, ht.1]
  have hone := encSet_one (t.map turnsR)
  have hst := encSet_stb (t.map turnsR)
  (focus (have hF := (And.intro @h16 @hone); (repeat' (first | refine go1 (k:=?_) | with_reducible refine Ny.of ?_ ?_ | (refine Hyp.of ?_; intro hc; (try simp only [hc]); (try simp only [Bh] at hc)))); all_goals clear hF))
  refine Run.wk (Wk.own_cells (k := 3) (cs' := [.nil, .own 3 []]) rfl rfl ?_) ?_
  · intro i x y hx hy
    match i with
    | 0 => simp at hx hy; subst hx; subst hy; exact .inl rfl
    | 1 => simp at hx hy; subst hx; subst hy; exact .inr ⟨rfl, 3, rfl⟩
    | i + 2 => simp at hx
  refine Run.while (σ := Nat) (fun r => ⟨tms [(1, .ptr 1 0), (2, .ptr 2 0), (3, .ptr 3 0), (4, .os 8 0), (5, .int .i64 (sizeT t r)), (6, .int .i64 r)], mms [(1, .cells (encSet (t.map turnsR))), (2, .cells [.nil, .nil]), (3, .cells [.nil, .own 3 (encSs (cloudT t r))]), (8, .arr 0 1 (encIs (vecU t r)))]⟩)
    (fun r => r ≤ 16) (fun r => 16 - r) 0 (have hW := @hst; stWk) (Nat.zero_le _) ?_
  intro r hr
  have g0 : (encIs (vecU t r)).length = 16 := by rw [encIs_len, vecU_len t hr]
  have hsz := sizeT_le t r
  unfold t_k128_l1
  by_cases hlt : r < 16
  · have hrt : r < t.length := by rw [ht.1]; exact hlt
    have hq := ht.2 r
    have g1 : (encSet (t.map turnsR))[r]? = some (.sl 1 (encIs (turnsC (normR (t.getD r []))))) := by
      rw [encSet_get (by rw [List.length_map]; exact hrt)]
      simp [List.getD_eq_getElem?_getD, hrt, turnsR]
    have hml := normR_len (t.getD r [])
    have hcan := normR_can (t.getD r [])
    have hcl := cloudT_len ht r
    have hcl2 : r * n ≤ 16 * n := Nat.mul_le_mul_right n hr
    have f1 := rowF_zero t r
    have f2 := rowF_all t r
    have f3 := fun c x => @rowF_succ t r c x
    have f4 := fun x => @rowF_first t r x
    have f5 := rowF_len t r
    have hlead : leadT t r = (leadOf (normR (t.getD r []))).1 := rfl
    have hs1 := sizeT_succ t r
    have hv1 := vecU_set t hlt
    have hv2 := vecU_get t hlt
    have hl0 := leadOf_can hcan
    generalize hmr : normR (t.getD r []) = m at g1 hml hcan f2 f3 f4 f5 hlead hl0
    have g2 : (encIs (turnsC m)).length = 2 * m.length := by rw [encIs_len, turnsC_len]
    have hz0 : (leadOf m).1 = 0 → sizeT t (r + 1) = sizeT t r ∧ vecU t (r + 1) = vecU t r := fun h => ⟨by rw [hs1, hlead, h]; rfl, vecU_same hlt (by rw [hlead, h])⟩
    (focus (have hF := (And.intro @h16 (And.intro @hone @g0)); (repeat' (first | refine go1 (k:=?_) | with_reducible refine Ny.of ?_ ?_ | (refine Hyp.of ?_; intro hc; (try simp only [hc]); (try simp only [Bh] at hc)))); all_goals clear hF))
    refine Run.while (σ := Nat) (fun c => ⟨tms [(1, .ptr 1 0), (2, .ptr 2 0), (3, .ptr 3 0), (4, .os 8 0), (5, .int .i64 (szF t r c)), (6, .int .i64 r), (7, .int .i64 (2 * c : Nat))], mms [(1, .cells (encSet (t.map turnsR))), (2, .cells [.nil, .nil]), (3, .cells [.nil, .own 3 (encSs (rowF t r c))]), (8, .arr 0 1 (encIs (vcF t r c)))]⟩)
      (fun c => c ≤ m.length) (fun c => m.length - c) 0 (have hW := (And.intro @hst @f1); stWk) (Nat.zero_le _) ?_
    intro c hc
    have gv : (encIs (vcF t r c)).length = 16 := by
      rw [encIs_len]
      cases c with
      | zero => exact vecU_len t hr
      | succ c => exact vecU_len t hlt
    have hsz2 : szF t r c ≤ r + 1 := by
      cases c with
      | zero => show sizeT t r ≤ _; omega
      | succ c => exact sizeT_le t (r + 1)
    unfold t_k128_l2
    by_cases hcl3 : c < m.length
    · obtain ⟨x, hx⟩ : ∃ x, m[c]? = some x := ⟨m[c], by simp [hcl3]⟩
      have ⟨k1, k2⟩ := turns_at hx
      have k1' : (encIs (turnsC m))[2 * c]? = some (.int .i64 x.1) := encIs_get k1
      have k2' : (encIs (turnsC m))[2 * c + 1]? = some (.int .i64 (x.2 + 1)) := encIs_get k2
      have hxr := hcan.2 x (List.mem_of_getElem? hx)
      unfold okR at hxr
      have hfl := f5 c
      have e8 : ((2 * c : Nat) : Int) + 1 = ((2 * c + 1 : Nat) : Int) := by omega
      have e9 : ((2 * c : Nat) : Int) + 2 = ((2 * (c + 1) : Nat) : Int) := by omega
      have e7 : IntKind.i64.wrap (x.2 + 1 - 1) = x.2 := by rw [wrap_ok (by omega)]; omega
      by_cases h1 : x.1 = 1
      · have hc0 : c = 0 := by
          cases c with
          | zero => rfl
          | succ c => exact absurd h1 (can_later hcan hx)
        have h5 : leadT t r = x.2 := by
          subst hc0
          rw [hlead]
          cases m with
          | nil => simp at hx
          | cons y m => simp at hx; subst hx; rw [leadOf_1 h1]
        have h6 : rowF t r (c + 1) = rowF t r c := by subst hc0; exact f4 x hx h1
        have h8 : szF t r (c + 1) = r + 1 := by show sizeT t (r + 1) = r + 1; rw [hs1, if_pos (by omega)]
        rw [h5] at hv1
        have h9 : (encIs (vcF t r c)).set r (.int .i64 x.2) = encIs (vcF t r (c + 1)) := by subst hc0; exact hv1
        have h10 : (encIs (vcF t r c))[r]? = some (.int .i64 0) := by subst hc0; exact hv2
        generalize szF t r c = sz at hsz2 ⊢
        (focus (have hF := (And.intro (And.intro (And.intro @h16 (And.intro @hone @gv)) (And.intro @g1 (And.intro @g2 @k1'))) (And.intro (And.intro @k2' (And.intro @h9 @h10)) (And.intro (And.intro @e7 @e8) (And.intro @e9 @h1)))); (repeat' (first | refine go1 (k:=?_) | with_reducible refine Ny.of ?_ ?_ | (refine Hyp.of ?_; intro hc; (try simp only [hc]); (try simp only [Bh] at hc)))); all_goals clear hF))
        (refine Fin.nextW (c + 1) ?_ (have hW := (And.intro (And.intro @hst @h6) (And.intro @h8 @h9)); stWk); (try dsimp only))
        omega
      · have h6 := f3 c x hx h1
        have h8 : szF t r (c + 1) = szF t r c ∧ vcF t r (c + 1) = vcF t r c := by
          cases c with
          | zero =>
            refine hz0 ?_
            cases m with
            | nil => simp at hx
            | cons y m => simp at hx; subst hx; rw [leadOf_2 h1]
          | succ c => exact ⟨rfl, rfl⟩
        obtain ⟨h8, h9⟩ := h8
        generalize rowF t r c = cl at h6 hfl ⊢
        have k3 := encSs_len cl
        (focus (have hF := (And.intro (And.intro (And.intro @h16 (And.intro @hone @gv)) (And.intro @g1 (And.intro @g2 @k1'))) (And.intro (And.intro @k2' (And.intro @e7 @e8)) (And.intro @e9 (And.intro @k3 @encSs_snoc)))); (repeat' (first | refine go1 (k:=?_) | with_reducible refine Ny.of ?_ ?_ | (refine Hyp.of ?_; intro hc; (try simp only [hc]); (try simp only [Bh] at hc)))); all_goals clear hF))
        ((with_reducible apply toW); refine stW (fun j => j == 1) (k:=?_))
        (focus (have hF := (And.intro (And.intro (And.intro @h16 (And.intro @hone @gv)) (And.intro @g1 (And.intro @g2 @k1'))) (And.intro (And.intro @k2' (And.intro @e7 @e8)) (And.intro @e9 (And.intro @k3 @encSs_snoc)))); (repeat' (first | refine go1 (k:=?_) | with_reducible refine Ny.of ?_ ?_ | (refine Hyp.of ?_; intro hc; (try simp only [hc]); (try simp only [Bh] at hc)))); all_goals clear hF))
        (refine Fin.nextW (c + 1) ?_ (have hW := (And.intro (And.intro @hst @h6) (And.intro @h8 @h9)); stWk); (try dsimp only))
        omega
    · have hce : c = m.length := by omega
      subst hce
      rw [f2]
      have h8 : szF t r m.length = sizeT t (r + 1) ∧ vcF t r m.length = vecU t (r + 1) := by
        cases m with
        | nil => have := hz0 rfl; exact ⟨this.1.symm, this.2.symm⟩
        | cons y m => exact ⟨rfl, rfl⟩
      rw [h8.1, h8.2] at *
      (focus (have hF := (And.intro (And.intro @h16 @hone) (And.intro @gv (And.intro @g1 @g2))); (repeat' (first | refine go1 (k:=?_) | with_reducible refine Ny.of ?_ ?_ | (refine Hyp.of ?_; intro hc; (try simp only [hc]); (try simp only [Bh] at hc)))); all_goals clear hF))
      (refine Fin.nextW (r + 1) ?_ (have hW := @hst; stWk); (try dsimp only))
      omega
  · have hre : r = 16 := by omega
    subst hre
    have hv : vecU t 16 = leadsT t 16 := by simp [vecU]
    rw [hv] at g0 ⊢
    have hll := leadsT_len t 16
    have hlz : ((leadsT t 16).take (sizeT t 16)).length ≤ 16 := by rw [List.length_take]; omega
    have hres : pastT t = ⟨(leadsT t 16).take (sizeT t 16), cloudT t 16⟩ := rfl
    rw [hres]
    refine Run.wk (Wk.freeze (k := 3) (cs := [.nil, .own 3 (encSs (cloudT t 16))]) rfl) ?_
    refine Run.wk (s' := ⟨tms [(2, .ptr 2 0), (3, .ptr 3 0), (4, .os 8 0), (5, .int .i64 (sizeT t 16)), (6, .int .i64 16)], mms [(2, .cells [.nil, .nil]), (3, .cells [.nil, .sl 3 (encSs (cloudT t 16))]), (8, .arr 0 1 (encIs (leadsT t 16)))]⟩) (have hW := @hst; stWk) ?_
    (focus (have hF := (And.intro @g0 @encIs_take); (repeat' (first | refine go1 (k:=?_) | with_reducible refine Ny.of ?_ ?_ | (refine Hyp.of ?_; intro hc; (try simp only [hc]); (try simp only [Bh] at hc)))); all_goals clear hF))
    exact Fin.all rfl (by simp [stbs, AVal.stb, encIs_stb, encSs_stb, fzc, allK]) rfl

section
open Go.ChangeShapes Go.WideShapes Go.ChangeAt Go.RowKit
def VR0 (w : World) (x : AVal) (v : Value) : Prop := ∀ G : Gh, (∀ b, G.ow b = none) → VR (Dm NoM) G (fun _ => False) w x v
structure Opens (P : Program) (t : TypeId) (α : Type) (ok : α → Prop) (c : α → List AVal) (wt : α → Nat) : Prop where
  run : ∀ {H : Type} (enc : TypeId × Value → H) (w : World) (fuel : Nat) (cs : List Value) (d : DataW H) (ps : List MemPlace),
    DataW.trod enc P w 0 (fun _ => true) true fuel t cs = some (d, ps) →
    ∃ x : α, ok x ∧ wt x ≤ Rows.uptoBulk d ∧ cs.length = (c x).length ∧ ∀ (n : Nat) (y : AVal) (v : Value), (c x)[n]? = some y → cs[n]? = some v → VR0 w y v
section
variable {P : Program} {t : TypeId}
def inI64 (n : Int) : Prop := -9223372036854775808 ≤ n ∧ n ≤ 9223372036854775807
theorem Opens.int (ht : P.underlying t = some (.int .i64)) : Opens P t Int inI64 (fun n => [.int .i64 n]) (fun _ => 1) := by
  refine ⟨fun {H} enc w fuel cs d ps h => ?_⟩
  obtain ⟨n, rfl, hx, hw⟩ := DataW.trod_int ht h
  have hd : d = .lit (.int .i64 n) := congrArg Prod.fst hx
  subst hd
  refine ⟨n, bounds_i64 hw, by simp [Rows.uptoBulk], rfl, fun i y v hy hv G hG => ?_⟩
  match i with
  | 0 => simp at hy hv; subst hy; subst hv; exact .int _ _
  | i + 1 => simp at hy
theorem Opens.bool (ht : P.underlying t = some .bool) : Opens P t Bool (fun _ => True) (fun n => [.bool n]) (fun _ => 1) := by
  refine ⟨fun {H} enc w fuel cs d ps h => ?_⟩
  obtain ⟨n, rfl, hx⟩ := DataW.trod_bool ht h
  have hd : d = .lit (.bool n) := congrArg Prod.fst hx
  subst hd
  refine ⟨n, trivial, by simp [Rows.uptoBulk], rfl, fun i y v hy hv G hG => ?_⟩
  match i with
  | 0 => simp at hy hv; subst hy; subst hv; exact .bool _
  | i + 1 => simp at hy
theorem Opens.string (ht : P.underlying t = some .string) : Opens P t ByteArray (fun _ => True) (fun s => [.str s]) (fun s => s.size + 1) := by
  refine ⟨fun {H} enc w fuel cs d ps h => ?_⟩
  obtain ⟨n, rfl, hx, hs⟩ := DataW.trod_string ht h
  have hd : d = .lit (.string n.data.toList) := congrArg Prod.fst hx
  subst hd
  refine ⟨n, trivial, ?_, rfl, fun i y v hy hv G hG => ?_⟩
  · simp only [Rows.uptoBulk, Array.length_toList]
    exact Nat.le_refl _
  · match i with
    | 0 => simp at hy hv; subst hy; subst hv; exact .str _
    | i + 1 => simp at hy
theorem bulk_sum {H : Type} {α : Type} {wt : α → Nat} : ∀ (es : List (DataW H × List MemPlace)) (l : List α), l.length = es.length → (∀ (i : Nat) x e, l[i]? = some x → es[i]? = some e → wt x ≤ Rows.uptoBulk e.1) → (l.map wt).sum ≤ Rows.uptoBulkAll (es.map (·.1))
  | [], [], _, _ => Nat.le_refl _
  | e :: es, x :: l, hl, h => by
    have h1 := h 0 x e rfl rfl
    have h2 := bulk_sum es l (by simpa using hl) fun i y u hy hu => h (i + 1) y u (by simpa using hy) (by simpa using hu)
    simp only [List.map_cons, List.sum_cons, Rows.uptoBulkAll]
    omega
  | [], _ :: _, hl, _ => by simp at hl
  | _ :: _, [], hl, _ => by simp at hl
theorem addr_add (b off i j : Nat) : ((⟨b, off, none⟩ : Addr).add i).add j = ⟨b, off + i + j, none⟩ := by
  unfold Addr.add
  split <;> split <;> simp_all
def wtL {α : Type} (wt : α → Nat) (l : List α) : Nat := (l.map wt).sum + 1
theorem Opens.slice {e : TypeId} {α : Type} {ok : α → Prop} {c : α → List AVal} {wt : α → Nat} {k : Nat} {mk : α → AVal} (ht : P.underlying t = some (.slice e)) (he : Opens P e α ok c wt) (hcell : P.cellsOf e = k) (hk0 : 0 < k)
    (hmk : ∀ x, (mk x).cells = c x) (hk : ∀ x, (c x).length = k) (hone : ∀ x, ∀ y ∈ c x, y.one = true) : Opens P t (List α) (fun l => ∀ x ∈ l, ok x) (fun l => [.sl k (l.map mk)]) (wtL wt) := by
  refine ⟨fun {H} enc w fuel cs d ps h => ?_⟩
  rcases DataW.trod_slice ht h with ⟨rfl, hx⟩ | ⟨a, len, cap, elems, rest, m, _, rfl, hx, hb, hl, hm, hlen, hel, _, _⟩
  · have hd : d = .nil := congrArg Prod.fst hx
    subst hd
    refine ⟨[], by simp, by simp [wtL, Rows.uptoBulk], rfl, fun i y v hy hv G hG => ?_⟩
    match i with
    | 0 => simp at hy hv; subst hy; subst hv; exact .slnil k
    | i + 1 => simp at hy
  · have hd : d = .slice (elems.map (·.1)) (rest.map (·.1)) := congrArg Prod.fst hx
    subst hd
    obtain ⟨b, off, sp⟩ := a
    rcases Nat.eq_zero_or_pos len with h0 | h0
    · subst h0
      refine ⟨[], by simp, by simp [wtL, Rows.uptoBulk], rfl, fun i y v hy hv G hG => ?_⟩
      match i with
      | 0 => simp at hy hv; subst hy; subst hv; exact .slemp k _ cap
      | i + 1 => simp at hy
    have hspot : sp = none := by
      have h1 := hel 0 h0
      rw [List.getElem?_eq_getElem (by omega), Option.bind_eq_some_iff] at h1
      obtain ⟨cs', h2, h3⟩ := h1
      rw [hcell] at h2
      obtain ⟨_, h4, h5⟩ := World.cells?_some h2
      have h6 := h5 0 hk0
      rw [List.getElem?_eq_getElem (by omega)] at h6
      simp only [Nat.zero_mul, Addr.add, if_true, World.cell?] at h6
      cases sp with
      | none => rfl
      | some q => split at h6 <;> simp at h6
    subst hspot
    rw [hcell] at hel
    have each : ∀ i : _root_.Fin len, ∃ x : α, ok x ∧ (∀ e, elems[i.1]? = some e → wt x ≤ Rows.uptoBulk e.1) ∧ ∀ (j : Nat) (y : AVal), (c x)[j]? = some y → ∃ v, w.cell? ⟨b, off + i.1 * k + j, none⟩ = some v ∧ VR0 w y v := by
      intro i
      have h1 := hel i.1 i.2
      have hi : i.1 < elems.length := by rw [hlen]; exact i.2
      rw [List.getElem?_eq_getElem hi, Option.bind_eq_some_iff] at h1
      obtain ⟨cs', h2, h3⟩ := h1
      obtain ⟨_, h4, h5⟩ := World.cells?_some h2
      obtain ⟨x, ho, hw, hlx, hv⟩ := he.run enc w m cs' elems[i.1].1 elems[i.1].2 h3
      refine ⟨x, ho, fun e he => ?_, fun j y hy => ?_⟩
      · rw [List.getElem?_eq_getElem hi] at he
        cases he
        exact hw
      · have hj : j < k := by
          rw [← hk x]
          rcases Nat.lt_or_ge j (c x).length with h | h
          · exact h
          · rw [List.getElem?_eq_none h] at hy; cases hy
        have h6 := h5 j hj
        rw [addr_add] at h6
        have hjl : j < cs'.length := by omega
        rw [List.getElem?_eq_getElem hjl] at h6
        exact ⟨_, h6, hv j y _ hy (List.getElem?_eq_getElem hjl)⟩
    let l : List α := List.ofFn fun i : _root_.Fin len => (each i).choose
    have hll : l.length = len := by simp [l]
    have hget : ∀ (i : Nat) (hi : i < len), l[i]? = some (each ⟨i, hi⟩).choose := fun i hi => by simp [l, hi]
    refine ⟨l, fun x hx => ?_, ?_, rfl, fun i y v hy hv G hG => ?_⟩
    · obtain ⟨i, rfl⟩ := (List.mem_ofFn).1 hx
      exact (each i).choose_spec.1
    · have := bulk_sum (wt := wt) elems l (by omega) fun i x e hx he => by
        have hi : i < len := by
          rcases Nat.lt_or_ge i len with h | h
          · exact h
          · rw [List.getElem?_eq_none (by omega)] at hx; cases hx
        rw [hget i hi] at hx
        cases hx
        exact (each ⟨i, hi⟩).choose_spec.2.1 e he
      simp only [wtL, Rows.uptoBulk]
      omega
    · match i with
      | i + 1 => simp at hy
      | 0 =>
        simp only [List.getElem?_cons_zero, Option.some.injEq] at hy hv
        subst hy; subst hv
        have hsz : ∀ x ∈ l.map mk, x.cells.length = k := by
          intro x hx
          obtain ⟨z, _, rfl⟩ := List.mem_map.1 hx
          rw [hmk, hk]
        have cellv : ∀ (n : Nat) (x : AVal), (flat (l.map mk))[n]? = some x → ∃ v, w.cell? ⟨b, off + n, none⟩ = some v ∧ VR0 w x v := by
          intro n x hx
          have hn : n < len * k := by
            have h1 := flat_length hsz
            rw [List.length_map, hll] at h1
            rcases Nat.lt_or_ge n (len * k) with h | h
            · exact h
            · rw [List.getElem?_eq_none (by omega)] at hx; cases hx
          have h1 : n / k < len := Nat.div_lt_of_lt_mul (by rw [Nat.mul_comm]; exact hn)
          have h2 : n % k < k := Nat.mod_lt _ hk0
          have h3 := flat_at (sz := k) (xs := l.map mk) (i := n / k) (j := n % k) (x := mk (each ⟨n / k, h1⟩).choose) hsz (by rw [List.getElem?_map, hget _ h1]; rfl) h2
          have e : n / k * k + n % k = n := by rw [Nat.mul_comm]; exact Nat.div_add_mod n k
          rw [e, hmk] at h3
          rw [hx] at h3
          obtain ⟨v, hv, hr⟩ := (each ⟨n / k, h1⟩).choose_spec.2.2 (n % k) x h3.symm
          refine ⟨v, ?_, hr⟩
          rw [← hv]
          congr 2
          simp only
          omega
        have e0 : (l.map mk).length = len := by simp [hll]
        have hsl : VR (Dm NoM) G (fun _ => False) w (.sl k (l.map mk)) (.slice (some ⟨b, off, none⟩) (l.map mk).length cap) := by
          refine .sl k (l.map mk) b off cap (fun n => (w.cell? ⟨b, off + n, none⟩).getD undef) (by omega) (fun _ => ⟨fun h => h, hG b⟩) (fun x hx => ?_) hsz (fun n x hx => ?_) (fun n x hx => ?_)
          · obtain ⟨z, hz, hx⟩ := List.mem_flatMap.1 hx
            obtain ⟨q, _, rfl⟩ := List.mem_map.1 hz
            rw [hmk] at hx
            exact hone q x hx
          · obtain ⟨v, hv, _⟩ := cellv n x hx
            rw [hv]; rfl
          · obtain ⟨v, hv, hr⟩ := cellv n x hx
            simp only [hv, Option.getD_some]
            exact hr G hG
        rw [e0] at hsl
        exact hsl
def OpensF (P : Program) (fs : List Field) (off tot : Nat) (α : Type) (ok : α → Prop) (c : α → List AVal) (wt : α → Nat) : Prop :=
  (∀ x, (c x).length = tot) ∧
  ∀ {H : Type} (enc : TypeId × Value → H) (w : World) (m : Nat) (cs : List Value) (xs : List (DataW H × List MemPlace)), xs.length = fs.length → off + tot ≤ cs.length →
    (∀ (i : Nat) (f : Field), fs[i]? = some f → DataW.trod enc P w 0 (fun _ => true) true m f.type ((cs.drop f.offset).take (P.cellsOf f.type)) = xs[i]?) →
    ∃ x : α, ok x ∧ wt x ≤ Rows.uptoBulkAll (xs.map (·.1)) ∧ ∀ (n : Nat) (y : AVal) (v : Value), (c x)[n]? = some y → cs[off + n]? = some v → VR0 w y v
theorem OpensF.nil (off : Nat) : OpensF P [] off 0 Unit (fun _ => True) (fun _ => []) (fun _ => 0) :=
  ⟨fun _ => rfl, fun enc w m cs xs hl _ _ => ⟨(), trivial, Nat.zero_le _, fun n y v hy => by simp at hy⟩⟩
theorem OpensF.cons {f : Field} {fs : List Field} {off k tot : Nat} {α β : Type} {ok : α → Prop} {ok' : β → Prop} {c : α → List AVal} {c' : β → List AVal} {wt : α → Nat} {wt' : β → Nat}
    (h1 : Opens P f.type α ok c wt) (hk : ∀ x, (c x).length = k) (hc : P.cellsOf f.type = k) (ho : f.offset = off) (h2 : OpensF P fs (off + k) tot β ok' c' wt') :
    OpensF P (f :: fs) off (k + tot) (α × β) (fun x => ok x.1 ∧ ok' x.2) (fun x => c x.1 ++ c' x.2) (fun x => wt x.1 + wt' x.2) := by
  refine ⟨fun x => by rw [List.length_append, hk, h2.1], fun {H} enc w m cs xs hl hlen hx => ?_⟩
  cases xs with
  | nil => simp at hl
  | cons x0 xs =>
    have hx0 := hx 0 f rfl
    simp only [List.getElem?_cons_zero] at hx0
    rw [ho, hc] at hx0
    obtain ⟨x, a1, a2, a3, a4⟩ := h1.run enc w m _ x0.1 x0.2 hx0
    obtain ⟨y, b1, b2, b3⟩ := h2.2 enc w m cs xs (by simpa using hl) (by omega) (fun i g hg => by simpa using hx (i + 1) g (by simpa using hg))
    refine ⟨(x, y), ⟨a1, b1⟩, ?_, fun n z v hz hv => ?_⟩
    · simp only [List.map_cons, Rows.uptoBulkAll]
      omega
    · rcases Nat.lt_or_ge n k with hn | hn
      · rw [List.getElem?_append_left (by rw [hk]; exact hn)] at hz
        refine a4 n z v hz ?_
        rw [List.getElem?_take, if_pos hn, List.getElem?_drop]
        exact hv
      · rw [List.getElem?_append_right (by rw [hk]; exact hn), hk] at hz
        refine b3 (n - k) z v hz ?_
        rw [show off + k + (n - k) = off + n by omega]
        exact hv
theorem Opens.struct {fs : Array Field} {tot : Nat} {α : Type} {ok : α → Prop} {c : α → List AVal} {wt : α → Nat} (ht : P.underlying t = some (.struct fs)) (hc : P.cellsOf t = tot) (h : OpensF P fs.toList 0 tot α ok c wt) :
    Opens P t α ok c (fun x => wt x + 1) := by
  refine ⟨fun {H} enc w fuel cs d ps hd => ?_⟩
  obtain ⟨xs, n, _, hx, hl, hxl, hf⟩ := DataW.trod_struct ht hd
  have hd : d = .agg (xs.map (·.1)) := congrArg Prod.fst hx
  subst hd
  obtain ⟨x, h1, h2, h3⟩ := h.2 enc w n cs xs (by simpa using hxl) (by omega) (fun i f hi => hf i f (by simpa using hi))
  refine ⟨x, h1, by simp only [Rows.uptoBulk]; omega, by rw [h.1, hl, hc], fun i y v hy hv => h3 i y v hy (by simpa using hv)⟩
theorem Opens.map {α β : Type} {ok : α → Prop} {c : α → List AVal} {wt : α → Nat} {ok' : β → Prop} {c' : β → List AVal} {wt' : β → Nat} (h : Opens P t α ok c wt) (g : α → β) (h1 : ∀ x, ok x → ok' (g x)) (h2 : ∀ x, c' (g x) = c x) (h3 : ∀ x, wt' (g x) ≤ wt x) :
    Opens P t β ok' c' wt' := by
  refine ⟨fun {H} enc w fuel cs d ps hd => ?_⟩
  obtain ⟨x, a1, a2, a3, a4⟩ := h.run enc w fuel cs d ps hd
  exact ⟨g x, h1 x a1, Nat.le_trans (h3 x) a2, by rw [h2]; exact a3, by rw [h2]; exact a4⟩
end
section
variable {P : Program} {t : TypeId}
def OpensV (P : Program) (t : TypeId) (α : Type) (ok : α → Prop) (mk : α → AVal) (wt : α → Nat) : Prop :=
  ∀ {H : Type} (enc : TypeId × Value → H) (w : World) (base fuel : Nat) (v : Value) (d : DataW H) (ps : List MemPlace), Value.okWide P w .any base t v →
    DataW.trod enc P w 0 (fun _ => true) true fuel t v.cells.toList = some (d, ps) → ∃ x : α, ok x ∧ wt x ≤ Rows.uptoBulk d ∧ VR0 w (mk x) v
theorem Opens.agg {α : Type} {ok : α → Prop} {c : α → List AVal} {wt : α → Nat} {fs : Array Field} (h : Opens P t α ok c wt) (ht : P.underlying t = some (.struct fs)) : OpensV P t α ok (fun x => .agg (c x)) wt := by
  intro H enc w base fuel v d ps hok hd
  unfold Value.okWide at hok
  rw [ht] at hok
  obtain ⟨cs, rfl, hsz, _⟩ := hok
  obtain ⟨x, x1, x2, x3, x4⟩ := h.run enc w fuel cs.toList d ps (by simpa [Value.cells] using hd)
  exact ⟨x, x1, x2, fun G hG => .agg _ _ (by simpa using x3) fun n z u hz hu => x4 n z u hz (by simpa using hu) G hG⟩
theorem Opens.one {α : Type} {ok : α → Prop} {mk : α → AVal} {wt : α → Nat} {u : TypeDesc} (h : Opens P t α ok (fun x => [mk x]) wt) (ht : P.underlying t = some u) (hu : (match u with | .struct _ | .array _ _ => False | _ => True)) : OpensV P t α ok mk wt := by
  intro H enc w base fuel v d ps hok hd
  have hv : v.cells.toList = [v] := by
    cases v <;> first | rfl | skip
    unfold Value.okWide at hok
    rw [ht] at hok
    cases u <;> first | exact hu.elim | (simp [Cell.okWide, Cell.ok, ht] at hok; done)
  rw [hv] at hd
  obtain ⟨x, x1, x2, x3, x4⟩ := h.run enc w fuel [v] d ps hd
  exact ⟨x, x1, x2, x4 0 (mk x) v rfl rfl⟩
def OpensA (P : Program) (ts : List TypeId) (α : Type) (ok : α → Prop) (l : α → List AVal) (wt : α → Nat) : Prop :=
  ∀ {H : Type} (enc : TypeId × Value → H) (w : World) (base : Nat) (vs : List Value) (ds : List (DataW H)) (ps : List MemPlace), (∀ (j : Nat) t v, ts[j]? = some t → vs[j]? = some v → Value.okWide P w .any base t v) →
    DataW.TrodAll enc P w 0 (fun _ => true) true ts vs ds ps → ∃ x : α, ok x ∧ wt x ≤ Rows.uptoBulkAll ds ∧ vs.length = (l x).length ∧ ∀ (n : Nat) (y : AVal) (v : Value), (l x)[n]? = some y → vs[n]? = some v → VR0 w y v
theorem OpensA.nil : OpensA P [] Unit (fun _ => True) (fun _ => []) (fun _ => 0) := by
  intro H enc w base vs ds ps _ h
  obtain ⟨rfl, rfl, rfl⟩ := trodAll_nil h
  exact ⟨(), trivial, Nat.zero_le _, rfl, fun n y v hy => by simp at hy⟩
theorem OpensA.cons {ts : List TypeId} {α β : Type} {ok : α → Prop} {ok' : β → Prop} {mk : α → AVal} {l : β → List AVal} {wt : α → Nat} {wt' : β → Nat} (h1 : OpensV P t α ok mk wt) (h2 : OpensA P ts β ok' l wt') :
    OpensA P (t :: ts) (α × β) (fun x => ok x.1 ∧ ok' x.2) (fun x => mk x.1 :: l x.2) (fun x => wt x.1 + wt' x.2) := by
  intro H enc w base vs ds ps hok h
  obtain ⟨v, vs', d, ds', p, q, rfl, rfl, rfl, ⟨fuel, hd⟩, hr⟩ := trodAll_cons h
  obtain ⟨x, x1, x2, x3⟩ := h1 enc w base fuel v d p (hok 0 t v rfl rfl) hd
  obtain ⟨y, y1, y2, y3, y4⟩ := h2 enc w base vs' ds' q (fun j t' v' ht hv => hok (j + 1) t' v' (by simpa using ht) (by simpa using hv)) hr
  refine ⟨(x, y), ⟨x1, y1⟩, ?_, by simpa using y3, fun n z u hz hu => ?_⟩
  · simp only [Rows.uptoBulkAll]
    omega
  · match n with
    | 0 => simp at hz hu; subst hz; subst hu; exact x3
    | n + 1 => exact y4 n z u (by simpa using hz) (by simpa using hu)
theorem OpensA.map {ts : List TypeId} {α β : Type} {ok : α → Prop} {ok' : β → Prop} {l : α → List AVal} {l' : β → List AVal} {wt : α → Nat} {wt' : β → Nat} (h : OpensA P ts α ok l wt) (g : α → β) (h1 : ∀ x, ok x → ok' (g x)) (h2 : ∀ x, l' (g x) = l x) (h3 : ∀ x, wt' (g x) ≤ wt x) :
    OpensA P ts β ok' l' wt' := by
  intro H enc w base vs ds ps hok ht
  obtain ⟨x, x1, x2, x3, x4⟩ := h enc w base vs ds ps hok ht
  exact ⟨g x, h1 x x1, Nat.le_trans (h3 x) x2, by rw [h2]; exact x3, by rw [h2]; exact x4⟩
end
theorem below_all {H : Type} {enc : TypeId × Value → H} {P : Program} (hl : laidOutB P = true) {W W' : World} (hb : Below W.heap.size W W') : ∀ {ts : List TypeId} {vs : List Value} {ds : List (DataW H)} {ps : List MemPlace}, (∀ t ∈ ts, P.readableRec t = true ∧ t < P.types.size) →
    DataW.TrodAll enc P W 0 (fun _ => true) true ts vs ds ps → (∀ x ∈ ps, x.block < W.heap.size) → DataW.TrodAll enc P W' 0 (fun b => decide (b < W.heap.size)) true ts vs ds ps
  | [], vs, ds, ps, _, h, _ => by
    obtain ⟨rfl, rfl, rfl⟩ := trodAll_nil h
    exact trodAll_mk0
  | t :: ts, vs, ds, ps, hr, h, hlt => by
    obtain ⟨v, vs', d, ds', p, q, rfl, rfl, rfl, hd, hrest⟩ := trodAll_cons h
    have h1 := hr t (by simp)
    exact trodAll_cons_mk (Below.trod hl h1.1 h1.2 hd hb fun x hx => hlt x (by simp [hx])) (below_all hl hb (fun t' ht' => hr t' (by simp [ht'])) hrest fun x hx => hlt x (by simp [hx]))
theorem contract_all {P : Program} {f : FuncId} {fn : Func} {α : Type} {ok : α → Prop} {l : α → List AVal} {wt : α → Nat} {s : ChangeSpec} (hfn : P.funcs[f]? = some fn) (hr : fn.resultTypes = #[4]) (hb : P.underlying 4 = some .bool)
    (hl : laidOutB P = true) (hre : ∀ t ∈ fn.params.toList, P.readableRec t = true ∧ t < P.types.size) (hvars : s.vars = [])
    (hsfn : ∀ (H : Type) (ds : List (DataW H)), ds.length = fn.params.size → s.fn H ds = { results := [.lit (.bool true)], args := ds })
    (ho : OpensA P fn.params.toList α ok l wt) (hEv : ∀ x, ok x → wt x ≤ 1048576 → Ev P f (l x) (.ret (.bool true)))
    (H : Type) (enc : TypeId × Value → H) (W : World) (base : Nat) (args : Array Value) (ds gs : List (DataW H)) (before : List MemPlace)
    (hval : ∀ (j : Nat) t v, fn.params[j]? = some t → args[j]? = some v → Value.okWide P W .any base t v)
    (hW : DataW.Whole enc P fn.params.toList s.vars false W args.toList ds gs before) (hk : Rows.uptoSmall H (ds ++ gs) = true) :
    Calls P f args W fun e W' => ∃ v, e = .returned v ∧ s.post enc P fn false true false false W args v W' := by
  have hW' := hW
  obtain ⟨p, q, hA, hV, rfl, hfz, hnd⟩ := hW
  rw [hvars] at hV
  obtain ⟨rfl, rfl⟩ := trodVars_none hV
  obtain ⟨x, x1, x2, x3, x4⟩ := ho enc W base args.toList ds p (fun j t v ht hv => hval j t v (by simpa using ht) (by simpa using hv)) hA
  have hlen : ds.length = fn.params.size := by
    have : ∀ (ts : List TypeId) (vs : List Value) (ds : List (DataW H)) (ps : List MemPlace), DataW.TrodAll enc P W 0 (fun _ => true) true ts vs ds ps → ds.length = ts.length := by
      intro ts
      induction ts with
      | nil => intro vs ds ps h; obtain ⟨_, rfl, _⟩ := trodAll_nil h; rfl
      | cons t ts ih =>
        intro vs ds ps h
        obtain ⟨v, vs', d, ds', p, q, rfl, rfl, rfl, _, hr⟩ := trodAll_cons h
        simp [ih _ _ _ hr]
    simpa using this _ _ _ _ hA
  have hsmall : Rows.uptoBulkAll ds ≤ 1048576 := by
    have : Rows.uptoBulkAll (ds ++ []) ≤ 1048576 := of_decide_eq_true hk
    simpa using this
  have hcall := (hEv x x1 (by omega)).2 (fun _ => False) W args ⟨fun _ => 0, fun _ _ => .int .i64 0, fun _ => none, fun _ _ => rfl⟩ (fun _ => rfl) (by simpa using x3) (fun i y v hy hv => x4 i y v hy (by simpa using hv) _ (fun _ => rfl)) (fun _ h => h.elim)
  refine hcall.mono ?_
  rintro e W' ⟨G', v', hG', hAdv, he, hr'⟩
  cases hr'
  subst he
  have hbel : Below W.heap.size W W' := ⟨hAdv.os.1, hAdv.tape, hAdv.output, hAdv.size, fun b hb => (hAdv.keep b hb rfl).1⟩
  have hlt : ∀ z ∈ p, z.block < W.heap.size := fun z hz => by simpa using hW'.lt z (by simpa using hz)
  refine ⟨.bool true, rfl, ds, [], p ++ [], [], p, [], hW', ?_, ?_, ?_, hbel.frame _, fun h => by cases h⟩
  · rw [hr, List.append_nil, hsfn H ds hlen]
    exact trodAll_cons_mk (p' := []) (shut_bool hb _) trodAll_mk0
  · rw [List.append_nil, hsfn H ds hlen]
    exact below_all hl hbel hre hA hlt
  · rw [hvars, List.append_nil, hsfn H ds hlen]
    rfl
theorem contract_of {P : Program} {f : FuncId} {fn : Func} {t : TypeId} {fs : Array Field} {α : Type} {ok : α → Prop} {c : α → List AVal} {wt : α → Nat} {s : ChangeSpec} (hfn : P.funcs[f]? = some fn) (hp : fn.params = #[t]) (hr : fn.resultTypes = #[4]) (hb : P.underlying 4 = some .bool)
    (ht : P.underlying t = some (.struct fs)) (hl : laidOutB P = true) (hre : P.readableRec t = true) (hrow : t < P.types.size) (hvars : s.vars = [])
    (hsfn : ∀ (H : Type) (d : DataW H), s.fn H [d] = { results := [.lit (.bool true)], args := [d] })
    (ho : Opens P t α ok c wt) (hEv : ∀ x, ok x → wt x ≤ 1048576 → Ev P f [.agg (c x)] (.ret (.bool true)))
    (H : Type) (enc : TypeId × Value → H) (W : World) (base : Nat) (args : Array Value) (ds gs : List (DataW H)) (before : List MemPlace)
    (hval : ∀ (j : Nat) t v, fn.params[j]? = some t → args[j]? = some v → Value.okWide P W .any base t v)
    (hW : DataW.Whole enc P fn.params.toList s.vars false W args.toList ds gs before) (hk : Rows.uptoSmall H (ds ++ gs) = true) :
    Calls P f args W fun e W' => ∃ v, e = .returned v ∧ s.post enc P fn false true false false W args v W' :=
  contract_all (α := α × Unit) (l := fun x => [.agg (c x.1)]) (wt := fun x => wt x.1 + 0) hfn hr hb hl (by rw [hp]; intro t' h'; simp at h'; subst h'; exact ⟨hre, hrow⟩) hvars
    (fun H ds h => by
      rw [hp] at h
      match ds, h with
      | [d], _ => exact hsfn H d)
    (by rw [hp]; exact OpensA.cons (ho.agg ht) OpensA.nil) (ok := fun x => ok x.1 ∧ True) (fun (x : α × Unit) (hx : ok x.1 ∧ True) hw => hEv x.1 hx.1 hw) H enc W base args ds gs before hval hW hk
end
theorem cells_int : Tryz.prog.cellsOf 3 = 1 := by kernel_rfl
theorem cells_ints : Tryz.prog.cellsOf 23 = 1 := by kernel_rfl
theorem cells_spans : Tryz.prog.cellsOf 24 = 1 := by kernel_rfl
theorem cells_Span : Tryz.prog.cellsOf 127 = 3 := by kernel_rfl
theorem cells_Dot : Tryz.prog.cellsOf 41 = 2 := by kernel_rfl
theorem cells_Past : Tryz.prog.cellsOf 26 = 2 := by kernel_rfl
theorem op_int : Opens Tryz.prog 3 Int inI64 (fun n => [.int .i64 n]) (fun _ => 1) := Opens.int Tryz.underlying3
theorem op_ints : Opens Tryz.prog 23 (List Int) (fun l => ∀ x ∈ l, inI64 x) (fun l => [.sl 1 (encIs l)]) (wtL fun _ => 1) :=
  Opens.slice (mk := encI) Tryz.underlying23 op_int cells_int (by decide) (fun _ => rfl) (fun _ => rfl) (fun x y hy => by simp at hy; subst hy; rfl)
def okS (s : Sn) : Prop := inI64 s.1 ∧ inI64 s.2.1 ∧ inI64 s.2.2
theorem op_Span : Opens Tryz.prog 127 Sn okS (fun s => [.int .i64 s.1, .int .i64 s.2.1, .int .i64 s.2.2]) (fun _ => 1) :=
  (Opens.struct Tryz.underlying127 cells_Span (OpensF.cons (k := 1) op_int (fun _ => rfl) cells_int rfl (OpensF.cons (k := 1) op_int (fun _ => rfl) cells_int rfl (OpensF.cons (k := 1) op_int (fun _ => rfl) cells_int rfl (OpensF.nil _))))).map
    (fun x => (x.1, x.2.1, x.2.2.1)) (fun x h => ⟨h.1, h.2.1, h.2.2.1⟩) (fun _ => rfl) (fun _ => Nat.le_add_left _ _)
theorem op_spans : Opens Tryz.prog 24 (List Sn) (fun l => ∀ x ∈ l, okS x) (fun l => [.sl 3 (encSs l)]) (wtL fun _ => 1) :=
  Opens.slice (mk := encS) Tryz.underlying24 op_Span
    cells_Span (by decide) (fun _ => rfl) (fun _ => rfl) (fun x y hy => by simp at hy; rcases hy with rfl | rfl | rfl <;> rfl)
def okD (s : Rn) : Prop := inI64 s.1 ∧ inI64 s.2
theorem op_Dot : Opens Tryz.prog 41 Rn okD (fun x => [.int .i64 x.1, .int .i64 x.2]) (fun _ => 1) :=
  (Opens.struct Tryz.underlying41 cells_Dot (OpensF.cons (k := 1) op_int (fun _ => rfl) cells_int rfl (OpensF.cons (k := 1) op_int (fun _ => rfl) cells_int rfl (OpensF.nil _)))).map
    (fun x => (x.1, x.2.1)) (fun x h => ⟨h.1, h.2.1⟩) (fun _ => rfl) (fun _ => Nat.le_add_left _ _)
def okP (p : Pst) : Prop := (∀ x ∈ p.vec, inI64 x) ∧ ∀ s ∈ p.cloud, okS s
theorem wtL_one {α : Type} (l : List α) : wtL (fun _ => 1) l = l.length + 1 := by
  unfold wtL
  induction l with
  | nil => rfl
  | cons x l ih => simp only [List.map_cons, List.sum_cons, List.length_cons]; omega
theorem op_Past : Opens Tryz.prog 26 Pst okP (fun p => [.sl 1 (encIs p.vec), .sl 3 (encSs p.cloud)]) wt :=
  (Opens.struct Tryz.underlying26 cells_Past (OpensF.cons (k := 1) op_ints (fun _ => rfl) cells_ints rfl (OpensF.cons (k := 1) op_spans (fun _ => rfl) cells_spans rfl (OpensF.nil _)))).map (fun x => ⟨x.1, x.2.1⟩) (fun x h => ⟨h.1, h.2.1⟩) (fun _ => rfl)
    (fun x => by show x.1.length + x.2.1.length ≤ wtL (fun _ => 1) x.1 + (wtL (fun _ => 1) x.2.1 + 0) + 1; rw [wtL_one, wtL_one]; omega)
structure Cas where
  a : Pst
  b : Pst
  c : Pst
  ds : List Rn
  rep : Int
  most : Int
theorem own : ownKnob Tryz.prog.godebug = none := by kernel_rfl

theorem ev_k77 (p : Pst) (r : Int) (hw : wt p ≤ 400000000) : Ev (En Tryz.prog rfl).P 77 [encP p, .int .i64 r] (.ret (.int .i64 (lastP p r))) := by
  have h1 := ev_k129 [p] (by simp) (by simpa using (show wt p ≤ 800000000 by omega))
  have h2 := ev_k127_of p (meanT [p]) (meanT_len [p]) h1
  have h3 := ev_k77_of p (meanT [p]) (meanT_len [p]) (fun l hl => ?_) r h2
  · rw [last_eq] at h3
    exact h3
  · unfold meanT at hl
    obtain ⟨row, hrow, rfl⟩ := List.mem_map.1 hl
    refine ⟨?_, fun x hx => ?_⟩
    · obtain ⟨i, hi, rfl⟩ := List.getElem_of_mem hrow
      have h := (openT_le [p]).2 i
      rw [List.getD_eq_getElem?_getD, List.getElem?_eq_getElem hi] at h
      simp only [Option.getD_some, List.map_cons, List.map_nil, List.sum_cons, List.sum_nil] at h
      have h2 := normR_len (openT [p])[i]
      unfold turnsR
      rw [turnsC_len]
      omega
    · have := turnsC_bound (normR_can row) x hx
      omega





def bothR (x y : Rn) : Rn := (max x.1 y.1, min x.2 y.2)
def one0 (r : Rn) : List Rn := if r.1 ≤ r.2 then [r] else []
def meetR : List Rn → List Rn → List Rn
  | [], _ => []
  | _ :: _, [] => []
  | x :: l, y :: m => one0 (bothR x y) ++ if x.2 < y.2 then meetR l (y :: m) else meetR (x :: l) m
termination_by l m => l.length + m.length
theorem meetR_nil (l : List Rn) : meetR l [] = [] := by cases l <;> simp [meetR]
theorem meetR_cons (x y : Rn) (l m : List Rn) : meetR (x :: l) (y :: m) = one0 (bothR x y) ++ if x.2 < y.2 then meetR l (y :: m) else meetR (x :: l) m := by
  conv => lhs; unfold meetR
structure MtS where
  i : Nat
  j : Nat
  o : List Rn
def othersFrom : Int → List Rn → List Rn
  | k, [] => one0 (k, 1000000000)
  | k, r :: l => (if k < r.1 then [(k, r.1 - 1)] else []) ++ othersFrom (r.2 + 1) l
def othersR (l : List Rn) : List Rn := othersFrom 1 l
structure OtS where
  i : Nat
  k : Int
  o : List Rn

theorem inR_one0 (x : Rn) (n : Int) : inR (one0 x) n ↔ x.1 ≤ n ∧ n ≤ x.2 := by
  unfold one0
  by_cases h : x.1 ≤ x.2
  · rw [if_pos h]; exact inR_one x n
  · rw [if_neg h]
    constructor
    · intro hh; exact absurd hh (inR_nil n)
    · intro hh; omega
theorem meetR_in : ∀ {l m : List Rn}, Can l → Can m → ∀ n, inR (meetR l m) n ↔ inR l n ∧ inR m n
  | [], m, _, _, n => by
    unfold meetR
    constructor
    · intro h; exact absurd h (inR_nil n)
    · intro h; exact absurd h.1 (inR_nil n)
  | x :: l, [], _, _, n => by
    rw [meetR_nil]
    constructor
    · intro h; exact absurd h (inR_nil n)
    · intro h; exact absurd h.2 (inR_nil n)
  | x :: l, y :: m, hl, hm, n => by
    rw [meetR_cons, inR_append, inR_one0, inR_cons, inR_cons]
    have a := fun h => hl.above (n := n) h
    have b := fun h => hm.above (n := n) h
    unfold bothR
    by_cases h : x.2 < y.2
    · rw [if_pos h, meetR_in hl.tail hm n, inR_cons]
      constructor
      · rintro (h1 | ⟨h1, h2⟩)
        · exact ⟨.inl (by omega), .inl (by omega)⟩
        · exact ⟨.inr h1, h2⟩
      · rintro ⟨h1 | h1, h2⟩
        · rcases h2 with h2 | h2
          · exact .inl (by omega)
          · have := b h2; omega
        · exact .inr ⟨h1, h2⟩
    · rw [if_neg h, meetR_in hl hm.tail n, inR_cons]
      constructor
      · rintro (h1 | ⟨h1, h2⟩)
        · exact ⟨.inl (by omega), .inl (by omega)⟩
        · exact ⟨h1, .inr h2⟩
      · rintro ⟨h1, h2 | h2⟩
        · rcases h1 with h1 | h1
          · exact .inl (by omega)
          · have := a h1; omega
        · exact .inr ⟨h1, h2⟩
termination_by l m => l.length + m.length
theorem meetR_len : ∀ l m : List Rn, (meetR l m).length ≤ l.length + m.length
  | [], m => by unfold meetR; simp
  | x :: l, [] => by rw [meetR_nil]; simp
  | x :: l, y :: m => by
    rw [meetR_cons, List.length_append]
    have h0 : (one0 (bothR x y)).length ≤ 1 := by unfold one0; split <;> simp
    by_cases h : x.2 < y.2
    · rw [if_pos h]
      have := meetR_len l (y :: m)
      simp only [List.length_cons] at *
      omega
    · rw [if_neg h]
      have := meetR_len (x :: l) m
      simp only [List.length_cons] at *
      omega
termination_by l m => l.length + m.length
theorem othersFrom_in : ∀ {l : List Rn} (k : Int), Can l → 1 ≤ k → (∀ n, inR l n → k ≤ n) → ∀ n, inR (othersFrom k l) n ↔ k ≤ n ∧ n ≤ 1000000000 ∧ ¬ inR l n
  | [], k, _, hk, _, n => by
    unfold othersFrom
    rw [inR_one0]
    constructor
    · intro h; exact ⟨h.1, h.2, inR_nil n⟩
    · intro h; exact ⟨h.1, h.2.1⟩
  | r :: l, k, hl, hk, hb, n => by
    have hr := (Can.cons_iff.1 hl).1
    unfold okR at hr
    have hkr : k ≤ r.1 := hb r.1 ((inR_cons r l _).2 (.inl ⟨Int.le_refl _, hr.2.1⟩))
    have ih := othersFrom_in (l := l) (r.2 + 1) hl.tail (by omega) (fun n h => by have := hl.above h; omega) n
    show inR ((if k < r.1 then [(k, r.1 - 1)] else []) ++ othersFrom (r.2 + 1) l) n ↔ _
    rw [inR_append, ih, inR_cons]
    have a := fun h => hl.above (n := n) h
    by_cases h : k < r.1
    · rw [if_pos h, inR_one]
      constructor
      · rintro (h1 | ⟨h1, h2, h3⟩)
        · exact ⟨by omega, by omega, fun h4 => by
            rcases h4 with h4 | h4
            · omega
            · have := a h4; omega⟩
        · exact ⟨by omega, h2, fun h4 => by
            rcases h4 with h4 | h4
            · omega
            · exact h3 h4⟩
      · rintro ⟨h1, h2, h3⟩
        by_cases h4 : n < r.1
        · exact .inl (by omega)
        · refine .inr ⟨?_, h2, fun h5 => h3 (.inr h5)⟩
          have : ¬ (r.1 ≤ n ∧ n ≤ r.2) := fun h5 => h3 (.inl h5)
          omega
    · rw [if_neg h]
      constructor
      · rintro (h1 | ⟨h1, h2, h3⟩)
        · exact absurd h1 (inR_nil n)
        · exact ⟨by omega, h2, fun h4 => by
            rcases h4 with h4 | h4
            · omega
            · exact h3 h4⟩
      · rintro ⟨h1, h2, h3⟩
        refine .inr ⟨?_, h2, fun h5 => h3 (.inr h5)⟩
        have : ¬ (r.1 ≤ n ∧ n ≤ r.2) := fun h5 => h3 (.inl h5)
        omega
theorem othersFrom_len : ∀ (l : List Rn) (k : Int), (othersFrom k l).length ≤ l.length + 1
  | [], k => by unfold othersFrom one0; split <;> simp
  | r :: l, k => by
    have := othersFrom_len l (r.2 + 1)
    show ((if k < r.1 then [(k, r.1 - 1)] else []) ++ othersFrom (r.2 + 1) l).length ≤ _
    rw [List.length_append, List.length_cons]
    split <;> simp <;> omega
theorem othersR_in {l : List Rn} (h : Can l) (n : Int) : inR (othersR l) n ↔ 1 ≤ n ∧ n ≤ 1000000000 ∧ ¬ inR l n :=
  othersFrom_in 1 h (by omega) (fun n hn => (h.bound hn).1) n
def minusR (a b : List Rn) : List Rn := meetR (normR a) (normR (othersR (normR b)))
theorem minusR_in (a b : List Rn) (n : Int) : inR (minusR a b) n ↔ mem1 a n ∧ ¬ mem1 b n := by
  unfold minusR
  rw [meetR_in (normR_can _) (normR_can _), normR_in, normR_in]
  constructor
  · rintro ⟨h1, h2⟩
    refine ⟨h1, fun h3 => ?_⟩
    have := (othersR_in (normR_can b) n).1 h2.2.2
    exact this.2.2 ((normR_in b n).2 h3)
  · rintro ⟨h1, h2⟩
    refine ⟨h1, h1.1, h1.2.1, (othersR_in (normR_can b) n).2 ⟨h1.1, h1.2.1, fun h3 => h2 ((normR_in b n).1 h3)⟩⟩


def r_k92_1 : List SOp := [⟨some 1,.box 26 (.tmp 0),none⟩,⟨some 2,.assign (.const (.bool false)),none⟩]
instance : Live r_k92_1 := ⟨[0]⟩
def r_k92_2 : List SOp := [⟨some 3,.load 26 (.tmp 1),none⟩,⟨some 4,.call ⟨.value (.func 132),#[.tmp 3],#[26]⟩,none⟩,⟨some 5,.binOp .eql 3 (.tmp 4) (.const (.int .i64 0)) 3,none⟩,⟨some 2,.assign (.tmp 5),none⟩]
instance : Live r_k92_2 := ⟨[1]⟩
def t_k92 : SC :=
  (.seq (.ops false r_k92_1) (.seq (.ops false r_k92_2) .ret))
theorem it_k92 : FnIs Tryz.prog 92 6 [.tmp 2] t_k92 := ⟨Tryz.f92, _, Tryz.func92, rfl, rfl, rfl, rfl, by kernel_rfl⟩

theorem minusR_len (a b : List Rn) : (minusR a b).length ≤ a.length + b.length + 1 := by
  have h1 := meetR_len (normR a) (normR (othersR (normR b)))
  have h2 := normR_len a
  have h3 := normR_len (othersR (normR b))
  have h4 := othersFrom_len (normR b) 1
  have h5 := normR_len b
  unfold minusR othersR at *
  omega
def WithP (t u : Tab) : Prop := ∀ r, r < 16 → minusR (t.getD r []) (u.getD r []) = []
open Classical in
noncomputable def withinP (p q : Pst) : Bool := decide (WithP (openT [p]) (openT [q]))
theorem withinP_true {p q : Pst} (h : WithP (openT [p]) (openT [q])) : withinP p q = true := by
  classical
  exact decide_eq_true h
theorem withinP_false {p q : Pst} (h : ¬ WithP (openT [p]) (openT [q])) : withinP p q = false := by
  classical
  exact decide_eq_false h
theorem meetR_ok : ∀ (l m : List Rn), ∀ r ∈ meetR l m, r.1 ≤ r.2
  | [], m, r, h => by unfold meetR at h; simp at h
  | x :: l, [], r, h => by rw [meetR_nil] at h; simp at h
  | x :: l, y :: m, r, h => by
    rw [meetR_cons] at h
    rcases List.mem_append.1 h with h | h
    · unfold one0 at h
      split at h
      · rename_i hc
        simp at h
        subst h
        exact hc
      · simp at h
    · split at h
      · exact meetR_ok l (y :: m) r h
      · exact meetR_ok (x :: l) m r h
termination_by l m => l.length + m.length
theorem withP_iff {t u : Tab} : WithP t u ↔ ∀ r, r < 16 → ∀ n, inT t r n → inT u r n := by
  constructor
  · intro h r hr n hn
    by_cases h' : inT u r n
    · exact h'
    · have := (minusR_in (t.getD r []) (u.getD r []) n).2 ⟨hn, h'⟩
      rw [h r hr] at this
      exact absurd this (inR_nil n)
  · intro h r hr
    cases hm : minusR (t.getD r []) (u.getD r []) with
    | nil => rfl
    | cons x l =>
      have hx : x ∈ minusR (t.getD r []) (u.getD r []) := by rw [hm]; exact List.mem_cons_self
      have hok := meetR_ok _ _ x hx
      have := (minusR_in (t.getD r []) (u.getD r []) x.1).1 ⟨x, hx, Int.le_refl _, hok⟩
      exact absurd (h r hr x.1 this.1) this.2
theorem withinP_iff {p q : Pst} : withinP p q = true ↔ ∀ r, r < 16 → ∀ n, inP p r n → inP q r n := by
  have h : WithP (openT [p]) (openT [q]) ↔ ∀ r, r < 16 → ∀ n, inP p r n → inP q r n := by
    rw [withP_iff]
    constructor
    · intro h r hr n
      have := h r hr n
      rw [open_in hr, open_in hr] at this
      simpa using this
    · intro h r hr n
      rw [open_in hr, open_in hr]
      simpa using h r hr n
  rw [← h]
  constructor
  · intro h1
    by_cases h2 : WithP (openT [p]) (openT [q])
    · exact h2
    · rw [withinP_false h2] at h1; simp at h1
  · exact withinP_true
theorem ev_k92 (p : Pst) (hp : wt p ≤ 50000000) : Ev (En Tryz.prog rfl).P 92 [encP p] (.ret (.bool (decide (sizeP p = 0)))) := by
  refine Ev.of_body it_k92 (by simp) (Run.start ?_)
  unfold t_k92 encP
  (focus (have hF := True.intro; (repeat' (first | refine go1 (k:=?_) | with_reducible refine Ny.of ?_ ?_ | (refine Hyp.of ?_; intro hc; (try simp only [hc]); (try simp only [Bh] at hc)))); all_goals clear hF))
  refine stCall [encP p] (he := ev_k132 p hp) (k:=?_)
  (focus (have hF := True.intro; (repeat' (first | refine go1 (k:=?_) | with_reducible refine Ny.of ?_ ?_ | (refine Hyp.of ?_; intro hc; (try simp only [hc]); (try simp only [Bh] at hc)))); all_goals clear hF))
  exact Fin.tmp' rfl rfl



def minusT (p q : Pst) (r : Nat) : List Rn := minusR ((openT [p]).getD r []) ((openT [q]).getD r [])
def minusP (p q : Pst) : Pst := pastT ((List.range 16).map (minusT p q))
theorem open_row (p : Pst) (r : Nat) : ((openT [p]).getD r []).length ≤ wt p := by
  have : TabLe (openT [p]) (wt p) := by simpa using openT_le [p]
  exact this.2 r

theorem rows_in {h : Nat → List Rn} {r : Nat} (hr : r < 16) (n : Int) : inP (pastT ((List.range 16).map h)) r n ↔ mem1 (h r) n := by
  rw [past_in _ hr]
  unfold inT
  have : ((List.range 16).map h).getD r [] = h r := by
    rw [List.getD_eq_getElem?_getD, List.getElem?_map, List.getElem?_range hr]
    rfl
  rw [this]
theorem inP_row (p : Pst) {r : Nat} (hr : r < 16) (n : Int) : mem1 ((openT [p]).getD r []) n ↔ inP p r n := by
  show inT (openT [p]) r n ↔ _
  rw [open_in hr]
  simp
theorem minusP_in (p q : Pst) {r : Nat} (hr : r < 16) (n : Int) : inP (minusP p q) r n ↔ inP p r n ∧ ¬ inP q r n := by
  unfold minusP
  rw [rows_in hr, ← inP_row p hr, ← inP_row q hr]
  unfold minusT
  constructor
  · rintro ⟨h1, h2, h3⟩
    exact (minusR_in _ _ n).1 h3
  · intro h
    exact ⟨h.1.1, h.1.2.1, (minusR_in _ _ n).2 h⟩
theorem canP_minus (p q : Pst) : CanP (minusP p q) := canP_of _ (by simp)

def r_k148_1 : List SOp := [⟨some 3,.box 168 (.tmp 0),none⟩,⟨some 4,.box 168 (.tmp 1),none⟩,⟨some 6,.alloc 168,none⟩]
instance : Live r_k148_1 := ⟨[0,1,2]⟩
def r_k148_2 : List SOp := [⟨some 7,.alloc 168,none⟩]
instance : Live r_k148_2 := ⟨[2,3,4,6]⟩
def r_k148_3 : List SOp := [⟨some 8,.assign (.const (.int .i64 0)),none⟩]
instance : Live r_k148_3 := ⟨[2,3,4,6,7]⟩
def r_k148_4 : List SOp := [⟨some 9,.move (.tmp 8),none⟩,⟨some 10,.binOp .lss 3 (.tmp 9) (.const (.int .i64 16)) 3,none⟩]
instance : Live r_k148_4 := ⟨[2,3,4,6,7,8]⟩
def r_k148_5 : List SOp := [⟨some 13,.move (.tmp 8),none⟩,⟨some 14,.move (.tmp 8),none⟩,⟨some 15,.fieldAddr 168 (.tmp 3) 0,none⟩,⟨some 16,.indexAddr 166 (.tmp 15) (.tmp 14),none⟩,⟨some 17,.load 23 (.tmp 16),none⟩,⟨some 18,.move (.tmp 8),none⟩,⟨some 19,.fieldAddr 168 (.tmp 4) 0,none⟩,⟨some 20,.indexAddr 166 (.tmp 19) (.tmp 18),none⟩,⟨some 21,.load 23 (.tmp 20),none⟩,⟨some 22,.move (.tmp 2),none⟩,⟨some 23,.call ⟨.value (.func 166),#[.tmp 17,.tmp 21,.tmp 22],#[23,23,3]⟩,none⟩,⟨some 24,.fieldAddr 168 (.tmp 7) 0,none⟩,⟨some 25,.indexAddr 166 (.tmp 24) (.tmp 13),none⟩,⟨none,.store 23 (.tmp 25) (.tmp 23),none⟩]
instance : Live r_k148_5 := ⟨[2,3,4,6,7,8]⟩
def r_k148_6 : List SOp := [⟨some 11,.move (.tmp 8),none⟩,⟨some 12,.binOp .add 3 (.tmp 11) (.const (.int .i64 1)) 3,none⟩,⟨some 8,.assign (.tmp 12),none⟩]
instance : Live r_k148_6 := ⟨[2,3,4,6,7,8]⟩
def r_k148_7 : List SOp := [⟨some 26,.load 168 (.tmp 7),none⟩,⟨none,.store 168 (.tmp 6) (.tmp 26),none⟩]
instance : Live r_k148_7 := ⟨[6,7]⟩
def t_k148_l1 : SC :=
  (.seq (.seq (.ops false r_k148_4) (.cond (.tmp 10) .skip (.exit 0))) (.seq (.block 1 (.ops true r_k148_5)) (.ops false r_k148_6)))
def t_k148 : SC :=
  (.seq (.ops false r_k148_1) (.seq (.ops false r_k148_2) (.seq (.seq (.ops false r_k148_3) (.block 0 (.loop t_k148_l1))) (.seq (.ops false r_k148_7) .ret))))
theorem it_k148 : FnIs Tryz.prog 148 27 [.cell 6 168] t_k148 := ⟨Tryz.f148, _, Tryz.func148, rfl, rfl, rfl, rfl, by kernel_rfl⟩

def r_k117_1 : List SOp := [⟨some 1,.box 26 (.tmp 0),none⟩,⟨some 2,.alloc 26,none⟩]
instance : Live r_k117_1 := ⟨[0]⟩
def r_k117_2 : List SOp := [⟨some 3,.load 26 (.tmp 1),none⟩,⟨some 4,.call ⟨.value (.func 127),#[.tmp 3],#[26]⟩,none⟩,⟨some 5,.call ⟨.value (.func 128),#[.tmp 4],#[168]⟩,none⟩,⟨none,.store 26 (.tmp 2) (.tmp 5),none⟩]
instance : Live r_k117_2 := ⟨[1,2]⟩
def t_k117 : SC :=
  (.seq (.ops false r_k117_1) (.seq (.ops false r_k117_2) .ret))
theorem it_k117 : FnIs Tryz.prog 117 6 [.cell 2 26] t_k117 := ⟨Tryz.f117, _, Tryz.func117, rfl, rfl, rfl, rfl, by kernel_rfl⟩

def r_k79_1 : List SOp := [⟨some 2,.alloc 26,none⟩]
instance : Live r_k79_1 := ⟨[0]⟩
def r_k79_2 : List SOp := [⟨some 3,.move (.tmp 0),none⟩,⟨some 4,.call ⟨.value (.func 129),#[.tmp 3],#[116]⟩,none⟩,⟨some 5,.call ⟨.value (.func 128),#[.tmp 4],#[168]⟩,none⟩,⟨none,.store 26 (.tmp 2) (.tmp 5),none⟩]
instance : Live r_k79_2 := ⟨[0,2]⟩
def t_k79 : SC :=
  (.seq (.ops false r_k79_1) (.seq (.ops false r_k79_2) .ret))
theorem it_k79 : FnIs Tryz.prog 79 6 [.cell 2 26] t_k79 := ⟨Tryz.f79, _, Tryz.func79, rfl, rfl, rfl, rfl, by kernel_rfl⟩

def r_k120_1 : List SOp := [⟨some 2,.box 26 (.tmp 0),none⟩,⟨some 3,.box 26 (.tmp 1),none⟩,⟨some 4,.alloc 26,none⟩]
instance : Live r_k120_1 := ⟨[0,1]⟩
def r_k120_2 : List SOp := [⟨some 5,.load 26 (.tmp 2),none⟩,⟨some 6,.call ⟨.value (.func 127),#[.tmp 5],#[26]⟩,none⟩,⟨some 7,.load 26 (.tmp 3),none⟩,⟨some 8,.call ⟨.value (.func 127),#[.tmp 7],#[26]⟩,none⟩,⟨some 9,.call ⟨.value (.func 148),#[.tmp 6,.tmp 8,.const (.int .i64 2)],#[168,168,3]⟩,none⟩,⟨some 10,.call ⟨.value (.func 128),#[.tmp 9],#[168]⟩,none⟩,⟨none,.store 26 (.tmp 4) (.tmp 10),none⟩]
instance : Live r_k120_2 := ⟨[2,3,4]⟩
def t_k120 : SC :=
  (.seq (.ops false r_k120_1) (.seq (.ops true r_k120_2) .ret))
theorem it_k120 : FnIs Tryz.prog 120 11 [.cell 4 26] t_k120 := ⟨Tryz.f120, _, Tryz.func120, rfl, rfl, rfl, rfl, by kernel_rfl⟩

def rowsT (h : Nat → List Rn) : Tab := (List.range 16).map h
theorem rowsT_get (h : Nat → List Rn) {r : Nat} (hr : r < 16) : (rowsT h).getD r [] = h r := by
  unfold rowsT
  rw [List.getD_eq_getElem?_getD, List.getElem?_map, List.getElem?_range hr]
  rfl
theorem rowsT_len (h : Nat → List Rn) : (rowsT h).length = 16 := by simp [rowsT]
theorem ev_k148 (A B : List (List Int)) (hA : A.length = 16) (hB : B.length = 16) (h : Nat → List Rn) (rule : Int)
    (hrow : ∀ r, r < 16 → Ev (En Tryz.prog rfl).P 166 [.sl 1 (encIs (A.getD r [])), .sl 1 (encIs (B.getD r [])), .int .i64 rule] (.ret (.sl 1 (encIs (turnsR (h r)))))) :
    Ev (En Tryz.prog rfl).P 148 [.agg (encSet A), .agg (encSet B), .int .i64 rule] (.ret (.agg (encSet ((rowsT h).map turnsR)))) := by
  refine Ev.of_body it_k148 (by simp) (Run.start ?_)
  unfold t_k148
  have a1 : (encSet A).length = 16 := by simp [encSet, hA]
  have b1 : (encSet B).length = 16 := by simp [encSet, hB]
  have a2 := encSet_one A
  have b2 := encSet_one B
  have a3 := encSet_stb A
  have b3 := encSet_stb B
  have hu := rowsT_len h
  have hget := fun r hr => @rowsT_get h r hr
  generalize rowsT h = u at hu hget ⊢
  (focus (have hF := (And.intro (And.intro @a1 @b1) (And.intro @a2 @b2)); (repeat' (first | refine go1 (k:=?_) | with_reducible refine Ny.of ?_ ?_ | (refine Hyp.of ?_; intro hc; (try simp only [hc]); (try simp only [Bh] at hc)))); all_goals clear hF))
  refine Run.while (σ := Nat) (fun r => ⟨tms [(2, .int .i64 rule), (3, .ptr 3 0), (4, .ptr 4 0), (6, .ptr 6 0), (7, .ptr 7 0), (8, .int .i64 (r : Int))], mms [(3, .cells (encSet A)), (4, .cells (encSet B)), (6, .cells (List.replicate 16 .nil)), (7, .cells (setUpto u r))]⟩)
    (fun r => r ≤ 16) (fun r => 16 - r) 0 (have hW := (And.intro @a3 (And.intro @b3 @setUpto_stb)); stWk) (Nat.zero_le _) ?_
  intro r hr
  have g0 := setUpto_len u hu hr
  unfold t_k148_l1
  by_cases hlt : r < 16
  · have g1 := encSet_get (t := A) (r := r) (by omega)
    have g2 := encSet_get (t := B) (r := r) (by omega)
    have g5 := setUpto_set u hu hlt
    rw [hget r hlt] at g5
    have hc := hrow r hlt
    have g6 : (setUpto u r).take r ++ [AVal.sl 1 (encIs (turnsR (h r)))] ++ (setUpto u r).drop (r + 1) = setUpto u (r + 1) := by rw [← g5, List.set_eq_take_append_cons_drop, if_pos (by omega), List.append_assoc]; rfl
    (focus (have hF := (And.intro (And.intro @a1 @b1) (And.intro @g0 (And.intro @g1 @g2))); (repeat' (first | refine go1 (k:=?_) | with_reducible refine Ny.of ?_ ?_ | (refine Hyp.of ?_; intro hc; (try simp only [hc]); (try simp only [Bh] at hc)))); all_goals clear hF))
    refine stCall [.sl 1 (encIs (A.getD r [])), .sl 1 (encIs (B.getD r [])), .int .i64 rule] (he := hc) (k:=?_)
    (focus (have hF := (And.intro (And.intro @a1 @b1) (And.intro @g0 (And.intro @g1 @g2))); (repeat' (first | refine go1 (k:=?_) | with_reducible refine Ny.of ?_ ?_ | (refine Hyp.of ?_; intro hc; (try simp only [hc]); (try simp only [Bh] at hc)))); all_goals clear hF))
    rw [g6]
    (refine Fin.nextW (r + 1) ?_ (have hW := (And.intro @a3 (And.intro @b3 @setUpto_stb)); stWk); (try dsimp only))
    omega
  · have hre : r = 16 := by omega
    subst hre
    have q1 := setUpto_all u hu
    have q2 : (encSet (u.map turnsR)).length = 16 := by simp [encSet, hu]
    have q3 := encSet_one (u.map turnsR)
    rw [q1]
    have htk : (encSet (u.map turnsR)).take 16 = encSet (u.map turnsR) := List.take_of_length_le (by omega)
    have q4 : (encSet (u.map turnsR)).all AVal.plain = true := by
      rw [List.all_eq_true]
      intro x hx
      obtain ⟨l, _, rfl⟩ := List.mem_map.1 hx
      rfl
    have q5 : (List.replicate 16 AVal.nil).drop 16 = [] := rfl
    (focus (have hF := (And.intro (And.intro @q2 (And.intro @q3 @q4)) (And.intro @q5 (And.intro @htk @List.length_replicate.{0}))); (repeat' (first | refine go1 (k:=?_) | with_reducible refine Ny.of ?_ ?_ | (refine Hyp.of ?_; intro hc; (try simp only [hc]); (try simp only [Bh] at hc)))); all_goals clear hF))
    refine Fin.all (xs := [.agg (encSet (u.map turnsR))]) ?_ (by simp [stbs, AVal.stb, encSet_stb]) rfl
    simp [resAll, resOne, En_TE, TE_0, TE_3, TE_16, TE_23, TE_24, TE_26, TE_116, TE_127, TE_166, TE_168, TE_247, TE_249, TD.isAgg, upd, tms, q2, htk, encSet_fz]
theorem ev_k127 (p : Pst) (hw : wt p ≤ 800000000) : Ev (En Tryz.prog rfl).P 127 [encP p] (.ret (.agg (encSet (meanT [p])))) :=
  ev_k127_of p (meanT [p]) (meanT_len [p]) (ev_k129 [p] (by simp) (by simpa using hw))
theorem encSet_fzc (K : Nat → Bool) (M : Mem) (t : List (List Int)) : (encSet t).map (fzc K M) = encSet t := by
  unfold encSet
  rw [List.map_map]
  rfl
theorem ev_k117 (p : Pst) (hw : wt p ≤ 40000000) : Ev (En Tryz.prog rfl).P 117 [encP p] (.ret (encP (normP p))) := by
  have c1 := ev_k127 p (by omega)
  have c2 := ev_k128 (openT [p]) (n := wt p) (by simpa using openT_le [p]) (by omega)
  refine Ev.of_body it_k117 (by simp) (Run.start ?_)
  unfold t_k117 encP
  have hS := encSet_stb
  have hL := encSet_fzc
  (focus (have hF := True.intro; (repeat' (first | refine go1 (k:=?_) | with_reducible refine Ny.of ?_ ?_ | (refine Hyp.of ?_; intro hc; (try simp only [hc]); (try simp only [Bh] at hc)))); all_goals clear hF))
  refine stCall [encP p] (he := c1) (k:=?_)
  (focus (have hF := True.intro; (repeat' (first | refine go1 (k:=?_) | with_reducible refine Ny.of ?_ ?_ | (refine Hyp.of ?_; intro hc; (try simp only [hc]); (try simp only [Bh] at hc)))); all_goals clear hF))
  refine stCall [.agg (encSet (meanT [p]))] (he := c2) (k:=?_)
  unfold normP encP
  (focus (have hF := True.intro; (repeat' (first | refine go1 (k:=?_) | with_reducible refine Ny.of ?_ ?_ | (refine Hyp.of ?_; intro hc; (try simp only [hc]); (try simp only [Bh] at hc)))); all_goals clear hF))
  exact Fin.all rfl (by simp [stbs, AVal.stb, encIs_stb, encSs_stb, fzc, allK]) rfl
theorem ev_k79 (ps : List Pst) (hl : ps.length ≤ 1000000000) (hw : (ps.map wt).sum ≤ 40000000) : Ev (En Tryz.prog rfl).P 79 [.sl 2 (encPs ps)] (.ret (encP (joinP ps))) := by
  have c1 := ev_k129 ps hl (by omega)
  have c2 := ev_k128 (openT ps) (n := (ps.map wt).sum) (openT_le ps) (by omega)
  refine Ev.of_body it_k79 (by simp) (Run.start ?_)
  unfold t_k79
  have hS := encSet_stb
  have hL := encSet_fzc
  (focus (have hF := True.intro; (repeat' (first | refine go1 (k:=?_) | with_reducible refine Ny.of ?_ ?_ | (refine Hyp.of ?_; intro hc; (try simp only [hc]); (try simp only [Bh] at hc)))); all_goals clear hF))
  refine stCall [.sl 2 (encPs ps)] (he := c1) (k:=?_)
  (focus (have hF := True.intro; (repeat' (first | refine go1 (k:=?_) | with_reducible refine Ny.of ?_ ?_ | (refine Hyp.of ?_; intro hc; (try simp only [hc]); (try simp only [Bh] at hc)))); all_goals clear hF))
  refine stCall [.agg (encSet (meanT ps))] (he := c2) (k:=?_)
  unfold joinP encP
  (focus (have hF := True.intro; (repeat' (first | refine go1 (k:=?_) | with_reducible refine Ny.of ?_ ?_ | (refine Hyp.of ?_; intro hc; (try simp only [hc]); (try simp only [Bh] at hc)))); all_goals clear hF))
  exact Fin.all rfl (by simp [stbs, AVal.stb, encIs_stb, encSs_stb, fzc, allK]) rfl
theorem odd_turns {q : Int → Prop} {t : List Int} (h : Turns q t) (m : Int) : odd (cnt t m) = true ↔ q m := by rw [odd_iff, h.mem]
theorem turns_row (l : List Rn) : Turns (inR (normR l)) (turnsR l) := turnsC_ok (normR_can l)
theorem turnsR_len (l : List Rn) : (turnsR l).length ≤ 2 * l.length := by
  have := normR_len l
  unfold turnsR
  rw [turnsC_len]
  omega
theorem meanT_at (p : Pst) {r : Nat} (hr : r < 16) : (meanT [p]).getD r [] = turnsR ((openT [p]).getD r []) := meanT_row [p] hr
theorem minusT_mem (p q : Pst) (r : Nat) (m : Int) : mem1 (minusT p q r) m ↔ mem1 ((openT [p]).getD r []) m ∧ ¬ mem1 ((openT [q]).getD r []) m := by
  unfold minusT
  constructor
  · intro h
    exact (minusR_in _ _ m).1 h.2.2
  · intro h
    exact ⟨h.1.1, h.1.2.1, (minusR_in _ _ m).2 h⟩
theorem row_minus (p q : Pst) (hp : wt p ≤ 20000000) (hq : wt q ≤ 20000000) (r : Nat) (hr : r < 16) :
    Ev (En Tryz.prog rfl).P 166 [.sl 1 (encIs ((meanT [p]).getD r [])), .sl 1 (encIs ((meanT [q]).getD r [])), .int .i64 2] (.ret (.sl 1 (encIs (turnsR (minusT p q r))))) := by
  rw [meanT_at p hr, meanT_at q hr]
  have h1 := open_row p r
  have h2 := open_row q r
  refine ev_k166 (turns_row _) (turns_row _) (turns_row _) (by have := turnsR_len ((openT [p]).getD r []); omega) (by have := turnsR_len ((openT [q]).getD r []); omega) 2 (fun x y => x && !y) (.inr ⟨rfl, rfl⟩) fun m => ?_
  rw [Bool.and_eq_true, Bool.not_eq_true', odd_turns (turns_row _), normR_in, normR_in, minusT_mem]
  have := odd_turns (turns_row ((openT [q]).getD r [])) m
  rw [normR_in] at this
  rw [← this]
  cases odd (cnt (turnsR ((openT [q]).getD r [])) m) <;> simp
theorem rowsT_le (h : Nat → List Rn) {n : Nat} (hh : ∀ r, (h r).length ≤ n) : TabLe (rowsT h) n := by
  refine ⟨rowsT_len h, fun r => ?_⟩
  by_cases hr : r < 16
  · rw [rowsT_get h hr]; exact hh r
  · rw [List.getD_eq_getElem?_getD, List.getElem?_eq_none (by rw [rowsT_len]; omega)]; exact Nat.zero_le _
theorem minusT_len (p q : Pst) (r : Nat) : (minusT p q r).length ≤ wt p + wt q + 1 := by
  have h1 := minusR_len ((openT [p]).getD r []) ((openT [q]).getD r [])
  have h4 := open_row p r
  have h5 := open_row q r
  unfold minusT
  omega
theorem ev_k120 (p q : Pst) (hp : wt p ≤ 20000000) (hq : wt q ≤ 20000000) : Ev (En Tryz.prog rfl).P 120 [encP p, encP q] (.ret (encP (minusP p q))) := by
  have c1 := ev_k127 p (by omega)
  have c2 := ev_k127 q (by omega)
  have c3 := ev_k148 (meanT [p]) (meanT [q]) (meanT_len [p]) (meanT_len [q]) (minusT p q) 2 (row_minus p q hp hq)
  have c4 := ev_k128 (rowsT (minusT p q)) (rowsT_le _ (minusT_len p q)) (by omega)
  have hm : minusP p q = pastT (rowsT (minusT p q)) := rfl
  rw [hm]
  refine Ev.of_body it_k120 (by simp) (Run.start ?_)
  unfold t_k120 encP
  have hS := encSet_stb
  have hL := encSet_fzc
  (focus (have hF := True.intro; (repeat' (first | refine go1 (k:=?_) | with_reducible refine Ny.of ?_ ?_ | (refine Hyp.of ?_; intro hc; (try simp only [hc]); (try simp only [Bh] at hc)))); all_goals clear hF))
  refine stCall [encP p] (he := c1) (k:=?_)
  (focus (have hF := True.intro; (repeat' (first | refine go1 (k:=?_) | with_reducible refine Ny.of ?_ ?_ | (refine Hyp.of ?_; intro hc; (try simp only [hc]); (try simp only [Bh] at hc)))); all_goals clear hF))
  refine stCall [encP q] (he := c2) (k:=?_)
  (focus (have hF := True.intro; (repeat' (first | refine go1 (k:=?_) | with_reducible refine Ny.of ?_ ?_ | (refine Hyp.of ?_; intro hc; (try simp only [hc]); (try simp only [Bh] at hc)))); all_goals clear hF))
  refine stCall [.agg (encSet (meanT [p])), .agg (encSet (meanT [q])), .int .i64 2] (he := c3) (k:=?_)
  (focus (have hF := True.intro; (repeat' (first | refine go1 (k:=?_) | with_reducible refine Ny.of ?_ ?_ | (refine Hyp.of ?_; intro hc; (try simp only [hc]); (try simp only [Bh] at hc)))); all_goals clear hF))
  refine stCall [.agg (encSet ((rowsT (minusT p q)).map turnsR))] (he := c4) (k:=?_)
  unfold encP
  (focus (have hF := True.intro; (repeat' (first | refine go1 (k:=?_) | with_reducible refine Ny.of ?_ ?_ | (refine Hyp.of ?_; intro hc; (try simp only [hc]); (try simp only [Bh] at hc)))); all_goals clear hF))
  exact Fin.all rfl (by simp [stbs, AVal.stb, encIs_stb, encSs_stb, fzc, allK]) rfl

def r_k123_1 : List SOp := [⟨some 2,.box 26 (.tmp 0),none⟩,⟨some 3,.box 26 (.tmp 1),none⟩,⟨some 4,.assign (.const (.int .i64 0)),none⟩]
instance : Live r_k123_1 := ⟨[0,1]⟩
def r_k123_2 : List SOp := [⟨some 10,.load 26 (.tmp 2),none⟩,⟨some 11,.call ⟨.value (.func 64),#[.tmp 10],#[26]⟩,none⟩,⟨some 12,.load 26 (.tmp 3),none⟩,⟨some 13,.call ⟨.value (.func 64),#[.tmp 12],#[26]⟩,none⟩,⟨some 5,.alloc 26,none⟩,⟨some 6,.alloc 26,none⟩,⟨none,.store 26 (.tmp 5) (.tmp 11),none⟩,⟨none,.store 26 (.tmp 6) (.tmp 13),none⟩]
instance : Live r_k123_2 := ⟨[2,3]⟩
def r_k123_3 : List SOp := [⟨some 14,.move (.const (.int .i64 0)),none⟩]
instance : Live r_k123_3 := ⟨[5,6]⟩
def r_k123_4 : List SOp := [⟨some 15,.binOp .lss 3 (.tmp 14) (.const (.int .i64 16)) 3,none⟩]
instance : Live r_k123_4 := ⟨[5,6,14]⟩
def r_k123_5 : List SOp := [⟨some 16,.move (.tmp 14),none⟩,⟨some 7,.assign (.tmp 16),none⟩]
instance : Live r_k123_5 := ⟨[5,6,14]⟩
def r_k123_6 : List SOp := [⟨some 8,.assign (.const (.int .i64 0)),none⟩,⟨some 9,.assign (.const (.int .i64 0)),none⟩]
instance : Live r_k123_6 := ⟨[5,6,7,14]⟩
def r_k123_7 : List SOp := [⟨some 17,.move (.tmp 7),none⟩,⟨some 18,.fieldAddr 26 (.tmp 5) 0,none⟩,⟨some 19,.load 23 (.tmp 18),none⟩,⟨some 20,.call ⟨.builtin .len,#[.tmp 19],#[23]⟩,none⟩,⟨some 21,.binOp .lss 3 (.tmp 17) (.tmp 20) 3,none⟩]
instance : Live r_k123_7 := ⟨[5,6,7,8,9,14]⟩
def r_k123_8 : List SOp := [⟨some 22,.fieldAddr 26 (.tmp 5) 0,none⟩,⟨some 23,.load 23 (.tmp 22),none⟩,⟨some 24,.move (.tmp 7),none⟩,⟨some 25,.indexAddr 23 (.tmp 23) (.tmp 24),none⟩,⟨some 26,.load 3 (.tmp 25),none⟩,⟨some 8,.assign (.tmp 26),none⟩]
instance : Live r_k123_8 := ⟨[5,6,7,9,14]⟩
def r_k123_9 : List SOp := [⟨some 27,.move (.tmp 7),none⟩,⟨some 28,.fieldAddr 26 (.tmp 6) 0,none⟩,⟨some 29,.load 23 (.tmp 28),none⟩,⟨some 30,.call ⟨.builtin .len,#[.tmp 29],#[23]⟩,none⟩,⟨some 31,.binOp .lss 3 (.tmp 27) (.tmp 30) 3,none⟩]
instance : Live r_k123_9 := ⟨[5,6,7,8,9,14]⟩
def r_k123_10 : List SOp := [⟨some 32,.fieldAddr 26 (.tmp 6) 0,none⟩,⟨some 33,.load 23 (.tmp 32),none⟩,⟨some 34,.move (.tmp 7),none⟩,⟨some 35,.indexAddr 23 (.tmp 33) (.tmp 34),none⟩,⟨some 36,.load 3 (.tmp 35),none⟩,⟨some 9,.assign (.tmp 36),none⟩]
instance : Live r_k123_10 := ⟨[5,6,7,8,14]⟩
def r_k123_11 : List SOp := [⟨some 37,.move (.tmp 8),none⟩,⟨some 38,.move (.tmp 9),none⟩,⟨some 39,.binOp .neq 3 (.tmp 37) (.tmp 38) 3,none⟩]
instance : Live r_k123_11 := ⟨[5,6,8,9,14]⟩
def r_k123_12 : List SOp := [⟨some 40,.move (.tmp 8),none⟩,⟨some 41,.move (.tmp 9),none⟩,⟨some 42,.call ⟨.value (.func 149),#[.tmp 40,.tmp 41],#[3,3]⟩,none⟩,⟨some 4,.assign (.tmp 42),none⟩]
instance : Live r_k123_12 := ⟨[8,9]⟩
def r_k123_13 : List SOp := [⟨some 43,.binOp .add 3 (.tmp 14) (.const (.int .i64 1)) 3,none⟩,⟨some 14,.move (.tmp 43),none⟩]
instance : Live r_k123_13 := ⟨[5,6,14]⟩
def r_k123_14 : List SOp := [⟨some 44,.fieldAddr 26 (.tmp 5) 1,none⟩,⟨some 45,.load 24 (.tmp 44),none⟩,⟨some 46,.fieldAddr 26 (.tmp 6) 1,none⟩,⟨some 47,.load 24 (.tmp 46),none⟩,⟨some 48,.call ⟨.value (.func 150),#[.tmp 45,.tmp 47,.func 151],#[24,24,194]⟩,none⟩,⟨some 4,.assign (.tmp 48),none⟩]
instance : Live r_k123_14 := ⟨[5,6]⟩
def t_k123_l1 : SC :=
  (.seq (.ops false r_k123_4) (.seq (.cond (.tmp 15) .skip (.exit 0)) (.seq (.block 1 (.seq (.ops false r_k123_5) (.seq (.ops false r_k123_6) (.seq (.seq (.ops false r_k123_7) (.cond (.tmp 21) (.ops false r_k123_8) .skip)) (.seq (.seq (.ops false r_k123_9) (.cond (.tmp 31) (.ops false r_k123_10) .skip)) (.seq (.ops false r_k123_11) (.cond (.tmp 39) (.seq (.ops false r_k123_12) .ret) .skip))))))) (.ops false r_k123_13))))
def t_k123 : SC :=
  (.seq (.ops false r_k123_1) (.seq (.ops true r_k123_2) (.seq (.seq (.ops false r_k123_3) (.block 0 (.loop t_k123_l1))) (.seq (.ops false r_k123_14) .ret))))
theorem it_k123 : FnIs Tryz.prog 123 49 [.tmp 4] t_k123 := ⟨Tryz.f123, _, Tryz.func123, rfl, rfl, rfl, rfl, by kernel_rfl⟩

theorem ev_k123 (p q : Pst) (hp : wt p ≤ 50000000) (hq : wt q ≤ 50000000) : Ev (En Tryz.prog rfl).P 123 [encP p, encP q] (.ret (.int .i64 (cmpP p q))) := by
  refine Ev.of_body it_k123 (by simp) (Run.start ?_)
  unfold t_k123 encP
  have c1 := ev_k64 p (by omega)
  have c2 := ev_k64 q (by omega)
  have h1 := normP_wt p
  have h2 := normP_wt q
  have hr : cmpP p q = lexI (keyP (normP p)) (keyP (normP q)) := rfl
  rw [hr]
  (focus (have hF := True.intro; (repeat' (first | refine go1 (k:=?_) | with_reducible refine Ny.of ?_ ?_ | (refine Hyp.of ?_; intro hc; (try simp only [hc]); (try simp only [Bh] at hc)))); all_goals clear hF))
  refine stCall [encP p] (he := c1) (k:=?_)
  (focus (have hF := True.intro; (repeat' (first | refine go1 (k:=?_) | with_reducible refine Ny.of ?_ ?_ | (refine Hyp.of ?_; intro hc; (try simp only [hc]); (try simp only [Bh] at hc)))); all_goals clear hF))
  refine stCall [encP q] (he := c2) (k:=?_)
  clear c1 c2 hr
  generalize normP p = x at h1 ⊢
  generalize normP q = y at h2 ⊢
  unfold encP
  have hw1 : x.vec.length + x.cloud.length = wt x := rfl
  have hw2 : y.vec.length + y.cloud.length = wt y := rfl
  have e1 := encIs_len x.vec
  have e2 := encIs_len y.vec
  (focus (have hF := (And.intro @e1 @e2); (repeat' (first | refine go1 (k:=?_) | with_reducible refine Ny.of ?_ ?_ | (refine Hyp.of ?_; intro hc; (try simp only [hc]); (try simp only [Bh] at hc)))); all_goals clear hF))
  refine Run.while (σ := Nat) (fun i => ⟨tms [(5, .ptr 5 0), (6, .ptr 6 0), (14, .int .i64 (i : Int))], mms [(5, .cells [.sl 1 (encIs x.vec), .sl 3 (encSs x.cloud)]), (6, .cells [.sl 1 (encIs y.vec), .sl 3 (encSs y.cloud)])]⟩) (fun i => i ≤ 16 ∧ ∀ j, j < i → vv x j = vv y j) (fun i => 16 - i) 0 (have hW := (And.intro @encIs_stb @encSs_stb); stWk) ⟨Nat.zero_le _, fun j hj => absurd hj (Nat.not_lt_zero _)⟩ ?_
  rintro i ⟨hi, hp⟩
  unfold t_k123_l1
  by_cases hlt : i < 16
  · have hne : vv x i ≠ vv y i → lexI (keyP x) (keyP y) = cmpI (vv x i) (vv y i) := fun hn =>
      lexI_at (vecK x) (vecK y) i _ _ _ _ (vecK_get x hlt) (vecK_get y hlt) (fun j hj => by rw [vecK_get x (by omega), vecK_get y (by omega), hp j hj]) hn
    have heq : vv x i = vv y i → ∀ j, j < i + 1 → vv x j = vv y j := fun he j hj => by
      by_cases e : j = i
      · rw [e]; exact he
      · exact hp j (by omega)
    have k1 := ev_k149 (vv x i) (vv y i)
    unfold vv at hne heq k1
    by_cases hx : i < x.vec.length
    · have g1 : (encIs x.vec)[i]? = some (.int .i64 (vecAt x.vec i)) := encIs_get (by unfold vecAt; rw [List.getD_eq_getElem?_getD, List.getElem?_eq_getElem hx]; rfl)
      simp only [if_pos hx] at hne heq k1
      by_cases hy : i < y.vec.length
      · have g2 : (encIs y.vec)[i]? = some (.int .i64 (vecAt y.vec i)) := encIs_get (by unfold vecAt; rw [List.getD_eq_getElem?_getD, List.getElem?_eq_getElem hy]; rfl)
        simp only [if_pos hy] at hne heq k1
        (focus (have hF := (And.intro (And.intro @e1 @e2) (And.intro @g1 @g2)); (repeat' (first | refine go1 (k:=?_) | with_reducible refine Ny.of ?_ ?_ | (refine Hyp.of ?_; intro hc; (try simp only [hc]); (try simp only [Bh] at hc)))); all_goals clear hF))
        · rw [hne hc]
          refine stCall [.int .i64 (vecAt x.vec i), .int .i64 (vecAt y.vec i)] (he := k1) (k:=?_)
          (focus (have hF := True.intro; (repeat' (first | refine go1 (k:=?_) | with_reducible refine Ny.of ?_ ?_ | (refine Hyp.of ?_; intro hc; (try simp only [hc]); (try simp only [Bh] at hc)))); all_goals clear hF))
          exact Fin.tmp' rfl rfl
        · have h := heq hc
          (refine Fin.nextW (i + 1) ?_ (have hW := (And.intro @encIs_stb @encSs_stb); stWk); (try dsimp only))
          exact ⟨⟨hlt, h⟩, by omega⟩
      · simp only [if_neg hy] at hne heq k1
        (focus (have hF := (And.intro @e1 (And.intro @e2 @g1)); (repeat' (first | refine go1 (k:=?_) | with_reducible refine Ny.of ?_ ?_ | (refine Hyp.of ?_; intro hc; (try simp only [hc]); (try simp only [Bh] at hc)))); all_goals clear hF))
        · rw [hne hc]
          refine stCall [.int .i64 (vecAt x.vec i), .int .i64 0] (he := k1) (k:=?_)
          (focus (have hF := True.intro; (repeat' (first | refine go1 (k:=?_) | with_reducible refine Ny.of ?_ ?_ | (refine Hyp.of ?_; intro hc; (try simp only [hc]); (try simp only [Bh] at hc)))); all_goals clear hF))
          exact Fin.tmp' rfl rfl
        · have h := heq hc
          (refine Fin.nextW (i + 1) ?_ (have hW := (And.intro @encIs_stb @encSs_stb); stWk); (try dsimp only))
          exact ⟨⟨hlt, h⟩, by omega⟩
    · simp only [if_neg hx] at hne heq k1
      by_cases hy : i < y.vec.length
      · have g2 : (encIs y.vec)[i]? = some (.int .i64 (vecAt y.vec i)) := encIs_get (by unfold vecAt; rw [List.getD_eq_getElem?_getD, List.getElem?_eq_getElem hy]; rfl)
        simp only [if_pos hy] at hne heq k1
        (focus (have hF := (And.intro @e1 (And.intro @e2 @g2)); (repeat' (first | refine go1 (k:=?_) | with_reducible refine Ny.of ?_ ?_ | (refine Hyp.of ?_; intro hc; (try simp only [hc]); (try simp only [Bh] at hc)))); all_goals clear hF))
        · rw [hne hc]
          refine stCall [.int .i64 0, .int .i64 (vecAt y.vec i)] (he := k1) (k:=?_)
          (focus (have hF := True.intro; (repeat' (first | refine go1 (k:=?_) | with_reducible refine Ny.of ?_ ?_ | (refine Hyp.of ?_; intro hc; (try simp only [hc]); (try simp only [Bh] at hc)))); all_goals clear hF))
          exact Fin.tmp' rfl rfl
        · have h := heq hc
          (refine Fin.nextW (i + 1) ?_ (have hW := (And.intro @encIs_stb @encSs_stb); stWk); (try dsimp only))
          exact ⟨⟨hlt, h⟩, by omega⟩
      · simp only [if_neg hy] at hne heq k1
        (focus (have hF := (And.intro @e1 @e2); (repeat' (first | refine go1 (k:=?_) | with_reducible refine Ny.of ?_ ?_ | (refine Hyp.of ?_; intro hc; (try simp only [hc]); (try simp only [Bh] at hc)))); all_goals clear hF))
        have h := heq trivial
        (refine Fin.nextW (i + 1) ?_ (have hW := (And.intro @encIs_stb @encSs_stb); stWk); (try dsimp only))
        exact ⟨⟨hlt, h⟩, by omega⟩
  · have hv : vecK x = vecK y := by
      unfold vecK
      exact List.map_congr_left fun j hj => hp j (by rw [List.mem_range] at hj; omega)
    have k2 := ev_slicesCompareFunc x.cloud y.cloud (by omega) (by omega)
    have hk : lexI (keyP x) (keyP y) = cmpL x.cloud y.cloud := by
      unfold keyP
      rw [hv, lexI_app, cmpL_flat]
    rw [hk]
    (focus (have hF := (And.intro @e1 @e2); (repeat' (first | refine go1 (k:=?_) | with_reducible refine Ny.of ?_ ?_ | (refine Hyp.of ?_; intro hc; (try simp only [hc]); (try simp only [Bh] at hc)))); all_goals clear hF))
    refine stCall [.sl 3 (encSs x.cloud), .sl 3 (encSs y.cloud), .fn 151 []] (he := k2) (k:=?_)
    (focus (have hF := (And.intro @e1 @e2); (repeat' (first | refine go1 (k:=?_) | with_reducible refine Ny.of ?_ ?_ | (refine Hyp.of ?_; intro hc; (try simp only [hc]); (try simp only [Bh] at hc)))); all_goals clear hF))
    exact Fin.tmp' rfl rfl

theorem card_zero {q : Int → Prop} (h : ∀ n, ¬ q n) : card q = 0 := by
  classical
  rw [card_def]
  exact List.countP_eq_zero.2 fun i _ => by simp [h]
theorem card_one {k : Int} (h1 : 1 ≤ k) (h2 : k ≤ 1000000000) : card (fun n => n = k) = 1 := by
  have h := card_run h1 (Int.le_refl k) h2
  have : card (fun n => k ≤ n ∧ n ≤ k) = card (fun n => n = k) := card_congr fun n _ _ => by omega
  omega
theorem cardT_zero {q : Nat → Int → Prop} (h : ∀ r n, ¬ q r n) : ∀ m, cardT q m = 0
  | 0 => rfl
  | m + 1 => by
    show cardT q m + card (q m) = 0
    rw [cardT_zero h m, card_zero (h m)]

theorem bool_eq {a b : Bool} (h : a = true ↔ b = true) : a = b := by cases a <;> cases b <;> simp_all
theorem card_pos {q : Int → Prop} {k : Int} (h1 : 1 ≤ k) (h2 : k ≤ 1000000000) (h : q k) : 1 ≤ card q := by
  have e := card_part q (fun n => n = k)
  have : card (fun n => q n ∧ n = k) = card (fun n => n = k) := card_congr fun n _ _ => ⟨fun x => x.2, fun x => ⟨x ▸ h, x⟩⟩
  rw [this, card_one h1 h2] at e
  omega
theorem cardT_pos {q : Nat → Int → Prop} {r : Nat} {k : Int} (h1 : 1 ≤ k) (h2 : k ≤ 1000000000) (h : q r k) : ∀ {m : Nat}, r < m → 1 ≤ cardT q m
  | 0, hm => by omega
  | m + 1, hm => by
    show 1 ≤ cardT q m + card (q m)
    by_cases e : r = m
    · subst e
      have := card_pos h1 h2 h
      omega
    · have := cardT_pos h1 h2 h (m := m) (by omega)
      omega

theorem sum_le3 (f a b : Nat → Nat) (c : Nat) (h : ∀ r, f r ≤ a r + b r + c) : ∀ m, ((List.range m).map f).sum ≤ ((List.range m).map a).sum + ((List.range m).map b).sum + m * c
  | 0 => by simp
  | m + 1 => by
    have ih := sum_le3 f a b c h m
    have := h m
    rw [List.range_succ, List.map_append, List.map_append, List.map_append, List.sum_append, List.sum_append, List.sum_append, Nat.succ_mul]
    simp only [List.map_cons, List.map_nil, List.sum_cons, List.sum_nil]
    omega
theorem rows_wt (p q : Pst) (h : Nat → List Rn) (c : Nat) (hh : ∀ r, (h r).length ≤ ((openT [p]).getD r []).length + ((openT [q]).getD r []).length + c) : wt (pastT ((List.range 16).map h)) ≤ 16 + wt p + wt q + 16 * c := by
  have h1 := pastT_tot (t := (List.range 16).map h) (by simp)
  have h2 := sum_le3 (fun r => (h r).length) (fun r => ((openT [p]).getD r []).length) (fun r => ((openT [q]).getD r []).length) c hh 16
  have h3 := range_getD (openT [p])
  have h4 := range_getD (openT [q])
  have h5 := tot_openT [p]
  have h6 := tot_openT [q]
  rw [(openT_le [p]).1] at h3
  rw [(openT_le [q]).1] at h4
  simp only [List.map_cons, List.map_nil, List.sum_cons, List.sum_nil] at h5 h6
  have h7 : tot ((List.range 16).map h) = ((List.range 16).map fun r => (h r).length).sum := by
    unfold tot
    rw [List.map_map]
    rfl
  omega
theorem minusP_wt (p q : Pst) : wt (minusP p q) ≤ 32 + wt p + wt q := by
  have := rows_wt p q (minusT p q) 1 fun r => minusR_len _ _
  unfold minusP
  omega

def r_k126_1 : List SOp := [⟨some 1,.box 26 (.tmp 0),none⟩,⟨some 2,.assign (.const (.int .i64 0)),none⟩]
instance : Live r_k126_1 := ⟨[0]⟩
def r_k126_2 : List SOp := [⟨some 7,.load 26 (.tmp 1),none⟩,⟨some 8,.call ⟨.value (.func 127),#[.tmp 7],#[26]⟩,none⟩,⟨some 3,.alloc 168,none⟩,⟨none,.store 168 (.tmp 3) (.tmp 8),none⟩]
instance : Live r_k126_2 := ⟨[1]⟩
def r_k126_3 : List SOp := [⟨some 4,.assign (.const (.int .i64 0)),none⟩]
instance : Live r_k126_3 := ⟨[3]⟩
def r_k126_4 : List SOp := [⟨some 5,.assign (.const (.int .i64 0)),none⟩]
instance : Live r_k126_4 := ⟨[3,4]⟩
def r_k126_5 : List SOp := [⟨some 9,.move (.tmp 5),none⟩,⟨some 10,.binOp .lss 3 (.tmp 9) (.const (.int .i64 16)) 3,none⟩]
instance : Live r_k126_5 := ⟨[3,4,5]⟩
def r_k126_6 : List SOp := [⟨some 6,.assign (.const (.int .i64 0)),none⟩]
instance : Live r_k126_6 := ⟨[3,4,5]⟩
def r_k126_7 : List SOp := [⟨some 13,.move (.tmp 6),none⟩,⟨some 14,.binOp .add 3 (.tmp 13) (.const (.int .i64 1)) 3,none⟩,⟨some 15,.move (.tmp 5),none⟩,⟨some 16,.fieldAddr 168 (.tmp 3) 0,none⟩,⟨some 17,.indexAddr 166 (.tmp 16) (.tmp 15),none⟩,⟨some 18,.load 23 (.tmp 17),none⟩,⟨some 19,.call ⟨.builtin .len,#[.tmp 18],#[23]⟩,none⟩,⟨some 20,.binOp .lss 3 (.tmp 14) (.tmp 19) 3,none⟩]
instance : Live r_k126_7 := ⟨[3,4,5,6]⟩
def r_k126_8 : List SOp := [⟨some 23,.move (.tmp 4),none⟩,⟨some 24,.move (.tmp 5),none⟩,⟨some 25,.fieldAddr 168 (.tmp 3) 0,none⟩,⟨some 26,.indexAddr 166 (.tmp 25) (.tmp 24),none⟩,⟨some 27,.load 23 (.tmp 26),none⟩,⟨some 28,.move (.tmp 6),none⟩,⟨some 29,.binOp .add 3 (.tmp 28) (.const (.int .i64 1)) 3,none⟩,⟨some 30,.indexAddr 23 (.tmp 27) (.tmp 29),none⟩,⟨some 31,.load 3 (.tmp 30),none⟩,⟨some 32,.move (.tmp 5),none⟩,⟨some 33,.fieldAddr 168 (.tmp 3) 0,none⟩,⟨some 34,.indexAddr 166 (.tmp 33) (.tmp 32),none⟩,⟨some 35,.load 23 (.tmp 34),none⟩,⟨some 36,.move (.tmp 6),none⟩,⟨some 37,.indexAddr 23 (.tmp 35) (.tmp 36),none⟩,⟨some 38,.load 3 (.tmp 37),none⟩,⟨some 39,.binOp .sub 3 (.tmp 31) (.tmp 38) 3,none⟩,⟨some 40,.binOp .add 3 (.tmp 23) (.tmp 39) 3,none⟩,⟨some 4,.assign (.tmp 40),none⟩]
instance : Live r_k126_8 := ⟨[3,4,5,6]⟩
def r_k126_9 : List SOp := [⟨some 21,.move (.tmp 6),none⟩,⟨some 22,.binOp .add 3 (.tmp 21) (.const (.int .i64 2)) 3,none⟩,⟨some 6,.assign (.tmp 22),none⟩]
instance : Live r_k126_9 := ⟨[3,4,5,6]⟩
def r_k126_10 : List SOp := [⟨some 11,.move (.tmp 5),none⟩,⟨some 12,.binOp .add 3 (.tmp 11) (.const (.int .i64 1)) 3,none⟩,⟨some 5,.assign (.tmp 12),none⟩]
instance : Live r_k126_10 := ⟨[3,4,5]⟩
def r_k126_11 : List SOp := [⟨some 41,.move (.tmp 4),none⟩,⟨some 2,.assign (.tmp 41),none⟩]
instance : Live r_k126_11 := ⟨[4]⟩
def t_k126_l2 : SC :=
  (.seq (.seq (.ops false r_k126_7) (.cond (.tmp 20) .skip (.exit 2))) (.seq (.block 3 (.ops true r_k126_8)) (.ops false r_k126_9)))
def t_k126_l1 : SC :=
  (.seq (.seq (.ops false r_k126_5) (.cond (.tmp 10) .skip (.exit 0))) (.seq (.block 1 (.seq (.ops false r_k126_6) (.block 2 (.loop t_k126_l2)))) (.ops false r_k126_10)))
def t_k126 : SC :=
  (.seq (.ops false r_k126_1) (.seq (.ops false r_k126_2) (.seq (.ops false r_k126_3) (.seq (.seq (.ops false r_k126_4) (.block 0 (.loop t_k126_l1))) (.seq (.ops false r_k126_11) .ret)))))
theorem it_k126 : FnIs Tryz.prog 126 42 [.tmp 2] t_k126 := ⟨Tryz.f126, _, Tryz.func126, rfl, rfl, rfl, rfl, by kernel_rfl⟩

def r_k76_1 : List SOp := [⟨some 1,.box 26 (.tmp 0),none⟩,⟨some 2,.assign (.const (.bool false)),none⟩]
instance : Live r_k76_1 := ⟨[0]⟩
def r_k76_2 : List SOp := [⟨some 3,.load 26 (.tmp 1),none⟩,⟨some 4,.call ⟨.value (.func 126),#[.tmp 3],#[26]⟩,none⟩,⟨some 5,.binOp .eql 3 (.tmp 4) (.const (.int .i64 0)) 3,none⟩,⟨some 2,.assign (.tmp 5),none⟩]
instance : Live r_k76_2 := ⟨[1]⟩
def t_k76 : SC :=
  (.seq (.ops false r_k76_1) (.seq (.ops false r_k76_2) .ret))
theorem it_k76 : FnIs Tryz.prog 76 6 [.tmp 2] t_k76 := ⟨Tryz.f76, _, Tryz.func76, rfl, rfl, rfl, rfl, by kernel_rfl⟩

def r_k70_1 : List SOp := [⟨some 2,.box 26 (.tmp 0),none⟩,⟨some 3,.box 26 (.tmp 1),none⟩,⟨some 4,.assign (.const (.bool false)),none⟩]
instance : Live r_k70_1 := ⟨[0,1]⟩
def r_k70_2 : List SOp := [⟨some 5,.load 26 (.tmp 2),none⟩,⟨some 6,.load 26 (.tmp 3),none⟩,⟨some 7,.call ⟨.value (.func 120),#[.tmp 5,.tmp 6],#[26,26]⟩,none⟩,⟨some 8,.call ⟨.value (.func 76),#[.tmp 7],#[26]⟩,none⟩,⟨some 4,.assign (.tmp 8),none⟩]
instance : Live r_k70_2 := ⟨[2,3]⟩
def t_k70 : SC :=
  (.seq (.ops false r_k70_1) (.seq (.ops false r_k70_2) .ret))
theorem it_k70 : FnIs Tryz.prog 70 9 [.tmp 4] t_k70 := ⟨Tryz.f70, _, Tryz.func70, rfl, rfl, rfl, rfl, by kernel_rfl⟩

def r_k147_1 : List SOp := [⟨some 4,.assign (.const (.int .i64 0)),none⟩]
instance : Live r_k147_1 := ⟨[0,1]⟩
def r_k147_2 : List SOp := [⟨some 5,.move (.tmp 0),none⟩,⟨some 6,.move (.tmp 1),none⟩,⟨some 7,.binOp .lss 3 (.tmp 5) (.tmp 6) 3,none⟩]
instance : Live r_k147_2 := ⟨[0,1]⟩
def r_k147_3 : List SOp := [⟨some 4,.assign (.const (.int .i64 (-1))),none⟩]
instance : Live r_k147_3 := ⟨[]⟩
def r_k147_4 : List SOp := [⟨some 8,.move (.tmp 0),none⟩,⟨some 9,.move (.tmp 1),none⟩,⟨some 10,.binOp .gtr 3 (.tmp 8) (.tmp 9) 3,none⟩]
instance : Live r_k147_4 := ⟨[0,1]⟩
def r_k147_5 : List SOp := [⟨some 4,.assign (.const (.int .i64 1)),none⟩]
instance : Live r_k147_5 := ⟨[]⟩
def r_k147_6 : List SOp := [⟨some 4,.assign (.const (.int .i64 0)),none⟩]
instance : Live r_k147_6 := ⟨[]⟩
def t_k147 : SC :=
  (.seq (.ops false r_k147_1) (.seq (.seq (.ops false r_k147_2) (.cond (.tmp 7) (.seq (.ops false r_k147_3) .ret) .skip)) (.seq (.seq (.ops false r_k147_4) (.cond (.tmp 10) (.seq (.ops false r_k147_5) .ret) .skip)) (.seq (.ops false r_k147_6) .ret))))
theorem it_k147 : FnIs Tryz.prog 147 11 [.tmp 4] t_k147 := ⟨Tryz.f147, _, Tryz.func147, rfl, rfl, rfl, rfl, by kernel_rfl⟩

def r_k119_1 : List SOp := [⟨some 2,.box 26 (.tmp 0),none⟩,⟨some 3,.box 26 (.tmp 1),none⟩,⟨some 4,.assign (.const (.int .i64 0)),none⟩]
instance : Live r_k119_1 := ⟨[0,1]⟩
def r_k119_2 : List SOp := [⟨some 11,.load 26 (.tmp 2),none⟩,⟨some 12,.call ⟨.value (.func 117),#[.tmp 11],#[26]⟩,none⟩,⟨none,.store 26 (.tmp 2) (.tmp 12),none⟩]
instance : Live r_k119_2 := ⟨[2,3]⟩
def r_k119_3 : List SOp := [⟨some 13,.load 26 (.tmp 3),none⟩,⟨some 14,.call ⟨.value (.func 117),#[.tmp 13],#[26]⟩,none⟩,⟨none,.store 26 (.tmp 3) (.tmp 14),none⟩]
instance : Live r_k119_3 := ⟨[2,3]⟩
def r_k119_4 : List SOp := [⟨some 5,.assign (.const (.int .i64 0)),none⟩]
instance : Live r_k119_4 := ⟨[2,3]⟩
def r_k119_5 : List SOp := [⟨some 15,.move (.tmp 5),none⟩,⟨some 16,.binOp .lss 3 (.tmp 15) (.const (.int .i64 16)) 3,none⟩]
instance : Live r_k119_5 := ⟨[2,3,5]⟩
def r_k119_6 : List SOp := [⟨some 6,.assign (.const (.int .i64 0)),none⟩,⟨some 7,.assign (.const (.int .i64 0)),none⟩]
instance : Live r_k119_6 := ⟨[2,3,5]⟩
def r_k119_7 : List SOp := [⟨some 19,.move (.tmp 5),none⟩,⟨some 20,.fieldAddr 26 (.tmp 2) 0,none⟩,⟨some 21,.load 23 (.tmp 20),none⟩,⟨some 22,.call ⟨.builtin .len,#[.tmp 21],#[23]⟩,none⟩,⟨some 23,.binOp .lss 3 (.tmp 19) (.tmp 22) 3,none⟩]
instance : Live r_k119_7 := ⟨[2,3,5,6,7]⟩
def r_k119_8 : List SOp := [⟨some 24,.fieldAddr 26 (.tmp 2) 0,none⟩,⟨some 25,.load 23 (.tmp 24),none⟩,⟨some 26,.move (.tmp 5),none⟩,⟨some 27,.indexAddr 23 (.tmp 25) (.tmp 26),none⟩,⟨some 28,.load 3 (.tmp 27),none⟩,⟨some 6,.assign (.tmp 28),none⟩]
instance : Live r_k119_8 := ⟨[2,3,5,7]⟩
def r_k119_9 : List SOp := [⟨some 29,.move (.tmp 5),none⟩,⟨some 30,.fieldAddr 26 (.tmp 3) 0,none⟩,⟨some 31,.load 23 (.tmp 30),none⟩,⟨some 32,.call ⟨.builtin .len,#[.tmp 31],#[23]⟩,none⟩,⟨some 33,.binOp .lss 3 (.tmp 29) (.tmp 32) 3,none⟩]
instance : Live r_k119_9 := ⟨[2,3,5,6,7]⟩
def r_k119_10 : List SOp := [⟨some 34,.fieldAddr 26 (.tmp 3) 0,none⟩,⟨some 35,.load 23 (.tmp 34),none⟩,⟨some 36,.move (.tmp 5),none⟩,⟨some 37,.indexAddr 23 (.tmp 35) (.tmp 36),none⟩,⟨some 38,.load 3 (.tmp 37),none⟩,⟨some 7,.assign (.tmp 38),none⟩]
instance : Live r_k119_10 := ⟨[2,3,5,6]⟩
def r_k119_11 : List SOp := [⟨some 39,.move (.tmp 6),none⟩,⟨some 40,.move (.tmp 7),none⟩,⟨some 41,.binOp .neq 3 (.tmp 39) (.tmp 40) 3,none⟩]
instance : Live r_k119_11 := ⟨[2,3,5,6,7]⟩
def r_k119_12 : List SOp := [⟨some 42,.move (.tmp 6),none⟩,⟨some 43,.move (.tmp 7),none⟩,⟨some 44,.call ⟨.value (.func 147),#[.tmp 42,.tmp 43],#[3,3]⟩,none⟩,⟨some 4,.assign (.tmp 44),none⟩]
instance : Live r_k119_12 := ⟨[6,7]⟩
def r_k119_13 : List SOp := [⟨some 17,.move (.tmp 5),none⟩,⟨some 18,.binOp .add 3 (.tmp 17) (.const (.int .i64 1)) 3,none⟩,⟨some 5,.assign (.tmp 18),none⟩]
instance : Live r_k119_13 := ⟨[2,3,5]⟩
def r_k119_14 : List SOp := [⟨some 8,.assign (.const (.int .i64 0)),none⟩]
instance : Live r_k119_14 := ⟨[2,3]⟩
def r_k119_15 : List SOp := [⟨some 45,.move (.tmp 8),none⟩,⟨some 46,.fieldAddr 26 (.tmp 2) 1,none⟩,⟨some 47,.load 24 (.tmp 46),none⟩,⟨some 48,.call ⟨.builtin .len,#[.tmp 47],#[24]⟩,none⟩,⟨some 49,.binOp .lss 3 (.tmp 45) (.tmp 48) 3,none⟩,⟨some 50,.move (.tmp 49),none⟩,⟨some 51,.move (.tmp 8),some ((some 50),true)⟩,⟨some 52,.fieldAddr 26 (.tmp 3) 1,some ((some 50),true)⟩,⟨some 53,.load 24 (.tmp 52),some ((some 50),true)⟩,⟨some 54,.call ⟨.builtin .len,#[.tmp 53],#[24]⟩,some ((some 50),true)⟩,⟨some 55,.binOp .lss 3 (.tmp 51) (.tmp 54) 3,some ((some 50),true)⟩,⟨some 56,.pick (.tmp 50) (.tmp 55) (.const (.bool false)),none⟩]
instance : Live r_k119_15 := ⟨[2,3,8]⟩
def r_k119_16 : List SOp := [⟨some 59,.fieldAddr 26 (.tmp 2) 1,none⟩,⟨some 60,.load 24 (.tmp 59),none⟩,⟨some 61,.move (.tmp 8),none⟩,⟨some 62,.indexAddr 24 (.tmp 60) (.tmp 61),none⟩,⟨some 63,.load 127 (.tmp 62),none⟩,⟨some 64,.fieldAddr 26 (.tmp 3) 1,none⟩,⟨some 65,.load 24 (.tmp 64),none⟩,⟨some 66,.move (.tmp 8),none⟩,⟨some 67,.indexAddr 24 (.tmp 65) (.tmp 66),none⟩,⟨some 68,.load 127 (.tmp 67),none⟩,⟨some 9,.alloc 127,none⟩,⟨some 10,.alloc 127,none⟩,⟨none,.store 127 (.tmp 9) (.tmp 63),none⟩,⟨none,.store 127 (.tmp 10) (.tmp 68),none⟩]
instance : Live r_k119_16 := ⟨[2,3,8]⟩
instance : Rd r_k119_16 := ⟨fun j => j == 2 || j == 3⟩
def r_k119_17 : List SOp := [⟨some 69,.fieldAddr 127 (.tmp 9) 0,none⟩,⟨some 70,.load 3 (.tmp 69),none⟩,⟨some 71,.fieldAddr 127 (.tmp 10) 0,none⟩,⟨some 72,.load 3 (.tmp 71),none⟩,⟨some 73,.binOp .neq 3 (.tmp 70) (.tmp 72) 3,none⟩]
instance : Live r_k119_17 := ⟨[2,3,8,9,10]⟩
def r_k119_18 : List SOp := [⟨some 74,.fieldAddr 127 (.tmp 9) 0,none⟩,⟨some 75,.load 3 (.tmp 74),none⟩,⟨some 76,.fieldAddr 127 (.tmp 10) 0,none⟩,⟨some 77,.load 3 (.tmp 76),none⟩,⟨some 78,.call ⟨.value (.func 147),#[.tmp 75,.tmp 77],#[3,3]⟩,none⟩,⟨some 4,.assign (.tmp 78),none⟩]
instance : Live r_k119_18 := ⟨[9,10]⟩
def r_k119_19 : List SOp := [⟨some 79,.fieldAddr 127 (.tmp 9) 1,none⟩,⟨some 80,.load 3 (.tmp 79),none⟩,⟨some 81,.fieldAddr 127 (.tmp 10) 1,none⟩,⟨some 82,.load 3 (.tmp 81),none⟩,⟨some 83,.binOp .neq 3 (.tmp 80) (.tmp 82) 3,none⟩]
instance : Live r_k119_19 := ⟨[2,3,8,9,10]⟩
def r_k119_20 : List SOp := [⟨some 84,.fieldAddr 127 (.tmp 9) 1,none⟩,⟨some 85,.load 3 (.tmp 84),none⟩,⟨some 86,.fieldAddr 127 (.tmp 10) 1,none⟩,⟨some 87,.load 3 (.tmp 86),none⟩,⟨some 88,.call ⟨.value (.func 147),#[.tmp 85,.tmp 87],#[3,3]⟩,none⟩,⟨some 4,.assign (.tmp 88),none⟩]
instance : Live r_k119_20 := ⟨[9,10]⟩
def r_k119_21 : List SOp := [⟨some 89,.fieldAddr 127 (.tmp 9) 2,none⟩,⟨some 90,.load 3 (.tmp 89),none⟩,⟨some 91,.fieldAddr 127 (.tmp 10) 2,none⟩,⟨some 92,.load 3 (.tmp 91),none⟩,⟨some 93,.binOp .neq 3 (.tmp 90) (.tmp 92) 3,none⟩]
instance : Live r_k119_21 := ⟨[2,3,8,9,10]⟩
def r_k119_22 : List SOp := [⟨some 94,.fieldAddr 127 (.tmp 9) 2,none⟩,⟨some 95,.load 3 (.tmp 94),none⟩,⟨some 96,.fieldAddr 127 (.tmp 10) 2,none⟩,⟨some 97,.load 3 (.tmp 96),none⟩,⟨some 98,.call ⟨.value (.func 147),#[.tmp 95,.tmp 97],#[3,3]⟩,none⟩,⟨some 4,.assign (.tmp 98),none⟩]
instance : Live r_k119_22 := ⟨[9,10]⟩
def r_k119_23 : List SOp := [⟨some 57,.move (.tmp 8),none⟩,⟨some 58,.binOp .add 3 (.tmp 57) (.const (.int .i64 1)) 3,none⟩,⟨some 8,.assign (.tmp 58),none⟩]
instance : Live r_k119_23 := ⟨[2,3,8]⟩
def r_k119_24 : List SOp := [⟨some 99,.fieldAddr 26 (.tmp 2) 1,none⟩,⟨some 100,.load 24 (.tmp 99),none⟩,⟨some 101,.call ⟨.builtin .len,#[.tmp 100],#[24]⟩,none⟩,⟨some 102,.fieldAddr 26 (.tmp 3) 1,none⟩,⟨some 103,.load 24 (.tmp 102),none⟩,⟨some 104,.call ⟨.builtin .len,#[.tmp 103],#[24]⟩,none⟩,⟨some 105,.call ⟨.value (.func 147),#[.tmp 101,.tmp 104],#[3,3]⟩,none⟩,⟨some 4,.assign (.tmp 105),none⟩]
instance : Live r_k119_24 := ⟨[2,3]⟩
def t_k119_l1 : SC :=
  (.seq (.seq (.ops false r_k119_5) (.cond (.tmp 16) .skip (.exit 0))) (.seq (.block 1 (.seq (.ops false r_k119_6) (.seq (.seq (.ops false r_k119_7) (.cond (.tmp 23) (.ops false r_k119_8) .skip)) (.seq (.seq (.ops false r_k119_9) (.cond (.tmp 33) (.ops false r_k119_10) .skip)) (.seq (.ops false r_k119_11) (.cond (.tmp 41) (.seq (.ops false r_k119_12) .ret) .skip)))))) (.ops false r_k119_13)))
def t_k119_l2 : SC :=
  (.seq (.seq (.ops false r_k119_15) (.cond (.tmp 56) .skip (.exit 2))) (.seq (.block 3 (.seq (.opsW [] r_k119_16) (.seq (.seq (.ops false r_k119_17) (.cond (.tmp 73) (.seq (.ops false r_k119_18) .ret) .skip)) (.seq (.seq (.ops false r_k119_19) (.cond (.tmp 83) (.seq (.ops false r_k119_20) .ret) .skip)) (.seq (.ops false r_k119_21) (.cond (.tmp 93) (.seq (.ops false r_k119_22) .ret) .skip)))))) (.ops false r_k119_23)))
def t_k119 : SC :=
  (.seq (.ops false r_k119_1) (.seq (.ops false r_k119_2) (.seq (.ops false r_k119_3) (.seq (.seq (.ops false r_k119_4) (.block 0 (.loop t_k119_l1))) (.seq (.seq (.ops false r_k119_14) (.block 2 (.loop t_k119_l2))) (.seq (.ops false r_k119_24) .ret))))))
theorem it_k119 : FnIs Tryz.prog 119 106 [.tmp 4] t_k119 := ⟨Tryz.f119, _, Tryz.func119, rfl, rfl, rfl, rfl, by kernel_rfl⟩


theorem ev_k126 (p : Pst) (hw : wt p ≤ 50000000) : Ev (En Tryz.prog rfl).P 126 [encP p] (.ret (.int .i64 (sizeP p))) := by
  have c1 := ev_k127 p (by omega)
  refine Ev.of_body it_k126 (by simp) (Run.start ?_)
  unfold t_k126 encP
  have ht : TabLe (openT [p]) (wt p) := by simpa using openT_le [p]
  have hS := encSet_stb
  have hm : meanT [p] = (openT [p]).map turnsR := rfl
  have hp : sizeP p = sizeTab (openT [p]) 16 := rfl
  rw [hm] at c1
  rw [hp]
  have h16 : (encSet ((openT [p]).map turnsR)).length = 16 := by simp [encSet, ht.1]
  have hone := encSet_one ((openT [p]).map turnsR)
  have hst := encSet_stb ((openT [p]).map turnsR)
  (focus (have hF := True.intro; (repeat' (first | refine go1 (k:=?_) | with_reducible refine Ny.of ?_ ?_ | (refine Hyp.of ?_; intro hc; (try simp only [hc]); (try simp only [Bh] at hc)))); all_goals clear hF))
  refine stCall [encP p] (he := c1) (k:=?_)
  clear c1 hm hp
  generalize openT [p] = t at ht h16 hone hst ⊢
  (focus (have hF := (And.intro @h16 @hone); (repeat' (first | refine go1 (k:=?_) | with_reducible refine Ny.of ?_ ?_ | (refine Hyp.of ?_; intro hc; (try simp only [hc]); (try simp only [Bh] at hc)))); all_goals clear hF))
  refine Run.while (σ := Nat) (fun r => ⟨tms [(3, .ptr 3 0), (4, .int .i64 (sizeTab t r)), (5, .int .i64 (r : Int))], mms [(3, .cells (encSet (t.map turnsR)))]⟩)
    (fun r => r ≤ 16) (fun r => 16 - r) 0 (have hW := @hst; stWk) (Nat.zero_le _) ?_
  intro r hr
  unfold t_k126_l1
  by_cases hlt : r < 16
  · have hrt : r < t.length := by rw [ht.1]; exact hlt
    have hq := ht.2 r
    have g1 : (encSet (t.map turnsR))[r]? = some (.sl 1 (encIs (turnsC (normR (t.getD r []))))) := by
      rw [encSet_get (by rw [List.length_map]; exact hrt)]
      simp [List.getD_eq_getElem?_getD, hrt, turnsR]
    have hml := normR_len (t.getD r [])
    have hcan := normR_can (t.getD r [])
    have hb := sizeTab_bound ht r
    have hr16 : (r : Int) * (1000000000 * (wt p : Int)) ≤ 16 * (1000000000 * (wt p : Int)) := Int.mul_le_mul_of_nonneg_right (by omega) (by omega)
    have hnx := sizeTab_succ t r
    unfold sizeR at hnx
    generalize normR (t.getD r []) = m at g1 hml hcan hnx
    have g2 : (encIs (turnsC m)).length = 2 * m.length := by rw [encIs_len, turnsC_len]
    (focus (have hF := (And.intro @h16 @hone); (repeat' (first | refine go1 (k:=?_) | with_reducible refine Ny.of ?_ ?_ | (refine Hyp.of ?_; intro hc; (try simp only [hc]); (try simp only [Bh] at hc)))); all_goals clear hF))
    refine Run.while (σ := Nat) (fun c => ⟨tms [(3, .ptr 3 0), (4, .int .i64 ((m.take c).foldl sizeStep (sizeTab t r))), (5, .int .i64 (r : Int)), (6, .int .i64 ((2 * c : Nat) : Int))], mms [(3, .cells (encSet (t.map turnsR)))]⟩)
      (fun c => c ≤ m.length) (fun c => m.length - c) 0 (have hW := @hst; stWk) (Nat.zero_le _) ?_
    intro c hc
    unfold t_k126_l2
    by_cases hcl : c < m.length
    · obtain ⟨x, hx⟩ : ∃ x, m[c]? = some x := ⟨m[c], by simp [hcl]⟩
      have ⟨k1, k2⟩ := turns_at hx
      have k1' : (encIs (turnsC m))[2 * c]? = some (.int .i64 x.1) := encIs_get k1
      have k2' : (encIs (turnsC m))[2 * c + 1]? = some (.int .i64 (x.2 + 1)) := encIs_get k2
      have hxr := hcan.2 x (List.mem_of_getElem? hx)
      unfold okR at hxr
      have e8 : ((2 * c : Nat) : Int) + 1 = ((2 * c + 1 : Nat) : Int) := by omega
      have e9 : ((2 * c : Nat) : Int) + 2 = ((2 * (c + 1) : Nat) : Int) := by omega
      have hf : (m.take (c + 1)).foldl sizeStep (sizeTab t r) = (m.take c).foldl sizeStep (sizeTab t r) + (x.2 + 1 - x.1) := by
        rw [foldl_take sizeStep _ m hx]
        unfold sizeStep
        omega
      have hb2 := sizeFold_le (m := m.take c) (fun y hy => by have := hcan.2 y (List.mem_of_mem_take hy); unfold okR at this; omega) (sizeTab t r)
      have hb3 : (m.take c).length ≤ m.length := by rw [List.length_take]; omega
      generalize (m.take c).foldl sizeStep (sizeTab t r) = a at hf hb2 ⊢
      (focus (have hF := (And.intro (And.intro (And.intro @h16 @hone) (And.intro @g1 @g2)) (And.intro (And.intro @k1' @k2') (And.intro @e8 @e9))); (repeat' (first | refine go1 (k:=?_) | with_reducible refine Ny.of ?_ ?_ | (refine Hyp.of ?_; intro hc; (try simp only [hc]); (try simp only [Bh] at hc)))); all_goals clear hF))
      (refine Fin.nextW (c + 1) ?_ (have hW := (And.intro @hst @hf); stWk); (try dsimp only))
      omega
    · have hce : (m.take c).foldl sizeStep (sizeTab t r) = sizeTab t (r + 1) := by
        rw [show c = m.length by omega, List.take_length, sizeFold_shift, hnx]
      rw [hce]
      (focus (have hF := (And.intro (And.intro @h16 @hone) (And.intro @g1 @g2)); (repeat' (first | refine go1 (k:=?_) | with_reducible refine Ny.of ?_ ?_ | (refine Hyp.of ?_; intro hc; (try simp only [hc]); (try simp only [Bh] at hc)))); all_goals clear hF))
      (refine Fin.nextW (r + 1) ?_ (have hW := @hst; stWk); (try dsimp only))
      omega
  · rw [show r = 16 by omega]
    (focus (have hF := @h16; (repeat' (first | refine go1 (k:=?_) | with_reducible refine Ny.of ?_ ?_ | (refine Hyp.of ?_; intro hc; (try simp only [hc]); (try simp only [Bh] at hc)))); all_goals clear hF))
    exact Fin.tmp' rfl rfl
theorem ev_k76 (p : Pst) (hp : wt p ≤ 50000000) : Ev (En Tryz.prog rfl).P 76 [encP p] (.ret (.bool (decide (sizeP p = 0)))) := by
  refine Ev.of_body it_k76 (by simp) (Run.start ?_)
  unfold t_k76 encP
  (focus (have hF := True.intro; (repeat' (first | refine go1 (k:=?_) | with_reducible refine Ny.of ?_ ?_ | (refine Hyp.of ?_; intro hc; (try simp only [hc]); (try simp only [Bh] at hc)))); all_goals clear hF))
  refine stCall [encP p] (he := ev_k126 p hp) (k:=?_)
  (focus (have hF := True.intro; (repeat' (first | refine go1 (k:=?_) | with_reducible refine Ny.of ?_ ?_ | (refine Hyp.of ?_; intro hc; (try simp only [hc]); (try simp only [Bh] at hc)))); all_goals clear hF))
  exact Fin.tmp' rfl rfl
theorem within_size (p q : Pst) : decide (sizeP (minusP p q) = 0) = withinP p q := by
  refine bool_eq ?_
  rw [decide_eq_true_eq, withinP_iff, sizeP_card]
  constructor
  · intro h r hr n hn
    refine Classical.byContradiction fun h' => ?_
    have hin := (minusP_in p q hr n).2 ⟨hn, h'⟩
    have := cardT_pos hin.2.1 hin.2.2.1 hin hr
    omega
  · intro h
    have := cardT_zero (q := inP (minusP p q)) (fun r n hh => by
      have := (minusP_in p q hh.1 n).1 hh
      exact this.2 (h r hh.1 n this.1)) 16
    omega
theorem ev_k70 (p q : Pst) (hp : wt p ≤ 10000000) (hq : wt q ≤ 10000000) : Ev (En Tryz.prog rfl).P 70 [encP p, encP q] (.ret (.bool (withinP p q))) := by
  have w := minusP_wt p q
  have c1 := ev_k120 p q (by omega) (by omega)
  have c2 := ev_k76 (minusP p q) (by omega)
  rw [within_size] at c2
  refine Ev.of_body it_k70 (by simp) (Run.start ?_)
  unfold t_k70 encP
  (focus (have hF := True.intro; (repeat' (first | refine go1 (k:=?_) | with_reducible refine Ny.of ?_ ?_ | (refine Hyp.of ?_; intro hc; (try simp only [hc]); (try simp only [Bh] at hc)))); all_goals clear hF))
  refine stCall [encP p, encP q] (he := c1) (k:=?_)
  (focus (have hF := True.intro; (repeat' (first | refine go1 (k:=?_) | with_reducible refine Ny.of ?_ ?_ | (refine Hyp.of ?_; intro hc; (try simp only [hc]); (try simp only [Bh] at hc)))); all_goals clear hF))
  refine stCall [encP (minusP p q)] (he := c2) (k:=?_)
  (focus (have hF := True.intro; (repeat' (first | refine go1 (k:=?_) | with_reducible refine Ny.of ?_ ?_ | (refine Hyp.of ?_; intro hc; (try simp only [hc]); (try simp only [Bh] at hc)))); all_goals clear hF))
  exact Fin.tmp' rfl rfl
theorem ev_k147 (a b : Int) : Ev (En Tryz.prog rfl).P 147 [.int .i64 a, .int .i64 b] (.ret (.int .i64 (cmpI a b))) := by
  refine Ev.of_body it_k147 (by simp) (Run.start ?_)
  unfold t_k147
  by_cases h1 : a < b
  · rw [show cmpI a b = -1 from if_pos h1]
    (focus (have hF := True.intro; (repeat' (first | refine go1 (k:=?_) | with_reducible refine Ny.of ?_ ?_ | (refine Hyp.of ?_; intro hc; (try simp only [hc]); (try simp only [Bh] at hc)))); all_goals clear hF))
    exact Fin.tmp' rfl rfl
  · by_cases h2 : b < a
    · rw [show cmpI a b = 1 by unfold cmpI; rw [if_neg h1, if_pos h2]]
      (focus (have hF := True.intro; (repeat' (first | refine go1 (k:=?_) | with_reducible refine Ny.of ?_ ?_ | (refine Hyp.of ?_; intro hc; (try simp only [hc]); (try simp only [Bh] at hc)))); all_goals clear hF))
      exact Fin.tmp' rfl rfl
    · rw [show cmpI a b = 0 by unfold cmpI; rw [if_neg h1, if_neg h2]]
      (focus (have hF := True.intro; (repeat' (first | refine go1 (k:=?_) | with_reducible refine Ny.of ?_ ?_ | (refine Hyp.of ?_; intro hc; (try simp only [hc]); (try simp only [Bh] at hc)))); all_goals clear hF))
      exact Fin.tmp' rfl rfl

theorem cmpS_def (s t : Sn) : cmpS s t = if cmpI s.1 t.1 = 0 then (if cmpI s.2.1 t.2.1 = 0 then cmpI s.2.2 t.2.2 else cmpI s.2.1 t.2.1) else cmpI s.1 t.1 := by
  unfold cmpS
  simp only [orI]
  split
  · split
    · split
      · rename_i h; exact h.symm
      · rfl
    · rfl
  · rfl
theorem cmpI_zero {a b : Int} : cmpI a b = 0 ↔ a = b := by
  unfold cmpI
  split
  · constructor
    · intro h; simp at h
    · intro h; omega
  · split
    · constructor
      · intro h; simp at h
      · intro h; omega
    · constructor
      · intro _; omega
      · intro _; rfl
theorem ev_k119 (p q : Pst) (hp : wt p ≤ 30000000) (hq : wt q ≤ 30000000) : Ev (En Tryz.prog rfl).P 119 [encP p, encP q] (.ret (.int .i64 (cmpP p q))) := by
  refine Ev.of_body it_k119 (by simp) (Run.start ?_)
  unfold t_k119 encP
  have c1 := ev_k117 p (by omega)
  have c2 := ev_k117 q (by omega)
  have h1 := normP_wt p
  have h2 := normP_wt q
  have hr : cmpP p q = lexI (keyP (normP p)) (keyP (normP q)) := rfl
  rw [hr]
  (focus (have hF := True.intro; (repeat' (first | refine go1 (k:=?_) | with_reducible refine Ny.of ?_ ?_ | (refine Hyp.of ?_; intro hc; (try simp only [hc]); (try simp only [Bh] at hc)))); all_goals clear hF))
  refine stCall [encP p] (he := c1) (k:=?_)
  unfold encP
  (focus (have hF := True.intro; (repeat' (first | refine go1 (k:=?_) | with_reducible refine Ny.of ?_ ?_ | (refine Hyp.of ?_; intro hc; (try simp only [hc]); (try simp only [Bh] at hc)))); all_goals clear hF))
  refine stCall [encP q] (he := c2) (k:=?_)
  clear c1 c2 hr
  generalize normP p = x at h1 ⊢
  generalize normP q = y at h2 ⊢
  unfold encP
  have hw1 : x.vec.length + x.cloud.length = wt x := rfl
  have hw2 : y.vec.length + y.cloud.length = wt y := rfl
  have e1 := encIs_len x.vec
  have e2 := encIs_len y.vec
  have e3 := encSs_len x.cloud
  have e4 := encSs_len y.cloud
  (focus (have hF := (And.intro @e1 @e2); (repeat' (first | refine go1 (k:=?_) | with_reducible refine Ny.of ?_ ?_ | (refine Hyp.of ?_; intro hc; (try simp only [hc]); (try simp only [Bh] at hc)))); all_goals clear hF))
  refine Run.while (σ := Nat) (fun i => ⟨tms [(2, .ptr 2 0), (3, .ptr 3 0), (5, .int .i64 (i : Int))], mms [(2, .cells [.sl 1 (encIs x.vec), .sl 3 (encSs x.cloud)]), (3, .cells [.sl 1 (encIs y.vec), .sl 3 (encSs y.cloud)])]⟩) (fun i => i ≤ 16 ∧ ∀ j, j < i → vv x j = vv y j) (fun i => 16 - i) 0 (have hW := (And.intro @encIs_stb @encSs_stb); stWk) ⟨Nat.zero_le _, fun j hj => absurd hj (Nat.not_lt_zero _)⟩ ?_
  rintro i ⟨hi, hp⟩
  unfold t_k119_l1
  by_cases hlt : i < 16
  · have hne : vv x i ≠ vv y i → lexI (keyP x) (keyP y) = cmpI (vv x i) (vv y i) := fun hn =>
      lexI_at (vecK x) (vecK y) i _ _ _ _ (vecK_get x hlt) (vecK_get y hlt) (fun j hj => by rw [vecK_get x (by omega), vecK_get y (by omega), hp j hj]) hn
    have heq : vv x i = vv y i → ∀ j, j < i + 1 → vv x j = vv y j := fun he j hj => by
      by_cases e : j = i
      · rw [e]; exact he
      · exact hp j (by omega)
    have k1 := ev_k147 (vv x i) (vv y i)
    unfold vv at hne heq k1
    by_cases hx : i < x.vec.length
    · have g1 : (encIs x.vec)[i]? = some (.int .i64 (vecAt x.vec i)) := encIs_get (by unfold vecAt; rw [List.getD_eq_getElem?_getD, List.getElem?_eq_getElem hx]; rfl)
      simp only [if_pos hx] at hne heq k1
      by_cases hy : i < y.vec.length
      · have g2 : (encIs y.vec)[i]? = some (.int .i64 (vecAt y.vec i)) := encIs_get (by unfold vecAt; rw [List.getD_eq_getElem?_getD, List.getElem?_eq_getElem hy]; rfl)
        simp only [if_pos hy] at hne heq k1
        (focus (have hF := (And.intro (And.intro @e1 @e2) (And.intro @g1 @g2)); (repeat' (first | refine go1 (k:=?_) | with_reducible refine Ny.of ?_ ?_ | (refine Hyp.of ?_; intro hc; (try simp only [hc]); (try simp only [Bh] at hc)))); all_goals clear hF))
        · rw [hne hc]
          refine stCall [.int .i64 (vecAt x.vec i), .int .i64 (vecAt y.vec i)] (he := k1) (k:=?_)
          (focus (have hF := True.intro; (repeat' (first | refine go1 (k:=?_) | with_reducible refine Ny.of ?_ ?_ | (refine Hyp.of ?_; intro hc; (try simp only [hc]); (try simp only [Bh] at hc)))); all_goals clear hF))
          exact Fin.tmp' rfl rfl
        · have h := heq hc
          (refine Fin.nextW (i + 1) ?_ (have hW := (And.intro @encIs_stb @encSs_stb); stWk); (try dsimp only))
          exact ⟨⟨hlt, h⟩, by omega⟩
      · simp only [if_neg hy] at hne heq k1
        (focus (have hF := (And.intro @e1 (And.intro @e2 @g1)); (repeat' (first | refine go1 (k:=?_) | with_reducible refine Ny.of ?_ ?_ | (refine Hyp.of ?_; intro hc; (try simp only [hc]); (try simp only [Bh] at hc)))); all_goals clear hF))
        · rw [hne hc]
          refine stCall [.int .i64 (vecAt x.vec i), .int .i64 0] (he := k1) (k:=?_)
          (focus (have hF := True.intro; (repeat' (first | refine go1 (k:=?_) | with_reducible refine Ny.of ?_ ?_ | (refine Hyp.of ?_; intro hc; (try simp only [hc]); (try simp only [Bh] at hc)))); all_goals clear hF))
          exact Fin.tmp' rfl rfl
        · have h := heq hc
          (refine Fin.nextW (i + 1) ?_ (have hW := (And.intro @encIs_stb @encSs_stb); stWk); (try dsimp only))
          exact ⟨⟨hlt, h⟩, by omega⟩
    · simp only [if_neg hx] at hne heq k1
      by_cases hy : i < y.vec.length
      · have g2 : (encIs y.vec)[i]? = some (.int .i64 (vecAt y.vec i)) := encIs_get (by unfold vecAt; rw [List.getD_eq_getElem?_getD, List.getElem?_eq_getElem hy]; rfl)
        simp only [if_pos hy] at hne heq k1
        (focus (have hF := (And.intro @e1 (And.intro @e2 @g2)); (repeat' (first | refine go1 (k:=?_) | with_reducible refine Ny.of ?_ ?_ | (refine Hyp.of ?_; intro hc; (try simp only [hc]); (try simp only [Bh] at hc)))); all_goals clear hF))
        · rw [hne hc]
          refine stCall [.int .i64 0, .int .i64 (vecAt y.vec i)] (he := k1) (k:=?_)
          (focus (have hF := True.intro; (repeat' (first | refine go1 (k:=?_) | with_reducible refine Ny.of ?_ ?_ | (refine Hyp.of ?_; intro hc; (try simp only [hc]); (try simp only [Bh] at hc)))); all_goals clear hF))
          exact Fin.tmp' rfl rfl
        · have h := heq hc
          (refine Fin.nextW (i + 1) ?_ (have hW := (And.intro @encIs_stb @encSs_stb); stWk); (try dsimp only))
          exact ⟨⟨hlt, h⟩, by omega⟩
      · simp only [if_neg hy] at hne heq k1
        (focus (have hF := (And.intro @e1 @e2); (repeat' (first | refine go1 (k:=?_) | with_reducible refine Ny.of ?_ ?_ | (refine Hyp.of ?_; intro hc; (try simp only [hc]); (try simp only [Bh] at hc)))); all_goals clear hF))
        have h := heq trivial
        (refine Fin.nextW (i + 1) ?_ (have hW := (And.intro @encIs_stb @encSs_stb); stWk); (try dsimp only))
        exact ⟨⟨hlt, h⟩, by omega⟩
  · have hv : vecK x = vecK y := by
      unfold vecK
      exact List.map_congr_left fun j hj => hp j (by rw [List.mem_range] at hj; omega)
    have hk : lexI (keyP x) (keyP y) = cmpL x.cloud y.cloud := by
      unfold keyP
      rw [hv, lexI_app, cmpL_flat]
    rw [hk]
    (focus (have hF := (And.intro @e1 @e2); (repeat' (first | refine go1 (k:=?_) | with_reducible refine Ny.of ?_ ?_ | (refine Hyp.of ?_; intro hc; (try simp only [hc]); (try simp only [Bh] at hc)))); all_goals clear hF))
    refine Run.while (σ := Nat) (fun i => ⟨tms [(2, .ptr 2 0), (3, .ptr 3 0), (8, .int .i64 (i : Int))], mms [(2, .cells [.sl 1 (encIs x.vec), .sl 3 (encSs x.cloud)]), (3, .cells [.sl 1 (encIs y.vec), .sl 3 (encSs y.cloud)])]⟩) (fun i => i ≤ x.cloud.length ∧ i ≤ y.cloud.length ∧ cmpL (x.cloud.drop i) (y.cloud.drop i) = cmpL x.cloud y.cloud) (fun i => x.cloud.length - i) 0 (have hW := (And.intro @encIs_stb @encSs_stb); stWk) ⟨Nat.zero_le _, Nat.zero_le _, by rw [List.drop_zero, List.drop_zero]⟩ ?_
    clear hlt hi hp
    rintro i ⟨hi, hi2, hp⟩
    unfold t_k119_l2
    by_cases hlt : i < x.cloud.length ∧ i < y.cloud.length
    · obtain ⟨hla, hlb⟩ := hlt
      obtain ⟨s, hs⟩ : ∃ s, x.cloud[i]? = some s := ⟨x.cloud[i], by simp [hla]⟩
      obtain ⟨t, ht⟩ : ∃ t, y.cloud[i]? = some t := ⟨y.cloud[i], by simp [hlb]⟩
      have g1 := encSs_get hs
      have g2 := encSs_get ht
      obtain ⟨_, hxa⟩ := List.getElem?_eq_some_iff.1 hs
      obtain ⟨_, hyb⟩ := List.getElem?_eq_some_iff.1 ht
      have hd : cmpL x.cloud y.cloud = if cmpS s t = 0 then cmpL (x.cloud.drop (i + 1)) (y.cloud.drop (i + 1)) else cmpS s t := by
        rw [← hp, List.drop_eq_getElem_cons hla, List.drop_eq_getElem_cons hlb, hxa, hyb]
        rfl
      rw [cmpS_def] at hd
      have k1 := ev_k147 s.1 t.1
      have k2 := ev_k147 s.2.1 t.2.1
      have k3 := ev_k147 s.2.2 t.2.2
      unfold encS at g1 g2
      by_cases q1 : s.1 = t.1
      · rw [if_pos (cmpI_zero.2 q1)] at hd
        by_cases q2 : s.2.1 = t.2.1
        · rw [if_pos (cmpI_zero.2 q2)] at hd
          by_cases q3 : s.2.2 = t.2.2
          · rw [if_pos (cmpI_zero.2 q3)] at hd
            (focus (have hF := (And.intro (And.intro (And.intro @e1 @e2) (And.intro @e3 @e4)) (And.intro (And.intro @g1 @g2) (And.intro @q1 (And.intro @q2 @q3)))); (repeat' (first | refine go2 (k:=?_) | with_reducible refine Ny.of ?_ ?_ | (refine Hyp.of ?_; intro hc; (try simp only [hc]); (try simp only [Bh] at hc)))); all_goals clear hF))
            (refine Fin.nextW (i + 1) ?_ (have hW := (And.intro @encIs_stb @encSs_stb); stWk); (try dsimp only))
            exact ⟨⟨hla, hlb, hd.symm⟩, by omega⟩
          · rw [if_neg (fun h => q3 (cmpI_zero.1 h))] at hd
            rw [hd]
            (focus (have hF := (And.intro (And.intro (And.intro @e1 @e2) (And.intro @e3 @e4)) (And.intro (And.intro @g1 @g2) (And.intro @q1 (And.intro @q2 @q3)))); (repeat' (first | refine go2 (k:=?_) | with_reducible refine Ny.of ?_ ?_ | (refine Hyp.of ?_; intro hc; (try simp only [hc]); (try simp only [Bh] at hc)))); all_goals clear hF))
            refine stCall [.int .i64 s.2.2, .int .i64 t.2.2] (he := k3) (k:=?_)
            (focus (have hF := True.intro; (repeat' (first | refine go1 (k:=?_) | with_reducible refine Ny.of ?_ ?_ | (refine Hyp.of ?_; intro hc; (try simp only [hc]); (try simp only [Bh] at hc)))); all_goals clear hF))
            exact Fin.tmp' rfl rfl
        · have hd2 : ¬ cmpI s.2.1 t.2.1 = 0 := fun h => q2 (cmpI_zero.1 h)
          rw [if_neg hd2, if_neg hd2] at hd
          rw [hd]
          (focus (have hF := (And.intro (And.intro (And.intro @e1 @e2) (And.intro @e3 @e4)) (And.intro (And.intro @g1 @g2) (And.intro @q1 @q2))); (repeat' (first | refine go2 (k:=?_) | with_reducible refine Ny.of ?_ ?_ | (refine Hyp.of ?_; intro hc; (try simp only [hc]); (try simp only [Bh] at hc)))); all_goals clear hF))
          refine stCall [.int .i64 s.2.1, .int .i64 t.2.1] (he := k2) (k:=?_)
          (focus (have hF := True.intro; (repeat' (first | refine go1 (k:=?_) | with_reducible refine Ny.of ?_ ?_ | (refine Hyp.of ?_; intro hc; (try simp only [hc]); (try simp only [Bh] at hc)))); all_goals clear hF))
          exact Fin.tmp' rfl rfl
      · have hd2 : ¬ cmpI s.1 t.1 = 0 := fun h => q1 (cmpI_zero.1 h)
        rw [if_neg hd2, if_neg hd2] at hd
        rw [hd]
        (focus (have hF := (And.intro (And.intro @e1 (And.intro @e2 @e3)) (And.intro (And.intro @e4 @g1) (And.intro @g2 @q1))); (repeat' (first | refine go2 (k:=?_) | with_reducible refine Ny.of ?_ ?_ | (refine Hyp.of ?_; intro hc; (try simp only [hc]); (try simp only [Bh] at hc)))); all_goals clear hF))
        refine stCall [.int .i64 s.1, .int .i64 t.1] (he := k1) (k:=?_)
        (focus (have hF := True.intro; (repeat' (first | refine go1 (k:=?_) | with_reducible refine Ny.of ?_ ?_ | (refine Hyp.of ?_; intro hc; (try simp only [hc]); (try simp only [Bh] at hc)))); all_goals clear hF))
        exact Fin.tmp' rfl rfl
    · have hd : cmpL x.cloud y.cloud = cmpI (x.cloud.length : Int) (y.cloud.length : Int) := by
        rw [← hp]
        by_cases ha : i < x.cloud.length
        · have hb : ¬ i < y.cloud.length := fun h => hlt ⟨ha, h⟩
          rw [List.drop_eq_getElem_cons ha, List.drop_eq_nil_of_le (show y.cloud.length ≤ i by omega)]
          unfold cmpI
          rw [if_neg (by omega), if_pos (by omega)]
          rfl
        · by_cases hb : i < y.cloud.length
          · rw [List.drop_eq_nil_of_le (show x.cloud.length ≤ i by omega), List.drop_eq_getElem_cons hb]
            unfold cmpI
            rw [if_pos (by omega)]
            rfl
          · rw [List.drop_eq_nil_of_le (show x.cloud.length ≤ i by omega), List.drop_eq_nil_of_le (show y.cloud.length ≤ i by omega)]
            unfold cmpI
            rw [if_neg (by omega), if_neg (by omega)]
            rfl
      rw [hd]
      have k1 := ev_k147 (x.cloud.length : Int) (y.cloud.length : Int)
      by_cases ha : i < x.cloud.length
      · have hb : ¬ i < y.cloud.length := fun h => hlt ⟨ha, h⟩
        (focus (have hF := (And.intro (And.intro @e1 @e2) (And.intro @e3 @e4)); (repeat' (first | refine go1 (k:=?_) | with_reducible refine Ny.of ?_ ?_ | (refine Hyp.of ?_; intro hc; (try simp only [hc]); (try simp only [Bh] at hc)))); all_goals clear hF))
        refine stCall [.int .i64 (x.cloud.length : Int), .int .i64 (y.cloud.length : Int)] (he := k1) (k:=?_)
        (focus (have hF := True.intro; (repeat' (first | refine go1 (k:=?_) | with_reducible refine Ny.of ?_ ?_ | (refine Hyp.of ?_; intro hc; (try simp only [hc]); (try simp only [Bh] at hc)))); all_goals clear hF))
        exact Fin.tmp' rfl rfl
      · (focus (have hF := (And.intro (And.intro @e1 @e2) (And.intro @e3 @e4)); (repeat' (first | refine go1 (k:=?_) | with_reducible refine Ny.of ?_ ?_ | (refine Hyp.of ?_; intro hc; (try simp only [hc]); (try simp only [Bh] at hc)))); all_goals clear hF))
        refine stCall [.int .i64 (x.cloud.length : Int), .int .i64 (y.cloud.length : Int)] (he := k1) (k:=?_)
        (focus (have hF := True.intro; (repeat' (first | refine go1 (k:=?_) | with_reducible refine Ny.of ?_ ?_ | (refine Hyp.of ?_; intro hc; (try simp only [hc]); (try simp only [Bh] at hc)))); all_goals clear hF))
        exact Fin.tmp' rfl rfl

def r_k159_1 : List SOp := [⟨some 4,.assign (.const (.int .i64 0)),none⟩]
instance : Live r_k159_1 := ⟨[0,1]⟩
def r_k159_2 : List SOp := [⟨some 5,.move (.tmp 0),none⟩,⟨some 6,.move (.tmp 1),none⟩,⟨some 7,.call ⟨.value (.func 173),#[.tmp 5,.tmp 6],#[9,9]⟩,none⟩,⟨some 4,.assign (.tmp 7),none⟩]
instance : Live r_k159_2 := ⟨[0,1]⟩
def t_k159 : SC :=
  (.seq (.ops false r_k159_1) (.seq (.ops false r_k159_2) .ret))
theorem it_k159 : FnIs Tryz.prog 159 8 [.tmp 4] t_k159 := ⟨Tryz.f159, _, Tryz.func159, rfl, rfl, rfl, rfl, by kernel_rfl⟩

def r_k138_1 : List SOp := [⟨some 4,.assign (.const (.int .i64 0)),none⟩]
instance : Live r_k138_1 := ⟨[0,1]⟩
def r_k138_2 : List SOp := [⟨some 5,.move (.tmp 0),none⟩,⟨some 6,.move (.tmp 1),none⟩,⟨some 7,.call ⟨.value (.func 159),#[.tmp 5,.tmp 6],#[9,9]⟩,none⟩,⟨some 4,.assign (.tmp 7),none⟩]
instance : Live r_k138_2 := ⟨[0,1]⟩
def t_k138 : SC :=
  (.seq (.ops false r_k138_1) (.seq (.ops false r_k138_2) .ret))
theorem it_k138 : FnIs Tryz.prog 138 8 [.tmp 4] t_k138 := ⟨Tryz.f138, _, Tryz.func138, rfl, rfl, rfl, rfl, by kernel_rfl⟩

def r_k106_1 : List SOp := [⟨some 2,.box 91 (.tmp 0),none⟩,⟨some 3,.box 91 (.tmp 1),none⟩,⟨some 4,.assign (.const (.int .i64 0)),none⟩]
instance : Live r_k106_1 := ⟨[0,1]⟩
def r_k106_2 : List SOp := [⟨some 6,.fieldAddr 91 (.tmp 2) 0,none⟩,⟨some 7,.load 9 (.tmp 6),none⟩,⟨some 8,.fieldAddr 91 (.tmp 3) 0,none⟩,⟨some 9,.load 9 (.tmp 8),none⟩,⟨some 10,.call ⟨.value (.func 138),#[.tmp 7,.tmp 9],#[9,9]⟩,none⟩,⟨some 5,.assign (.tmp 10),none⟩]
instance : Live r_k106_2 := ⟨[2,3]⟩
def r_k106_3 : List SOp := [⟨some 11,.move (.tmp 5),none⟩,⟨some 12,.binOp .neq 3 (.tmp 11) (.const (.int .i64 0)) 3,none⟩]
instance : Live r_k106_3 := ⟨[2,3,5]⟩
def r_k106_4 : List SOp := [⟨some 13,.move (.tmp 5),none⟩,⟨some 4,.assign (.tmp 13),none⟩]
instance : Live r_k106_4 := ⟨[5]⟩
def r_k106_5 : List SOp := [⟨some 14,.fieldAddr 91 (.tmp 2) 1,none⟩,⟨some 15,.load 26 (.tmp 14),none⟩,⟨some 16,.fieldAddr 91 (.tmp 3) 1,none⟩,⟨some 17,.load 26 (.tmp 16),none⟩,⟨some 18,.call ⟨.value (.func 123),#[.tmp 15,.tmp 17],#[26,26]⟩,none⟩,⟨some 4,.assign (.tmp 18),none⟩]
instance : Live r_k106_5 := ⟨[2,3]⟩
def t_k106 : SC :=
  (.seq (.ops false r_k106_1) (.seq (.seq (.ops false r_k106_2) (.seq (.ops false r_k106_3) (.cond (.tmp 12) (.seq (.ops false r_k106_4) .ret) .skip))) (.seq (.ops false r_k106_5) .ret)))
theorem it_k106 : FnIs Tryz.prog 106 19 [.tmp 4] t_k106 := ⟨Tryz.f106, _, Tryz.func106, rfl, rfl, rfl, rfl, by kernel_rfl⟩

def r_k105_1 : List SOp := [⟨some 1,.box 91 (.tmp 0),none⟩,⟨some 2,.assign (.const (.int .i64 0)),none⟩]
instance : Live r_k105_1 := ⟨[0]⟩
def r_k105_2 : List SOp := [⟨some 3,.fieldAddr 91 (.tmp 1) 0,none⟩,⟨some 4,.load 9 (.tmp 3),none⟩,⟨some 5,.binOp .neq 9 (.tmp 4) (.const (.string ⟨#[]⟩)) 9,none⟩,⟨some 6,.move (.tmp 5),none⟩,⟨some 7,.fieldAddr 91 (.tmp 1) 0,some ((some 6),true)⟩,⟨some 8,.load 9 (.tmp 7),some ((some 6),true)⟩,⟨some 9,.call ⟨.value (.func 137),#[.tmp 8],#[9]⟩,some ((some 6),true)⟩,⟨some 10,.unOp .not 4 (.tmp 9),some ((some 6),true)⟩,⟨some 11,.pick (.tmp 6) (.tmp 10) (.const (.bool false)),none⟩]
instance : Live r_k105_2 := ⟨[1]⟩
def r_k105_3 : List SOp := [⟨some 2,.assign (.const (.int .i64 5)),none⟩]
instance : Live r_k105_3 := ⟨[]⟩
def r_k105_4 : List SOp := [⟨some 12,.fieldAddr 91 (.tmp 1) 1,none⟩,⟨some 13,.load 26 (.tmp 12),none⟩,⟨some 14,.call ⟨.value (.func 54),#[.tmp 13],#[26]⟩,none⟩,⟨some 15,.unOp .not 4 (.tmp 14),none⟩,⟨some 16,.move (.tmp 15),none⟩,⟨some 17,.fieldAddr 91 (.tmp 1) 1,some ((some 16),false)⟩,⟨some 18,.load 26 (.tmp 17),some ((some 16),false)⟩,⟨some 19,.call ⟨.value (.func 92),#[.tmp 18],#[26]⟩,some ((some 16),false)⟩,⟨some 20,.pick (.tmp 16) (.const (.bool true)) (.tmp 19),none⟩]
instance : Live r_k105_4 := ⟨[1]⟩
def r_k105_5 : List SOp := [⟨some 2,.assign (.const (.int .i64 1)),none⟩]
instance : Live r_k105_5 := ⟨[]⟩
def r_k105_6 : List SOp := [⟨some 2,.assign (.const (.int .i64 0)),none⟩]
instance : Live r_k105_6 := ⟨[]⟩
def t_k105 : SC :=
  (.seq (.ops false r_k105_1) (.seq (.seq (.ops false r_k105_2) (.cond (.tmp 11) (.seq (.ops false r_k105_3) .ret) .skip)) (.seq (.seq (.ops false r_k105_4) (.cond (.tmp 20) (.seq (.ops false r_k105_5) .ret) .skip)) (.seq (.ops false r_k105_6) .ret))))
theorem it_k105 : FnIs Tryz.prog 105 21 [.tmp 2] t_k105 := ⟨Tryz.f105, _, Tryz.func105, rfl, rfl, rfl, rfl, by kernel_rfl⟩

def r_k55_1 : List SOp := [⟨some 2,.assign (.const (.int .i64 0)),none⟩]
instance : Live r_k55_1 := ⟨[0]⟩
def r_k55_2 : List SOp := [⟨some 5,.move (.tmp 0),none⟩,⟨some 6,.call ⟨.builtin .len,#[.tmp 5],#[27]⟩,none⟩,⟨some 7,.move (.const (.int .i64 0)),none⟩]
instance : Live r_k55_2 := ⟨[0]⟩
def r_k55_3 : List SOp := [⟨some 8,.binOp .lss 3 (.tmp 7) (.tmp 6) 3,none⟩]
instance : Live r_k55_3 := ⟨[0,5,6,7]⟩
def r_k55_4 : List SOp := [⟨some 9,.move (.tmp 7),none⟩,⟨some 10,.indexAddr 27 (.tmp 5) (.tmp 7),none⟩,⟨some 11,.load 91 (.tmp 10),none⟩,⟨some 4,.alloc 91,none⟩,⟨some 3,.assign (.tmp 9),none⟩,⟨none,.store 91 (.tmp 4) (.tmp 11),none⟩]
instance : Live r_k55_4 := ⟨[0,5,6,7]⟩
def r_k55_5 : List SOp := [⟨some 12,.load 91 (.tmp 4),none⟩,⟨some 13,.call ⟨.value (.func 105),#[.tmp 12],#[91]⟩,none⟩,⟨some 14,.binOp .neq 32 (.tmp 13) (.const (.int .i64 0)) 32,none⟩,⟨some 15,.move (.tmp 14),none⟩,⟨some 16,.move (.tmp 3),some ((some 15),false)⟩,⟨some 17,.binOp .gtr 3 (.tmp 16) (.const (.int .i64 0)) 3,some ((some 15),false)⟩,⟨some 18,.move (.tmp 17),some ((some 15),false)⟩,⟨some 19,.move (.tmp 0),some ((some 18),true)⟩,⟨some 20,.move (.tmp 3),some ((some 18),true)⟩,⟨some 21,.binOp .sub 3 (.tmp 20) (.const (.int .i64 1)) 3,some ((some 18),true)⟩,⟨some 22,.indexAddr 27 (.tmp 19) (.tmp 21),some ((some 18),true)⟩,⟨some 23,.load 91 (.tmp 22),some ((some 18),true)⟩,⟨some 24,.load 91 (.tmp 4),some ((some 18),true)⟩,⟨some 25,.call ⟨.value (.func 106),#[.tmp 23,.tmp 24],#[91,91]⟩,some ((some 18),true)⟩,⟨some 26,.binOp .geq 3 (.tmp 25) (.const (.int .i64 0)) 3,some ((some 18),true)⟩,⟨some 27,.pick (.tmp 18) (.tmp 26) (.const (.bool false)),some ((some 15),false)⟩,⟨some 28,.pick (.tmp 15) (.const (.bool true)) (.tmp 27),none⟩]
instance : Live r_k55_5 := ⟨[0,3,4,5,6,7]⟩
def r_k55_6 : List SOp := [⟨some 2,.assign (.const (.int .i64 1)),none⟩]
instance : Live r_k55_6 := ⟨[]⟩
def r_k55_7 : List SOp := [⟨some 29,.binOp .add 3 (.tmp 7) (.const (.int .i64 1)) 3,none⟩,⟨some 7,.move (.tmp 29),none⟩]
instance : Live r_k55_7 := ⟨[0,5,6,7]⟩
def r_k55_8 : List SOp := [⟨some 2,.assign (.const (.int .i64 0)),none⟩]
instance : Live r_k55_8 := ⟨[]⟩
def t_k55_l1 : SC :=
  (.seq (.ops false r_k55_3) (.seq (.cond (.tmp 8) .skip (.exit 0)) (.seq (.block 1 (.seq (.ops false r_k55_4) (.seq (.ops true r_k55_5) (.cond (.tmp 28) (.seq (.ops false r_k55_6) .ret) .skip)))) (.ops false r_k55_7))))
def t_k55 : SC :=
  (.seq (.ops false r_k55_1) (.seq (.seq (.ops false r_k55_2) (.block 0 (.loop t_k55_l1))) (.seq (.ops false r_k55_8) .ret)))
theorem it_k55 : FnIs Tryz.prog 55 30 [.tmp 2] t_k55 := ⟨Tryz.f55, _, Tryz.func55, rfl, rfl, rfl, rfl, by kernel_rfl⟩

def r_k101_1 : List SOp := [⟨some 1,.box 62 (.tmp 0),none⟩,⟨some 2,.assign (.const (.int .i64 0)),none⟩]
instance : Live r_k101_1 := ⟨[0]⟩
def r_k101_2 : List SOp := [⟨some 4,.fieldAddr 62 (.tmp 1) 0,none⟩,⟨some 5,.fieldAddr 41 (.tmp 4) 0,none⟩,⟨some 6,.load 3 (.tmp 5),none⟩,⟨some 7,.binOp .lss 3 (.tmp 6) (.const (.int .i64 0)) 3,none⟩,⟨some 8,.move (.tmp 7),none⟩,⟨some 9,.fieldAddr 62 (.tmp 1) 0,some ((some 8),false)⟩,⟨some 10,.fieldAddr 41 (.tmp 9) 0,some ((some 8),false)⟩,⟨some 11,.load 3 (.tmp 10),some ((some 8),false)⟩,⟨some 12,.binOp .geq 3 (.tmp 11) (.const (.int .i64 16)) 3,some ((some 8),false)⟩,⟨some 13,.pick (.tmp 8) (.const (.bool true)) (.tmp 12),none⟩,⟨some 3,.assign (.tmp 13),none⟩]
instance : Live r_k101_2 := ⟨[1]⟩
def r_k101_3 : List SOp := [⟨some 2,.assign (.const (.int .i64 3)),none⟩]
instance : Live r_k101_3 := ⟨[]⟩
def r_k101_4 : List SOp := [⟨some 15,.fieldAddr 62 (.tmp 1) 0,none⟩,⟨some 16,.fieldAddr 41 (.tmp 15) 1,none⟩,⟨some 17,.load 3 (.tmp 16),none⟩,⟨some 18,.binOp .lss 3 (.tmp 17) (.const (.int .i64 1)) 3,none⟩,⟨some 19,.move (.tmp 18),none⟩,⟨some 20,.fieldAddr 62 (.tmp 1) 0,some ((some 19),false)⟩,⟨some 21,.fieldAddr 41 (.tmp 20) 1,some ((some 19),false)⟩,⟨some 22,.load 3 (.tmp 21),some ((some 19),false)⟩,⟨some 23,.binOp .gtr 3 (.tmp 22) (.const (.int .i64 1000000000)) 3,some ((some 19),false)⟩,⟨some 24,.pick (.tmp 19) (.const (.bool true)) (.tmp 23),none⟩,⟨some 14,.assign (.tmp 24),none⟩]
instance : Live r_k101_4 := ⟨[1]⟩
def r_k101_5 : List SOp := [⟨some 2,.assign (.const (.int .i64 2)),none⟩]
instance : Live r_k101_5 := ⟨[]⟩
def r_k101_6 : List SOp := [⟨some 26,.fieldAddr 62 (.tmp 1) 1,none⟩,⟨some 27,.load 9 (.tmp 26),none⟩,⟨some 28,.call ⟨.value (.func 137),#[.tmp 27],#[9]⟩,none⟩,⟨some 29,.unOp .not 4 (.tmp 28),none⟩,⟨some 25,.assign (.tmp 29),none⟩]
instance : Live r_k101_6 := ⟨[1]⟩
def r_k101_7 : List SOp := [⟨some 2,.assign (.const (.int .i64 5)),none⟩]
instance : Live r_k101_7 := ⟨[]⟩
def r_k101_8 : List SOp := [⟨some 31,.fieldAddr 62 (.tmp 1) 2,none⟩,⟨some 32,.load 3 (.tmp 31),none⟩,⟨some 33,.binOp .lss 3 (.tmp 32) (.const (.int .i64 1)) 3,none⟩,⟨some 34,.move (.tmp 33),none⟩,⟨some 35,.fieldAddr 62 (.tmp 1) 2,some ((some 34),false)⟩,⟨some 36,.load 3 (.tmp 35),some ((some 34),false)⟩,⟨some 37,.binOp .gtr 3 (.tmp 36) (.const (.int .i64 1000000)) 3,some ((some 34),false)⟩,⟨some 38,.pick (.tmp 34) (.const (.bool true)) (.tmp 37),none⟩,⟨some 30,.assign (.tmp 38),none⟩]
instance : Live r_k101_8 := ⟨[1]⟩
def r_k101_9 : List SOp := [⟨some 2,.assign (.const (.int .i64 6)),none⟩]
instance : Live r_k101_9 := ⟨[]⟩
def r_k101_10 : List SOp := [⟨some 2,.assign (.const (.int .i64 0)),none⟩]
instance : Live r_k101_10 := ⟨[]⟩
def t_k101 : SC :=
  (.seq (.ops false r_k101_1) (.seq (.block 0 (.seq (.ops false r_k101_2) (.cond (.tmp 3) (.seq (.ops false r_k101_3) .ret) (.seq (.ops false r_k101_4) (.cond (.tmp 14) (.seq (.ops false r_k101_5) .ret) (.seq (.ops false r_k101_6) (.cond (.tmp 25) (.seq (.ops false r_k101_7) .ret) (.seq (.ops false r_k101_8) (.cond (.tmp 30) (.seq (.ops false r_k101_9) .ret) .skip))))))))) (.seq (.ops false r_k101_10) .ret)))
theorem it_k101 : FnIs Tryz.prog 101 39 [.tmp 2] t_k101 := ⟨Tryz.f101, _, Tryz.func101, rfl, rfl, rfl, rfl, by kernel_rfl⟩

def r_k102_1 : List SOp := [⟨some 2,.box 41 (.tmp 0),none⟩,⟨some 3,.box 41 (.tmp 1),none⟩,⟨some 4,.assign (.const (.bool false)),none⟩]
instance : Live r_k102_1 := ⟨[0,1]⟩
def r_k102_2 : List SOp := [⟨some 5,.fieldAddr 41 (.tmp 2) 0,none⟩,⟨some 6,.load 3 (.tmp 5),none⟩,⟨some 7,.fieldAddr 41 (.tmp 3) 0,none⟩,⟨some 8,.load 3 (.tmp 7),none⟩,⟨some 9,.binOp .lss 3 (.tmp 6) (.tmp 8) 3,none⟩,⟨some 10,.move (.tmp 9),none⟩,⟨some 11,.fieldAddr 41 (.tmp 2) 0,some ((some 10),false)⟩,⟨some 12,.load 3 (.tmp 11),some ((some 10),false)⟩,⟨some 13,.fieldAddr 41 (.tmp 3) 0,some ((some 10),false)⟩,⟨some 14,.load 3 (.tmp 13),some ((some 10),false)⟩,⟨some 15,.binOp .eql 3 (.tmp 12) (.tmp 14) 3,some ((some 10),false)⟩,⟨some 16,.move (.tmp 15),some ((some 10),false)⟩,⟨some 17,.fieldAddr 41 (.tmp 2) 1,some ((some 16),true)⟩,⟨some 18,.load 3 (.tmp 17),some ((some 16),true)⟩,⟨some 19,.fieldAddr 41 (.tmp 3) 1,some ((some 16),true)⟩,⟨some 20,.load 3 (.tmp 19),some ((some 16),true)⟩,⟨some 21,.binOp .lss 3 (.tmp 18) (.tmp 20) 3,some ((some 16),true)⟩,⟨some 22,.pick (.tmp 16) (.tmp 21) (.const (.bool false)),some ((some 10),false)⟩,⟨some 23,.pick (.tmp 10) (.const (.bool true)) (.tmp 22),none⟩,⟨some 4,.assign (.tmp 23),none⟩]
instance : Live r_k102_2 := ⟨[2,3]⟩
def t_k102 : SC :=
  (.seq (.ops false r_k102_1) (.seq (.ops false r_k102_2) .ret))
theorem it_k102 : FnIs Tryz.prog 102 24 [.tmp 4] t_k102 := ⟨Tryz.f102, _, Tryz.func102, rfl, rfl, rfl, rfl, by kernel_rfl⟩

def r_k53_1 : List SOp := [⟨some 2,.assign (.const (.int .i64 0)),none⟩]
instance : Live r_k53_1 := ⟨[0]⟩
def r_k53_2 : List SOp := [⟨some 5,.move (.tmp 0),none⟩,⟨some 6,.call ⟨.builtin .len,#[.tmp 5],#[22]⟩,none⟩,⟨some 7,.move (.const (.int .i64 0)),none⟩]
instance : Live r_k53_2 := ⟨[0]⟩
def r_k53_3 : List SOp := [⟨some 8,.binOp .lss 3 (.tmp 7) (.tmp 6) 3,none⟩]
instance : Live r_k53_3 := ⟨[0,5,6,7]⟩
def r_k53_4 : List SOp := [⟨some 9,.move (.tmp 7),none⟩,⟨some 10,.indexAddr 22 (.tmp 5) (.tmp 7),none⟩,⟨some 11,.load 62 (.tmp 10),none⟩,⟨some 4,.alloc 62,none⟩,⟨some 3,.assign (.tmp 9),none⟩,⟨none,.store 62 (.tmp 4) (.tmp 11),none⟩]
instance : Live r_k53_4 := ⟨[0,5,6,7]⟩
def r_k53_5 : List SOp := [⟨some 12,.load 62 (.tmp 4),none⟩,⟨some 13,.call ⟨.value (.func 101),#[.tmp 12],#[62]⟩,none⟩,⟨some 14,.binOp .neq 32 (.tmp 13) (.const (.int .i64 0)) 32,none⟩,⟨some 15,.move (.tmp 14),none⟩,⟨some 16,.move (.tmp 3),some ((some 15),false)⟩,⟨some 17,.binOp .gtr 3 (.tmp 16) (.const (.int .i64 0)) 3,some ((some 15),false)⟩,⟨some 18,.move (.tmp 17),some ((some 15),false)⟩,⟨some 19,.move (.tmp 0),some ((some 18),true)⟩,⟨some 20,.move (.tmp 3),some ((some 18),true)⟩,⟨some 21,.binOp .sub 3 (.tmp 20) (.const (.int .i64 1)) 3,some ((some 18),true)⟩,⟨some 22,.indexAddr 22 (.tmp 19) (.tmp 21),some ((some 18),true)⟩,⟨some 23,.fieldAddr 62 (.tmp 22) 0,some ((some 18),true)⟩,⟨some 24,.load 41 (.tmp 23),some ((some 18),true)⟩,⟨some 25,.fieldAddr 62 (.tmp 4) 0,some ((some 18),true)⟩,⟨some 26,.load 41 (.tmp 25),some ((some 18),true)⟩,⟨some 27,.call ⟨.value (.func 102),#[.tmp 24,.tmp 26],#[41,41]⟩,some ((some 18),true)⟩,⟨some 28,.unOp .not 4 (.tmp 27),some ((some 18),true)⟩,⟨some 29,.pick (.tmp 18) (.tmp 28) (.const (.bool false)),some ((some 15),false)⟩,⟨some 30,.pick (.tmp 15) (.const (.bool true)) (.tmp 29),none⟩]
instance : Live r_k53_5 := ⟨[0,3,4,5,6,7]⟩
def r_k53_6 : List SOp := [⟨some 2,.assign (.const (.int .i64 1)),none⟩]
instance : Live r_k53_6 := ⟨[]⟩
def r_k53_7 : List SOp := [⟨some 31,.binOp .add 3 (.tmp 7) (.const (.int .i64 1)) 3,none⟩,⟨some 7,.move (.tmp 31),none⟩]
instance : Live r_k53_7 := ⟨[0,5,6,7]⟩
def r_k53_8 : List SOp := [⟨some 2,.assign (.const (.int .i64 0)),none⟩]
instance : Live r_k53_8 := ⟨[]⟩
def t_k53_l1 : SC :=
  (.seq (.ops false r_k53_3) (.seq (.cond (.tmp 8) .skip (.exit 0)) (.seq (.block 1 (.seq (.ops false r_k53_4) (.seq (.ops true r_k53_5) (.cond (.tmp 30) (.seq (.ops false r_k53_6) .ret) .skip)))) (.ops false r_k53_7))))
def t_k53 : SC :=
  (.seq (.ops false r_k53_1) (.seq (.seq (.ops false r_k53_2) (.block 0 (.loop t_k53_l1))) (.seq (.ops false r_k53_8) .ret)))
theorem it_k53 : FnIs Tryz.prog 53 32 [.tmp 2] t_k53 := ⟨Tryz.f53, _, Tryz.func53, rfl, rfl, rfl, rfl, by kernel_rfl⟩

def r_k111_1 : List SOp := [⟨some 1,.box 41 (.tmp 0),none⟩,⟨some 2,.assign (.const (.bool false)),none⟩]
instance : Live r_k111_1 := ⟨[0]⟩
def r_k111_2 : List SOp := [⟨some 3,.fieldAddr 41 (.tmp 1) 0,none⟩,⟨some 4,.load 3 (.tmp 3),none⟩,⟨some 5,.binOp .geq 3 (.tmp 4) (.const (.int .i64 0)) 3,none⟩,⟨some 6,.move (.tmp 5),none⟩,⟨some 7,.fieldAddr 41 (.tmp 1) 0,some ((some 6),true)⟩,⟨some 8,.load 3 (.tmp 7),some ((some 6),true)⟩,⟨some 9,.binOp .lss 3 (.tmp 8) (.const (.int .i64 16)) 3,some ((some 6),true)⟩,⟨some 10,.pick (.tmp 6) (.tmp 9) (.const (.bool false)),none⟩,⟨some 11,.move (.tmp 10),none⟩,⟨some 12,.fieldAddr 41 (.tmp 1) 1,some ((some 11),true)⟩,⟨some 13,.load 3 (.tmp 12),some ((some 11),true)⟩,⟨some 14,.binOp .geq 3 (.tmp 13) (.const (.int .i64 1)) 3,some ((some 11),true)⟩,⟨some 15,.pick (.tmp 11) (.tmp 14) (.const (.bool false)),none⟩,⟨some 16,.move (.tmp 15),none⟩,⟨some 17,.fieldAddr 41 (.tmp 1) 1,some ((some 16),true)⟩,⟨some 18,.load 3 (.tmp 17),some ((some 16),true)⟩,⟨some 19,.binOp .leq 3 (.tmp 18) (.const (.int .i64 1000000000)) 3,some ((some 16),true)⟩,⟨some 20,.pick (.tmp 16) (.tmp 19) (.const (.bool false)),none⟩,⟨some 2,.assign (.tmp 20),none⟩]
instance : Live r_k111_2 := ⟨[1]⟩
def t_k111 : SC :=
  (.seq (.ops false r_k111_1) (.seq (.ops false r_k111_2) .ret))
theorem it_k111 : FnIs Tryz.prog 111 21 [.tmp 2] t_k111 := ⟨Tryz.f111, _, Tryz.func111, rfl, rfl, rfl, rfl, by kernel_rfl⟩

def r_k68_1 : List SOp := [⟨some 1,.box 26 (.tmp 0),none⟩,⟨some 2,.assign (.const (.bool false)),none⟩]
instance : Live r_k68_1 := ⟨[0]⟩
def r_k68_2 : List SOp := [⟨some 3,.load 26 (.tmp 1),none⟩,⟨some 4,.load 26 (.tmp 1),none⟩,⟨some 5,.call ⟨.value (.func 117),#[.tmp 4],#[26]⟩,none⟩,⟨some 6,.call ⟨.value (.func 50),#[.tmp 3,.tmp 5],#[26,26]⟩,none⟩,⟨some 2,.assign (.tmp 6),none⟩]
instance : Live r_k68_2 := ⟨[1]⟩
def t_k68 : SC :=
  (.seq (.ops false r_k68_1) (.seq (.ops true r_k68_2) .ret))
theorem it_k68 : FnIs Tryz.prog 68 7 [.tmp 2] t_k68 := ⟨Tryz.f68, _, Tryz.func68, rfl, rfl, rfl, rfl, by kernel_rfl⟩

theorem hook_cmp {P : Program} {f : FuncId} {fn : Func} (hf : P.funcs[f]? = some fn) (h1 : (fn.name = "runtime.NumGoroutine") = False) (h2 : (fn.body = none) = True) (h3 : Extern.findNext fn = none) (h4 : Extern.find fn = some Extern.BytealgCompare.compare) {s : AS} {x y : Operand} {ts : Array TypeId} {a b : ByteArray} (hx : ev s.T x = .str a) (hy : ev s.T y = .str b) :
    Hook P s (.call ⟨.value (.func f), #[x, y], ts⟩) (fun v M' => M' = s.M ∧ v = .int .i64 (cmpB a b)) := by
  intro n B G act w hR o ho K Q hK
  have q1 := hR.ev x
  have q2 := hR.ev y
  rw [hx] at q1
  rw [hy] at q2
  generalize hxv : act.eval x = xv at q1
  generalize hyv : act.eval y = yv at q2
  cases q1
  cases q2
  have hrun : (execOp act.eval o).run P w = .ok (.value (.int .i64 (cmpB a b))) w := by
    unfold execOp
    rw [ho]
    have hc := Go.Lib.run_compareString (P := P) a b w
    rw [cmpBytes_lex] at hc
    have hf0 : act.eval (.func f) = .func (.func f) #[] #[] := rfl
    simp [resolve, Deferred.ofValue, invoke, callFunc, hf, hf0, h1, h2, h3, h4, hxv, hyv, hc, Result.andThen, cmpB, bs]
  unfold Oper.wp
  rw [hrun]
  exact hK (.int .i64 (cmpB a b)) _ s.M w G ⟨rfl, rfl⟩ (.refl G w) hR (.int _ _)
theorem ev_k159 (a b : ByteArray) : Ev (En Tryz.prog rfl).P 159 [.str a, .str b] (.ret (.int .i64 (cmpB a b))) := by
  refine Ev.of_body it_k159 (by simp) (Run.start ?_)
  unfold t_k159
  (focus (have hF := True.intro; (repeat' (first | refine go1 (k:=?_) | with_reducible refine Ny.of ?_ ?_ | (refine Hyp.of ?_; intro hc; (try simp only [hc]); (try simp only [Bh] at hc)))); all_goals clear hF))
  refine awp_hook (hook_cmp (f := 173) (fn := Tryz.f173) Tryz.func173 (eq_false (by decide)) (eq_true rfl) rfl rfl rfl rfl) ?_
  rintro v M' ⟨rfl, rfl⟩
  dsimp only [AS.put]
  (focus (have hF := True.intro; (repeat' (first | refine go1 (k:=?_) | with_reducible refine Ny.of ?_ ?_ | (refine Hyp.of ?_; intro hc; (try simp only [hc]); (try simp only [Bh] at hc)))); all_goals clear hF))
  exact Fin.tmp' rfl rfl
theorem ev_k138 (a b : ByteArray) : Ev (En Tryz.prog rfl).P 138 [.str a, .str b] (.ret (.int .i64 (cmpB a b))) := by
  refine Ev.of_body it_k138 (by simp) (Run.start ?_)
  unfold t_k138
  (focus (have hF := True.intro; (repeat' (first | refine go1 (k:=?_) | with_reducible refine Ny.of ?_ ?_ | (refine Hyp.of ?_; intro hc; (try simp only [hc]); (try simp only [Bh] at hc)))); all_goals clear hF))
  refine stCall [.str a, .str b] (he := ev_k159 a b) (k:=?_)
  (focus (have hF := True.intro; (repeat' (first | refine go1 (k:=?_) | with_reducible refine Ny.of ?_ ?_ | (refine Hyp.of ?_; intro hc; (try simp only [hc]); (try simp only [Bh] at hc)))); all_goals clear hF))
  exact Fin.tmp' rfl rfl
theorem ev_k106 (a b : Rec) (ha : wt a.past ≤ 50000000) (hb : wt b.past ≤ 50000000) : Ev (En Tryz.prog rfl).P 106 [encK a, encK b] (.ret (.int .i64 (cmpR a b))) := by
  refine Ev.of_body it_k106 (by simp) (Run.start ?_)
  unfold t_k106 encK cmpR
  have c1 := ev_k138 a.sku b.sku
  have c2 := ev_k123 a.past b.past ha hb
  generalize cmpB a.sku b.sku = v at c1 ⊢
  (focus (have hF := True.intro; (repeat' (first | refine go1 (k:=?_) | with_reducible refine Ny.of ?_ ?_ | (refine Hyp.of ?_; intro hc; (try simp only [hc]); (try simp only [Bh] at hc)))); all_goals clear hF))
  refine stCall [.str a.sku, .str b.sku] (he := c1) (k:=?_)
  by_cases h : v = 0
  · rw [if_pos h]
    (focus (have hF := @h; (repeat' (first | refine go1 (k:=?_) | with_reducible refine Ny.of ?_ ?_ | (refine Hyp.of ?_; intro hc; (try simp only [hc]); (try simp only [Bh] at hc)))); all_goals clear hF))
    refine stCall [encP a.past, encP b.past] (he := c2) (k:=?_)
    (focus (have hF := True.intro; (repeat' (first | refine go1 (k:=?_) | with_reducible refine Ny.of ?_ ?_ | (refine Hyp.of ?_; intro hc; (try simp only [hc]); (try simp only [Bh] at hc)))); all_goals clear hF))
    exact Fin.tmp' rfl rfl
  · rw [if_neg h]
    (focus (have hF := True.intro; (repeat' (first | refine go1 (k:=?_) | with_reducible refine Ny.of ?_ ?_ | (refine Hyp.of ?_; intro hc; (try simp only [hc]); (try simp only [Bh] at hc)))); all_goals clear hF))
    exact Fin.tmp' rfl rfl
theorem isNormP_same (p : Pst) : sameP p (normP p) = isNormP p := by
  refine bool_eq ?_
  rw [isNormP_iff]
  constructor
  · intro h
    have : ∀ a b : Pst, a.vec = b.vec → a.cloud = b.cloud → a = b := fun a b u v => by cases a; cases b; simp at u v; rw [u, v]
    have h' := of_decide_eq_true h
    exact (this _ _ h'.1 h'.2).symm
  · intro h
    have h' : normP p = p := h
    rw [h']
    exact sameP_true ⟨rfl, rfl⟩
theorem ev_k68 (p : Pst) (hw : wt p ≤ 30000000) : Ev (En Tryz.prog rfl).P 68 [encP p] (.ret (.bool (isNormP p))) := by
  have c1 := ev_k117 p (by omega)
  have w := normP_wt p
  have c2 := ev_k50 p (normP p) (by unfold wt at *; omega) (by unfold wt at *; omega)
  rw [isNormP_same] at c2
  refine Ev.of_body it_k68 (by simp) (Run.start ?_)
  unfold t_k68 encP
  (focus (have hF := True.intro; (repeat' (first | refine go1 (k:=?_) | with_reducible refine Ny.of ?_ ?_ | (refine Hyp.of ?_; intro hc; (try simp only [hc]); (try simp only [Bh] at hc)))); all_goals clear hF))
  refine stCall [encP p] (he := c1) (k:=?_)
  (focus (have hF := True.intro; (repeat' (first | refine go1 (k:=?_) | with_reducible refine Ny.of ?_ ?_ | (refine Hyp.of ?_; intro hc; (try simp only [hc]); (try simp only [Bh] at hc)))); all_goals clear hF))
  refine stCall [encP p, encP (normP p)] (he := c2) (k:=?_)
  (focus (have hF := True.intro; (repeat' (first | refine go1 (k:=?_) | with_reducible refine Ny.of ?_ ?_ | (refine Hyp.of ?_; intro hc; (try simp only [hc]); (try simp only [Bh] at hc)))); all_goals clear hF))
  exact Fin.tmp' rfl rfl
theorem str_nil (s : ByteArray) : (s = (⟨#[]⟩ : ByteArray)) = (s.size = 0) := propext size_zero
theorem ev_k105 (r : Rec) (hw : wt r.past ≤ 40000000) : Ev (En Tryz.prog rfl).P 105 [encK r] (.ret (.int .i64 (recErr r))) := by
  refine Ev.of_body it_k105 (by simp) (Run.start ?_)
  unfold t_k105 encK recErr
  have c1 := ev_k137 r.sku
  have c2 := ev_k54 r.past hw
  have c3 := ev_k92 r.past (by omega)
  have e := str_nil r.sku
  generalize goodS r.sku = v1 at c1 ⊢
  generalize isNormP r.past = v2 at c2 ⊢
  generalize sizeP r.past = v3 at c3 ⊢
  have tail : ∀ (X : Prop), X → X := fun _ x => x
  by_cases h0 : r.sku.size = 0
  · have h0' : (r.sku.size = 0) = True := eq_true h0
    simp only [h0', not_true_eq_false, false_and, if_false]
    rw [h0'] at e
    (focus (have hF := (And.intro @e (And.intro @decide_true @Bool.not_true)); (repeat' (first | refine go1 (k:=?_) | with_reducible refine Ny.of ?_ ?_ | (refine Hyp.of ?_; intro hc; (try simp only [hc]); (try simp only [Bh] at hc)))); all_goals clear hF))
    refine stCall [encP r.past] (he := c2) (k:=?_)
    cases v2
    · (focus (have hF := True.intro; (repeat' (first | refine go1 (k:=?_) | with_reducible refine Ny.of ?_ ?_ | (refine Hyp.of ?_; intro hc; (try simp only [hc]); (try simp only [Bh] at hc)))); all_goals clear hF))
      exact Fin.tmp' rfl rfl
    · (focus (have hF := True.intro; (repeat' (first | refine go1 (k:=?_) | with_reducible refine Ny.of ?_ ?_ | (refine Hyp.of ?_; intro hc; (try simp only [hc]); (try simp only [Bh] at hc)))); all_goals clear hF))
      refine stCall [encP r.past] (he := c3) (k:=?_)
      by_cases h3 : v3 = 0
      · (focus (have hF := @h3; (repeat' (first | refine go1 (k:=?_) | with_reducible refine Ny.of ?_ ?_ | (refine Hyp.of ?_; intro hc; (try simp only [hc]); (try simp only [Bh] at hc)))); all_goals clear hF))
        simp only [h3, or_true, if_true]
        exact Fin.tmp' rfl rfl
      · (focus (have hF := @h3; (repeat' (first | refine go1 (k:=?_) | with_reducible refine Ny.of ?_ ?_ | (refine Hyp.of ?_; intro hc; (try simp only [hc]); (try simp only [Bh] at hc)))); all_goals clear hF))
        simp only [h3, reduceCtorEq, or_false, if_false]
        exact Fin.tmp' rfl rfl
  · have h0' : (r.sku.size = 0) = False := eq_false h0
    rw [h0'] at e
    simp only [h0', not_false_eq_true, true_and]
    (focus (have hF := (And.intro @e (And.intro @decide_false @Bool.not_false)); (repeat' (first | refine go1 (k:=?_) | with_reducible refine Ny.of ?_ ?_ | (refine Hyp.of ?_; intro hc; (try simp only [hc]); (try simp only [Bh] at hc)))); all_goals clear hF))
    refine stCall [.str r.sku] (he := c1) (k:=?_)
    cases v1
    · (focus (have hF := True.intro; (repeat' (first | refine go1 (k:=?_) | with_reducible refine Ny.of ?_ ?_ | (refine Hyp.of ?_; intro hc; (try simp only [hc]); (try simp only [Bh] at hc)))); all_goals clear hF))
      exact Fin.tmp' rfl rfl
    · (focus (have hF := True.intro; (repeat' (first | refine go1 (k:=?_) | with_reducible refine Ny.of ?_ ?_ | (refine Hyp.of ?_; intro hc; (try simp only [hc]); (try simp only [Bh] at hc)))); all_goals clear hF))
      refine stCall [encP r.past] (he := c2) (k:=?_)
      cases v2
      · (focus (have hF := True.intro; (repeat' (first | refine go1 (k:=?_) | with_reducible refine Ny.of ?_ ?_ | (refine Hyp.of ?_; intro hc; (try simp only [hc]); (try simp only [Bh] at hc)))); all_goals clear hF))
        exact Fin.tmp' rfl rfl
      · (focus (have hF := True.intro; (repeat' (first | refine go1 (k:=?_) | with_reducible refine Ny.of ?_ ?_ | (refine Hyp.of ?_; intro hc; (try simp only [hc]); (try simp only [Bh] at hc)))); all_goals clear hF))
        refine stCall [encP r.past] (he := c3) (k:=?_)
        by_cases h3 : v3 = 0
        · (focus (have hF := @h3; (repeat' (first | refine go1 (k:=?_) | with_reducible refine Ny.of ?_ ?_ | (refine Hyp.of ?_; intro hc; (try simp only [hc]); (try simp only [Bh] at hc)))); all_goals clear hF))
          simp only [h3, or_true, if_true, reduceCtorEq, if_false]
          exact Fin.tmp' rfl rfl
        · (focus (have hF := @h3; (repeat' (first | refine go1 (k:=?_) | with_reducible refine Ny.of ?_ ?_ | (refine Hyp.of ?_; intro hc; (try simp only [hc]); (try simp only [Bh] at hc)))); all_goals clear hF))
          simp only [h3, reduceCtorEq, or_false, if_false]
          exact Fin.tmp' rfl rfl
theorem formK_step {l : List Rec} {i : Nat} {r : Rec} (hr : l[i]? = some r) (hI : (∀ (j : Nat) q, j < i → l[j]? = some q → recErr q = 0) ∧ ∀ (j : Nat) a b, j + 1 < i → l[j]? = some a → l[j + 1]? = some b → cmpR a b < 0) (h0 : recErr r = 0)
    (h1 : ∀ q, 0 < i → l[i - 1]? = some q → cmpR q r < 0) : (∀ (j : Nat) q, j < i + 1 → l[j]? = some q → recErr q = 0) ∧ ∀ (j : Nat) a b, j + 1 < i + 1 → l[j]? = some a → l[j + 1]? = some b → cmpR a b < 0 := by
  refine ⟨fun j q hj hq => ?_, fun j a b hj ha hb => ?_⟩
  · by_cases e : j = i
    · subst e; rw [hr] at hq; cases hq; exact h0
    · exact hI.1 j q (by omega) hq
  · by_cases e : j + 1 = i
    · subst e
      rw [hr] at hb
      cases hb
      exact h1 a (by omega) (by simpa using ha)
    · exact hI.2 j a b (by omega) ha hb
theorem ev_keepCheckW (l : List Rec) (hl : l.length ≤ 1000000000) (hw : ∀ r ∈ l, wt r.past ≤ 40000000) : Ev (En Tryz.prog rfl).P 55 [.sl 3 (encKs l)] (.ret (.int .i64 (if formK l = true then 0 else 1))) := by
  refine Ev.of_body it_k55 (by simp) (Run.start ?_)
  unfold t_k55
  have e1 := encKs_len l
  have hS := stbK
  (focus (have hF := @e1; (repeat' (first | refine go1 (k:=?_) | with_reducible refine Ny.of ?_ ?_ | (refine Hyp.of ?_; intro hc; (try simp only [hc]); (try simp only [Bh] at hc)))); all_goals clear hF))
  refine Run.while (σ := Nat) (fun i => ⟨tms [(0, .sl 3 (encKs l)), (5, .sl 3 (encKs l)), (6, .int .i64 (l.length : Int)), (7, .int .i64 (i : Int))], mms []⟩)
    (fun i => i ≤ l.length ∧ (∀ (j : Nat) q, j < i → l[j]? = some q → recErr q = 0) ∧ ∀ (j : Nat) a b, j + 1 < i → l[j]? = some a → l[j + 1]? = some b → cmpR a b < 0) (fun i => l.length - i) 0 (have hW := @encKs_stb; stWk) ⟨Nat.zero_le _, fun j q hj => absurd hj (Nat.not_lt_zero _), fun j a b hj => by omega⟩ ?_
  rintro i ⟨hi, hI⟩
  unfold t_k55_l1
  by_cases hlt : i < l.length
  · obtain ⟨r, hr⟩ : ∃ r, l[i]? = some r := ⟨l[i], by simp [hlt]⟩
    have g1 := encKs_get hr
    have hwr := hw r (List.mem_of_getElem? hr)
    have c1 := ev_k105 r (by omega)
    have hst := fun h0 h1 => formK_step hr hI h0 h1
    have hbad : recErr r ≠ 0 → ¬ FormK l := fun h hf => h (hf.1 i r hr)
    generalize recErr r = v at c1 hst hbad
    (focus (have hF := (And.intro @e1 @g1); (repeat' (first | refine go1 (k:=?_) | with_reducible refine Ny.of ?_ ?_ | (refine Hyp.of ?_; intro hc; (try simp only [hc]); (try simp only [Bh] at hc)))); all_goals clear hF))
    refine stCall [encK r] (he := c1) (k:=?_)
    by_cases hv : v = 0
    · by_cases h0 : i = 0
      · have hst := hst hv (fun q hq => by omega)
        have h0' : (i : Int) = 0 := by omega
        (focus (have hF := (And.intro (And.intro @e1 @g1) (And.intro @hv @h0')); (repeat' (first | refine go1 (k:=?_) | with_reducible refine Ny.of ?_ ?_ | (refine Hyp.of ?_; intro hc; (try simp only [hc]); (try simp only [Bh] at hc)))); all_goals clear hF))
        have hi1 : ((0 : Int) + 1) = ((i + 1 : Nat) : Int) := by omega
        (refine Fin.nextW (i + 1) ?_ (have hW := (And.intro @encKs_stb @hi1); stWk); (try dsimp only))
        exact ⟨⟨hlt, hst⟩, by omega⟩
      · obtain ⟨q, hq⟩ : ∃ q, l[i - 1]? = some q := ⟨l[i - 1]'(by omega), by simp [show i - 1 < l.length by omega]⟩
        have g2 := encKs_get hq
        have hpw : IntKind.i64.wrap ((i : Int) - 1) = ((i - 1 : Nat) : Int) := by rw [wrap_ok (by omega)]; omega
        have hwq := hw q (List.mem_of_getElem? hq)
        have c2 := ev_k106 q r (by omega) (by omega)
        have hst := hst hv
        have hbad2 : ¬ cmpR q r < 0 → ¬ FormK l := fun h hf => h (hf.2 (i - 1) q r hq (by rw [show i - 1 + 1 = i by omega]; exact hr))
        have hst : cmpR q r < 0 → _ := fun h => hst (fun q' _ hq' => by rw [hq] at hq'; cases hq'; exact h)
        generalize cmpR q r = u at c2 hst hbad2
        (focus (have hF := (And.intro (And.intro @e1 @g1) (And.intro @g2 (And.intro @hv @hpw))); (repeat' (first | refine go1 (k:=?_) | with_reducible refine Ny.of ?_ ?_ | (refine Hyp.of ?_; intro hc; (try simp only [hc]); (try simp only [Bh] at hc)))); all_goals clear hF))
        refine stCall [encK q, encK r] (he := c2) (k:=?_)
        by_cases hu : u < 0
        · have hst := hst hu
          (focus (have hF := (And.intro @e1 @g1); (repeat' (first | refine go1 (k:=?_) | with_reducible refine Ny.of ?_ ?_ | (refine Hyp.of ?_; intro hc; (try simp only [hc]); (try simp only [Bh] at hc)))); all_goals clear hF))
          (refine Fin.nextW (i + 1) ?_ (have hW := @encKs_stb; stWk); (try dsimp only))
          exact ⟨⟨hlt, hst⟩, by omega⟩
        · rw [formK_false (hbad2 hu)]
          (focus (have hF := (And.intro @e1 @g1); (repeat' (first | refine go1 (k:=?_) | with_reducible refine Ny.of ?_ ?_ | (refine Hyp.of ?_; intro hc; (try simp only [hc]); (try simp only [Bh] at hc)))); all_goals clear hF))
          exact Fin.tmp' rfl rfl
    · rw [formK_false (hbad hv)]
      (focus (have hF := (And.intro @e1 (And.intro @g1 @hv)); (repeat' (first | refine go1 (k:=?_) | with_reducible refine Ny.of ?_ ?_ | (refine Hyp.of ?_; intro hc; (try simp only [hc]); (try simp only [Bh] at hc)))); all_goals clear hF))
      exact Fin.tmp' rfl rfl
  · rw [formK_true ⟨fun j q hq => hI.1 j q (by
      rcases Nat.lt_or_ge j l.length with h | h
      · omega
      · rw [List.getElem?_eq_none h] at hq; cases hq) hq, fun j a b ha hb => hI.2 j a b (by
      rcases Nat.lt_or_ge (j + 1) l.length with h | h
      · omega
      · rw [List.getElem?_eq_none h] at hb; cases hb) ha hb⟩]
    (focus (have hF := @e1; (repeat' (first | refine go1 (k:=?_) | with_reducible refine Ny.of ?_ ?_ | (refine Hyp.of ?_; intro hc; (try simp only [hc]); (try simp only [Bh] at hc)))); all_goals clear hF))
    exact Fin.tmp' rfl rfl

end Go.Proofs.YthejoeiecenjkaaGreat.Avm
