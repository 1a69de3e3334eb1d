/- Part 4 of the proof: lemmas. -/
import Derived.Test.YtpomanleabaafaaGreatN3
import Derived.Test.YtpomanleabaafaaGreatProg
import Derived.KernelRfl
import Derived.Lib.Bytealg
import Derived.Sort.Walk0
set_option maxRecDepth 100000
set_option maxHeartbeats 4000000
set_option linter.unusedVariables false
set_option linter.unusedSimpArgs false
set_option linter.unusedSectionVars false
set_option linter.defProp false
namespace Go.Proofs.YtpomanleabaafaaGreat.Avm
open Go.Proofs
def r_k115_1 : List SOp := [⟨some 6,.assign (.const (.int .i64 0)),none⟩]
instance : Live r_k115_1 := ⟨[0,1,2]⟩
def r_k115_2 : List SOp := [⟨some 11,.move (.tmp 0),none⟩,⟨some 12,.call ⟨.builtin .len,#[.tmp 11],#[25]⟩,none⟩,⟨some 13,.move (.const (.int .i64 0)),none⟩]
instance : Live r_k115_2 := ⟨[0,1,2]⟩
def r_k115_3 : List SOp := [⟨some 14,.binOp .lss 3 (.tmp 13) (.tmp 12) 3,none⟩]
instance : Live r_k115_3 := ⟨[0,1,2,11,12,13]⟩
def r_k115_4 : List SOp := [⟨some 15,.move (.tmp 13),none⟩,⟨some 16,.indexAddr 25 (.tmp 11) (.tmp 13),none⟩,⟨some 17,.load 89 (.tmp 16),none⟩,⟨some 8,.alloc 89,none⟩,⟨some 7,.assign (.tmp 15),none⟩,⟨none,.store 89 (.tmp 8) (.tmp 17),none⟩]
instance : Live r_k115_4 := ⟨[0,1,2,11,12,13]⟩
def r_k115_5 : List SOp := [⟨some 18,.move (.tmp 7),none⟩,⟨some 19,.move (.tmp 1),none⟩,⟨some 20,.call ⟨.builtin .len,#[.tmp 19],#[25]⟩,none⟩,⟨some 21,.binOp .geq 3 (.tmp 18) (.tmp 20) 3,none⟩]
instance : Live r_k115_5 := ⟨[0,1,2,7,8,11,12,13]⟩
def r_k115_6 : List SOp := [⟨some 6,.assign (.const (.int .i64 1)),none⟩]
instance : Live r_k115_6 := ⟨[]⟩
def r_k115_7 : List SOp := [⟨some 22,.move (.tmp 1),none⟩,⟨some 23,.move (.tmp 7),none⟩,⟨some 24,.indexAddr 25 (.tmp 22) (.tmp 23),none⟩,⟨some 25,.load 89 (.tmp 24),none⟩,⟨some 9,.alloc 89,none⟩,⟨none,.store 89 (.tmp 9) (.tmp 25),none⟩]
instance : Live r_k115_7 := ⟨[0,1,2,7,8,11,12,13]⟩
def r_k115_8 : List SOp := [⟨some 26,.move (.tmp 2),none⟩,⟨some 27,.load 89 (.tmp 8),none⟩,⟨some 28,.load 89 (.tmp 9),none⟩,⟨some 29,.call ⟨.value (.tmp 26),#[.tmp 27,.tmp 28],#[89,89]⟩,none⟩,⟨some 10,.assign (.tmp 29),none⟩]
instance : Live r_k115_8 := ⟨[0,1,2,8,9,11,12,13]⟩
def r_k115_9 : List SOp := [⟨some 30,.move (.tmp 10),none⟩,⟨some 31,.binOp .neq 3 (.tmp 30) (.const (.int .i64 0)) 3,none⟩]
instance : Live r_k115_9 := ⟨[0,1,2,10,11,12,13]⟩
def r_k115_10 : List SOp := [⟨some 32,.move (.tmp 10),none⟩,⟨some 6,.assign (.tmp 32),none⟩]
instance : Live r_k115_10 := ⟨[10]⟩
def r_k115_11 : List SOp := [⟨some 33,.binOp .add 3 (.tmp 13) (.const (.int .i64 1)) 3,none⟩,⟨some 13,.move (.tmp 33),none⟩]
instance : Live r_k115_11 := ⟨[0,1,2,11,12,13]⟩
def r_k115_12 : List SOp := [⟨some 34,.move (.tmp 0),none⟩,⟨some 35,.call ⟨.builtin .len,#[.tmp 34],#[25]⟩,none⟩,⟨some 36,.move (.tmp 1),none⟩,⟨some 37,.call ⟨.builtin .len,#[.tmp 36],#[25]⟩,none⟩,⟨some 38,.binOp .lss 3 (.tmp 35) (.tmp 37) 3,none⟩]
instance : Live r_k115_12 := ⟨[0,1]⟩
def r_k115_13 : List SOp := [⟨some 6,.assign (.const (.int .i64 (-1))),none⟩]
instance : Live r_k115_13 := ⟨[]⟩
def r_k115_14 : List SOp := [⟨some 6,.assign (.const (.int .i64 0)),none⟩]
instance : Live r_k115_14 := ⟨[]⟩
def t_k115_l1 : SC :=
  (.seq (.ops false r_k115_3) (.seq (.cond (.tmp 14) .skip (.exit 0)) (.seq (.block 1 (.seq (.ops false r_k115_4) (.seq (.seq (.ops false r_k115_5) (.cond (.tmp 21) (.seq (.ops false r_k115_6) .ret) .skip)) (.seq (.ops false r_k115_7) (.seq (.ops false r_k115_8) (.seq (.ops false r_k115_9) (.cond (.tmp 31) (.seq (.ops false r_k115_10) .ret) .skip))))))) (.ops false r_k115_11))))
def t_k115 : SC :=
  (.seq (.ops false r_k115_1) (.seq (.seq (.ops false r_k115_2) (.block 0 (.loop t_k115_l1))) (.seq (.seq (.ops false r_k115_12) (.cond (.tmp 38) (.seq (.ops false r_k115_13) .ret) .skip)) (.seq (.ops false r_k115_14) .ret))))
theorem it_k115 : FnIs Tryz.prog 115 39 [.tmp 6] t_k115 := ⟨Tryz.f115, _, Tryz.func115, rfl, rfl, rfl, rfl, by kernel_rfl⟩

def cmpI (a b : Int) : Int := if a < b then -1 else if b < a then 1 else 0
theorem ev_k156 (a : Int) : Ev (En Tryz.prog rfl).P 156 [.int .i64 a] (.ret (.bool false)) := by
  refine Ev.of_body it_k156 (by simp) (Run.start ?_)
  unfold t_k156
  (focus (have hF := True.intro; (repeat' (first | refine go1 (k:=?_) | with_reducible refine Ny.of ?_ ?_ | (refine Hyp.of ?_; intro hc; (try simp only [hc]); (try simp only [Bh] at hc)))); all_goals clear hF))
  all_goals first | exact Fin.tmp' rfl rfl | trace_state
theorem ev_k114 (a b : Int) : Ev (En Tryz.prog rfl).P 114 [.int .i64 a, .int .i64 b] (.ret (.int .i64 (cmpI a b))) := by
  refine Ev.of_body it_k114 (by simp) (Run.start ?_)
  unfold t_k114
  (focus (have hF := True.intro; (repeat' (first | refine go1 (k:=?_) | with_reducible refine Ny.of ?_ ?_ | (refine Hyp.of ?_; intro hc; (try simp only [hc]); (try simp only [Bh] at hc)))); all_goals clear hF))
  refine stCall [.int .i64 a] (he := ev_k156 a) (k:=?_)
  (focus (have hF := True.intro; (repeat' (first | refine go1 (k:=?_) | with_reducible refine Ny.of ?_ ?_ | (refine Hyp.of ?_; intro hc; (try simp only [hc]); (try simp only [Bh] at hc)))); all_goals clear hF))
  refine stCall [.int .i64 b] (he := ev_k156 b) (k:=?_)
  (focus (have hF := True.intro; (repeat' (first | refine go1 (k:=?_) | with_reducible refine Ny.of ?_ ?_ | (refine Hyp.of ?_; intro hc; (try simp only [hc]); (try simp only [Bh] at hc)))); all_goals clear hF))
  · rw [show cmpI a b = -1 from if_pos hc]
    exact Fin.tmp' rfl rfl
  · rename_i hc1
    rw [show cmpI a b = 1 by unfold cmpI; rw [if_neg hc1, if_pos hc]]
    exact Fin.tmp' rfl rfl
  · rename_i hc1
    rw [show cmpI a b = 0 by unfold cmpI; rw [if_neg hc1, if_neg hc]]
    exact Fin.tmp' rfl rfl
def orI : List Int → Int
  | [] => 0
  | x :: l => if x = 0 then orI l else x
theorem orI_drop {l : List Int} {i : Nat} {x : Int} (h : l[i]? = some x) : orI (l.drop i) = if x = 0 then orI (l.drop (i + 1)) else x := by
  obtain ⟨hi, hx⟩ := List.getElem?_eq_some_iff.1 h
  rw [List.drop_eq_getElem_cons hi, hx]
  rfl
theorem ev_k117 (l : List Int) (hl : l.length ≤ 1000000000) : Ev (En Tryz.prog rfl).P 117 [.sl 1 (encIs l)] (.ret (.int .i64 (orI l))) := by
  refine Ev.of_body it_k117 (by simp) (Run.start ?_)
  unfold t_k117
  have e1 := encIs_len l
  (focus (have hF := @e1; (repeat' (first | refine go1 (k:=?_) | with_reducible refine Ny.of ?_ ?_ | (refine Hyp.of ?_; intro hc; (try simp only [hc]); (try simp only [Bh] at hc)))); all_goals clear hF))
  refine Run.while (σ := Nat) (fun i => ⟨tms [(3, .int .i64 0), (6, .sl 1 (encIs l)), (7, .int .i64 (l.length : Int)), (8, .int .i64 (i : Int))], mms []⟩) (fun i => i ≤ l.length ∧ orI (l.drop i) = orI l) (fun i => l.length - i) 0 (have hW := @encIs_stb; stWk) ⟨Nat.zero_le _, by rw [List.drop_zero]⟩ ?_
  rintro i ⟨hi, hp⟩
  unfold t_k117_l1
  by_cases hlt : i < l.length
  · obtain ⟨x, hx⟩ : ∃ x, l[i]? = some x := ⟨l[i], by simp [hlt]⟩
    have g1 := encIs_get hx
    have hd := orI_drop hx
    (focus (have hF := (And.intro @e1 @g1); (repeat' (first | refine go1 (k:=?_) | with_reducible refine Ny.of ?_ ?_ | (refine Hyp.of ?_; intro hc; (try simp only [hc]); (try simp only [Bh] at hc)))); all_goals clear hF))
    · rw [if_neg hc] at hd
      rw [← hp, hd]
      exact Fin.tmp' rfl rfl
    · rw [if_pos hc] at hd
      (refine Fin.nextW (i + 1) ?_ (have hW := @encIs_stb; stWk); (try dsimp only))
      exact ⟨⟨hlt, hd.symm.trans hp⟩, by omega⟩
  · rw [← hp, List.drop_eq_nil_of_le (by omega)]
    (focus (have hF := @e1; (repeat' (first | refine go1 (k:=?_) | with_reducible refine Ny.of ?_ ?_ | (refine Hyp.of ?_; intro hc; (try simp only [hc]); (try simp only [Bh] at hc)))); all_goals clear hF))
    exact Fin.tmp' rfl rfl
def cmpS (s t : Sn) : Int := orI [cmpI s.1 t.1, cmpI s.2.1 t.2.1, cmpI s.2.2 t.2.2]
theorem ev_k116 (s t : Sn) : Ev (En Tryz.prog rfl).P 116 [encS s, encS t] (.ret (.int .i64 (cmpS s t))) := by
  refine Ev.of_body it_k116 (by simp) (Run.start ?_)
  unfold t_k116 encS
  (focus (have hF := True.intro; (repeat' (first | refine go1 (k:=?_) | with_reducible refine Ny.of ?_ ?_ | (refine Hyp.of ?_; intro hc; (try simp only [hc]); (try simp only [Bh] at hc)))); all_goals clear hF))
  refine stCall [.int .i64 s.1, .int .i64 t.1] (he := ev_k114 _ _) (k:=?_)
  (focus (have hF := True.intro; (repeat' (first | refine go1 (k:=?_) | with_reducible refine Ny.of ?_ ?_ | (refine Hyp.of ?_; intro hc; (try simp only [hc]); (try simp only [Bh] at hc)))); all_goals clear hF))
  refine stCall [.int .i64 s.2.1, .int .i64 t.2.1] (he := ev_k114 _ _) (k:=?_)
  (focus (have hF := True.intro; (repeat' (first | refine go1 (k:=?_) | with_reducible refine Ny.of ?_ ?_ | (refine Hyp.of ?_; intro hc; (try simp only [hc]); (try simp only [Bh] at hc)))); all_goals clear hF))
  refine stCall [.int .i64 s.2.2, .int .i64 t.2.2] (he := ev_k114 _ _) (k:=?_)
  (focus (have hF := True.intro; (repeat' (first | refine go1 (k:=?_) | with_reducible refine Ny.of ?_ ?_ | (refine Hyp.of ?_; intro hc; (try simp only [hc]); (try simp only [Bh] at hc)))); all_goals clear hF))
  refine stCall [.sl 1 (encIs [cmpI s.1 t.1, cmpI s.2.1 t.2.1, cmpI s.2.2 t.2.2])] (he := ev_k117 _ (by simp)) (k:=?_)
  (focus (have hF := True.intro; (repeat' (first | refine go1 (k:=?_) | with_reducible refine Ny.of ?_ ?_ | (refine Hyp.of ?_; intro hc; (try simp only [hc]); (try simp only [Bh] at hc)))); all_goals clear hF))
  exact Fin.tmp' rfl rfl
def cmpL : List Sn → List Sn → Int
  | [], [] => 0
  | [], _ :: _ => -1
  | _ :: _, [] => 1
  | x :: l, y :: m => if cmpS x y = 0 then cmpL l m else cmpS x y
theorem ev_slicesCompareFunc (a b : List Sn) (ha : a.length ≤ 1000000000) (hb : b.length ≤ 1000000000) : Ev (En Tryz.prog rfl).P 115 [.sl 3 (encSs a), .sl 3 (encSs b), .fn 116 []] (.ret (.int .i64 (cmpL a b))) := by
  refine Ev.of_body it_k115 (by simp) (Run.start ?_)
  unfold t_k115
  have e1 := encSs_len a
  have e2 := encSs_len b
  (focus (have hF := (And.intro @e1 @e2); (repeat' (first | refine go1 (k:=?_) | with_reducible refine Ny.of ?_ ?_ | (refine Hyp.of ?_; intro hc; (try simp only [hc]); (try simp only [Bh] at hc)))); all_goals clear hF))
  refine Run.while (σ := Nat) (fun i => ⟨tms [(0, .sl 3 (encSs a)), (1, .sl 3 (encSs b)), (2, .fn 116 []), (11, .sl 3 (encSs a)), (12, .int .i64 (a.length : Int)), (13, .int .i64 (i : Int))], mms []⟩) (fun i => i ≤ a.length ∧ i ≤ b.length ∧ cmpL (a.drop i) (b.drop i) = cmpL a b) (fun i => a.length - i) 0 (have hW := @encSs_stb; stWk) ⟨Nat.zero_le _, Nat.zero_le _, by rw [List.drop_zero, List.drop_zero]⟩ ?_
  rintro i ⟨hi, hi2, hp⟩
  unfold t_k115_l1
  by_cases hlt : i < a.length
  · obtain ⟨x, hx⟩ : ∃ x, a[i]? = some x := ⟨a[i], by simp [hlt]⟩
    have g1 := encSs_get hx
    obtain ⟨_, hxa⟩ := List.getElem?_eq_some_iff.1 hx
    by_cases hlb : i < b.length
    · obtain ⟨y, hy⟩ : ∃ y, b[i]? = some y := ⟨b[i], by simp [hlb]⟩
      have g2 := encSs_get hy
      obtain ⟨_, hyb⟩ := List.getElem?_eq_some_iff.1 hy
      have hd : cmpL a b = if cmpS x y = 0 then cmpL (a.drop (i + 1)) (b.drop (i + 1)) else cmpS x y := by
        rw [← hp, List.drop_eq_getElem_cons hlt, List.drop_eq_getElem_cons hlb, hxa, hyb]
        rfl
      unfold encS at g1 g2
      (focus (have hF := (And.intro (And.intro @e1 @e2) (And.intro @g1 @g2)); (repeat' (first | refine go1 (k:=?_) | with_reducible refine Ny.of ?_ ?_ | (refine Hyp.of ?_; intro hc; (try simp only [hc]); (try simp only [Bh] at hc)))); all_goals clear hF))
      refine stCall [.agg [.int .i64 x.1, .int .i64 x.2.1, .int .i64 x.2.2], .agg [.int .i64 y.1, .int .i64 y.2.1, .int .i64 y.2.2]] (he := ev_k116 x y) (k:=?_)
      (focus (have hF := (And.intro (And.intro @e1 @e2) (And.intro @g1 @g2)); (repeat' (first | refine go1 (k:=?_) | with_reducible refine Ny.of ?_ ?_ | (refine Hyp.of ?_; intro hc; (try simp only [hc]); (try simp only [Bh] at hc)))); all_goals clear hF))
      · rw [if_neg hc] at hd
        rw [hd]
        exact Fin.tmp' rfl rfl
      · rw [if_pos hc] at hd
        (refine Fin.nextW (i + 1) ?_ (have hW := @encSs_stb; stWk); (try dsimp only))
        exact ⟨⟨hlt, hlb, hd.symm⟩, by omega⟩
    · have hd : cmpL a b = 1 := by
        rw [← hp, List.drop_eq_getElem_cons hlt, List.drop_eq_nil_of_le (show b.length ≤ i by omega)]
        rfl
      rw [hd]
      (focus (have hF := (And.intro @e1 (And.intro @e2 @g1)); (repeat' (first | refine go1 (k:=?_) | with_reducible refine Ny.of ?_ ?_ | (refine Hyp.of ?_; intro hc; (try simp only [hc]); (try simp only [Bh] at hc)))); all_goals clear hF))
      exact Fin.tmp' rfl rfl
  · have hia : i = a.length := by omega
    (focus (have hF := (And.intro @e1 @e2); (repeat' (first | refine go1 (k:=?_) | with_reducible refine Ny.of ?_ ?_ | (refine Hyp.of ?_; intro hc; (try simp only [hc]); (try simp only [Bh] at hc)))); all_goals clear hF))
    · have hd : cmpL a b = -1 := by
        rw [← hp, List.drop_eq_nil_of_le (show a.length ≤ i by omega), List.drop_eq_getElem_cons (show i < b.length by omega)]
        rfl
      rw [hd]
      exact Fin.tmp' rfl rfl
    · have hd : cmpL a b = 0 := by
        rw [← hp, List.drop_eq_nil_of_le (show a.length ≤ i by omega), List.drop_eq_nil_of_le (show b.length ≤ i by omega)]
        rfl
      rw [hd]
      exact Fin.tmp' rfl rfl

def lexI : List Int → List Int → Int
  | [], [] => 0
  | [], _ :: _ => -1
  | _ :: _, [] => 1
  | x :: l, y :: m => if x < y then -1 else if y < x then 1 else lexI l m
theorem lexI_range : ∀ l m : List Int, lexI l m = -1 ∨ lexI l m = 0 ∨ lexI l m = 1
  | [], [] => .inr (.inl rfl)
  | [], _ :: _ => .inl rfl
  | _ :: _, [] => .inr (.inr rfl)
  | x :: l, y :: m => by
    unfold lexI
    split
    · exact .inl rfl
    · split
      · exact .inr (.inr rfl)
      · exact lexI_range l m
theorem lexI_neg : ∀ l m : List Int, lexI m l = - lexI l m
  | [], [] => rfl
  | [], _ :: _ => rfl
  | _ :: _, [] => rfl
  | x :: l, y :: m => by
    have ih := lexI_neg l m
    unfold lexI
    by_cases h1 : x < y
    · rw [if_neg (show ¬ y < x by omega), if_pos h1, if_pos h1]; rfl
    · by_cases h2 : y < x
      · rw [if_pos h2, if_neg h1, if_pos h2]
      · rw [if_neg h1, if_neg h2, if_neg h2, if_neg h1, ih]
theorem lexI_self : ∀ l : List Int, lexI l l = 0
  | [] => rfl
  | x :: l => by unfold lexI; rw [if_neg (by omega), if_neg (by omega), lexI_self l]
theorem lexI_eq : ∀ {l m : List Int}, lexI l m = 0 → l = m
  | [], [], _ => rfl
  | [], _ :: _, h => by simp [lexI] at h
  | _ :: _, [], h => by simp [lexI] at h
  | x :: l, y :: m, h => by
    unfold lexI at h
    by_cases h1 : x < y
    · rw [if_pos h1] at h; simp at h
    · by_cases h2 : y < x
      · rw [if_neg h1, if_pos h2] at h; simp at h
      · rw [if_neg h1, if_neg h2] at h
        rw [lexI_eq h, show x = y by omega]
theorem lexI_trans : ∀ {l m k : List Int}, lexI l m ≤ 0 → lexI m k ≤ 0 → lexI l k ≤ 0
  | [], _, [], _, _ => by simp [lexI]
  | [], _, _ :: _, _, _ => by simp [lexI]
  | _ :: _, [], _, h, _ => by simp [lexI] at h
  | _ :: _, _ :: _, [], _, h => by simp [lexI] at h
  | x :: l, y :: m, z :: k, h, h' => by
    unfold lexI at h h' ⊢
    by_cases a1 : x < y
    · by_cases b1 : y < z
      · rw [if_pos (by omega)]; omega
      · by_cases b2 : z < y
        · rw [if_neg b1, if_pos b2] at h'; omega
        · rw [if_pos (by omega)]; omega
    · by_cases a2 : y < x
      · rw [if_neg a1, if_pos a2] at h; omega
      · rw [if_neg a1, if_neg a2] at h
        by_cases b1 : y < z
        · rw [if_pos (by omega)]; omega
        · by_cases b2 : z < y
          · rw [if_neg b1, if_pos b2] at h'; omega
          · rw [if_neg b1, if_neg b2] at h'
            rw [if_neg (by omega), if_neg (by omega)]
            exact lexI_trans h h'
theorem lexI_app : ∀ (l : List Int) (c d : List Int), lexI (l ++ c) (l ++ d) = lexI c d
  | [], _, _ => rfl
  | x :: l, c, d => by
    show (if x < x then (-1 : Int) else if x < x then 1 else lexI (l ++ c) (l ++ d)) = _
    rw [if_neg (by omega), if_neg (by omega), lexI_app l]
theorem lexI_at : ∀ (l m : List Int) (i : Nat) (x y : Int) (c d : List Int), l[i]? = some x → m[i]? = some y → (∀ j, j < i → l[j]? = m[j]?) → x ≠ y → lexI (l ++ c) (m ++ d) = cmpI x y
  | [], _, _, _, _, _, _, h, _, _, _ => by simp at h
  | _ :: _, [], _, _, _, _, _, _, h, _, _ => by simp at h
  | a :: l, b :: m, 0, x, y, c, d, h1, h2, _, hn => by
    simp at h1 h2
    subst h1; subst h2
    show lexI (a :: (l ++ c)) (b :: (m ++ d)) = _
    unfold lexI cmpI
    by_cases e1 : a < b
    · rw [if_pos e1, if_pos e1]
    · rw [if_neg e1, if_neg e1, if_pos (by omega), if_pos (by omega)]
  | a :: l, b :: m, i + 1, x, y, c, d, h1, h2, hj, hn => by
    have e := hj 0 (by omega)
    simp at e
    subst e
    show lexI (a :: (l ++ c)) (a :: (m ++ d)) = _
    unfold lexI
    rw [if_neg (by omega), if_neg (by omega)]
    refine lexI_at l m i x y c d (by simpa using h1) (by simpa using h2) (fun j hjl => ?_) hn
    have := hj (j + 1) (by omega)
    simpa using this
def flatS : List Sn → List Int
  | [] => []
  | s :: l => s.1 :: s.2.1 :: s.2.2 :: flatS l
theorem flatS_inj : ∀ {l m : List Sn}, flatS l = flatS m → l = m
  | [], [], _ => rfl
  | [], _ :: _, h => by simp [flatS] at h
  | _ :: _, [], h => by simp [flatS] at h
  | x :: l, y :: m, h => by
    simp only [flatS, List.cons.injEq] at h
    rw [flatS_inj h.2.2.2, show x = y from Prod.ext h.1 (Prod.ext h.2.1 h.2.2.1)]
theorem cmpL_flat : ∀ l m : List Sn, lexI (flatS l) (flatS m) = cmpL l m
  | [], [] => rfl
  | [], _ :: _ => rfl
  | _ :: _, [] => rfl
  | x :: l, y :: m => by
    have ih := cmpL_flat l m
    simp only [flatS, lexI, cmpL, cmpS, orI, cmpI, ih]
    by_cases a1 : x.1 < y.1
    · simp [a1]
    · by_cases a2 : y.1 < x.1
      · simp [a1, a2]
      · by_cases b1 : x.2.1 < y.2.1
        · simp [a1, a2, b1]
        · by_cases b2 : y.2.1 < x.2.1
          · simp [a1, a2, b1, b2]
          · by_cases c1 : x.2.2 < y.2.2
            · simp [a1, a2, b1, b2, c1]
            · by_cases c2 : y.2.2 < x.2.2
              · simp [a1, a2, b1, b2, c1, c2]
              · simp [a1, a2, b1, b2, c1, c2]
def vv (p : Pst) (r : Nat) : Int := if r < p.vec.length then vecAt p.vec r else 0
def vecK (p : Pst) : List Int := (List.range 16).map (vv p)
def keyP (p : Pst) : List Int := vecK p ++ flatS p.cloud
def cmpP (p q : Pst) : Int := lexI (keyP (normP p)) (keyP (normP q))
theorem vecK_get (p : Pst) {r : Nat} (hr : r < 16) : (vecK p)[r]? = some (vv p r) := by
  unfold vecK
  rw [List.getElem?_map, List.getElem?_range hr]
  rfl
theorem vecK_len (p : Pst) : (vecK p).length = 16 := by simp [vecK]
theorem keyP_inj {p q : Pst} (hp : CanP p) (hq : CanP q) (h : keyP p = keyP q) : p = q := by
  have h1 : vecK p = vecK q := by
    have := congrArg (List.take 16) h
    unfold keyP at this
    rwa [List.take_left' (vecK_len p), List.take_left' (vecK_len q)] at this
  have h2 : p.cloud = q.cloud := by
    have := congrArg (List.drop 16) h
    unfold keyP at this
    rw [List.drop_left' (vecK_len p), List.drop_left' (vecK_len q)] at this
    exact flatS_inj this
  refine hp.ext hq fun r hr n => ?_
  have e : vv p r = vv q r := by
    have a := vecK_get p hr
    rw [h1, vecK_get q hr] at a
    exact (Option.some.inj a).symm
  have k : ∀ z : Pst, 1 ≤ n → ((r < z.vec.length ∧ n ≤ vecAt z.vec r) ↔ n ≤ vv z r) := fun z hn => by
    unfold vv
    by_cases hz : r < z.vec.length
    · rw [if_pos hz]; exact ⟨fun h => h.2, fun h => ⟨hz, h⟩⟩
    · rw [if_neg hz]; exact ⟨fun h => absurd h.1 hz, fun h => by omega⟩
  unfold inP
  rw [h2]
  constructor
  · rintro ⟨a, b, c, d⟩
    refine ⟨a, b, c, d.imp (fun d => ?_) id⟩
    rw [k q b, ← e, ← k p b]; exact d
  · rintro ⟨a, b, c, d⟩
    refine ⟨a, b, c, d.imp (fun d => ?_) id⟩
    rw [k p b, e, ← k q b]; exact d
theorem cmpP_zero {p q : Pst} : cmpP p q = 0 ↔ normP p = normP q := by
  constructor
  · intro h
    exact keyP_inj (canP_norm p) (canP_norm q) (lexI_eq h)
  · intro h
    unfold cmpP
    rw [h, lexI_self]

def r_k140_1 : List SOp := [⟨some 2,.assign (.const (.bool false)),none⟩]
instance : Live r_k140_1 := ⟨[0]⟩
def r_k140_2 : List SOp := [⟨some 3,.move (.tmp 0),none⟩,⟨some 4,.binOp .leq 5 (.const (.int .u8 65)) (.tmp 3) 5,none⟩,⟨some 5,.move (.tmp 4),none⟩,⟨some 6,.move (.tmp 0),some ((some 5),true)⟩,⟨some 7,.binOp .leq 5 (.tmp 6) (.const (.int .u8 90)) 5,some ((some 5),true)⟩,⟨some 8,.pick (.tmp 5) (.tmp 7) (.const (.bool false)),none⟩,⟨some 2,.assign (.tmp 8),none⟩]
instance : Live r_k140_2 := ⟨[0]⟩
def t_k140 : SC :=
  (.seq (.ops false r_k140_1) (.seq (.ops false r_k140_2) .ret))
theorem it_k140 : FnIs Tryz.prog 140 9 [.tmp 2] t_k140 := ⟨Tryz.f140, _, Tryz.func140, rfl, rfl, rfl, rfl, by kernel_rfl⟩

def r_k141_1 : List SOp := [⟨some 2,.assign (.const (.bool false)),none⟩]
instance : Live r_k141_1 := ⟨[0]⟩
def r_k141_2 : List SOp := [⟨some 3,.move (.tmp 0),none⟩,⟨some 4,.binOp .leq 5 (.const (.int .u8 48)) (.tmp 3) 5,none⟩,⟨some 5,.move (.tmp 4),none⟩,⟨some 6,.move (.tmp 0),some ((some 5),true)⟩,⟨some 7,.binOp .leq 5 (.tmp 6) (.const (.int .u8 57)) 5,some ((some 5),true)⟩,⟨some 8,.pick (.tmp 5) (.tmp 7) (.const (.bool false)),none⟩,⟨some 2,.assign (.tmp 8),none⟩]
instance : Live r_k141_2 := ⟨[0]⟩
def t_k141 : SC :=
  (.seq (.ops false r_k141_1) (.seq (.ops false r_k141_2) .ret))
theorem it_k141 : FnIs Tryz.prog 141 9 [.tmp 2] t_k141 := ⟨Tryz.f141, _, Tryz.func141, rfl, rfl, rfl, rfl, by kernel_rfl⟩

def r_k142_1 : List SOp := [⟨some 2,.assign (.const (.bool false)),none⟩]
instance : Live r_k142_1 := ⟨[0]⟩
def r_k142_2 : List SOp := [⟨some 3,.move (.tmp 0),none⟩,⟨some 4,.binOp .eql 5 (.tmp 3) (.const (.int .u8 45)) 5,none⟩,⟨some 5,.move (.tmp 4),none⟩,⟨some 6,.move (.tmp 0),some ((some 5),false)⟩,⟨some 7,.binOp .eql 5 (.tmp 6) (.const (.int .u8 46)) 5,some ((some 5),false)⟩,⟨some 8,.pick (.tmp 5) (.const (.bool true)) (.tmp 7),none⟩,⟨some 2,.assign (.tmp 8),none⟩]
instance : Live r_k142_2 := ⟨[0]⟩
def t_k142 : SC :=
  (.seq (.ops false r_k142_1) (.seq (.ops false r_k142_2) .ret))
theorem it_k142 : FnIs Tryz.prog 142 9 [.tmp 2] t_k142 := ⟨Tryz.f142, _, Tryz.func142, rfl, rfl, rfl, rfl, by kernel_rfl⟩

def r_k104_1 : List SOp := [⟨some 2,.assign (.const (.int .i64 0)),none⟩,⟨some 3,.assign (.const (.int .i64 0)),none⟩]
instance : Live r_k104_1 := ⟨[0]⟩
def r_k104_2 : List SOp := [⟨some 6,.move (.tmp 0),none⟩,⟨some 7,.binOp .eql 9 (.tmp 6) (.const (.string ⟨#[]⟩)) 9,none⟩]
instance : Live r_k104_2 := ⟨[0]⟩
def r_k104_3 : List SOp := [⟨some 2,.assign (.const (.int .i64 0)),none⟩,⟨some 3,.assign (.const (.int .i64 20)),none⟩]
instance : Live r_k104_3 := ⟨[]⟩
def r_k104_4 : List SOp := [⟨some 8,.move (.tmp 0),none⟩,⟨some 9,.call ⟨.builtin .len,#[.tmp 8],#[9]⟩,none⟩,⟨some 10,.binOp .gtr 3 (.tmp 9) (.const (.int .i64 24)) 3,none⟩]
instance : Live r_k104_4 := ⟨[0]⟩
def r_k104_5 : List SOp := [⟨some 2,.assign (.const (.int .i64 0)),none⟩,⟨some 3,.assign (.const (.int .i64 21)),none⟩]
instance : Live r_k104_5 := ⟨[]⟩
def r_k104_6 : List SOp := [⟨some 11,.move (.tmp 0),none⟩,⟨some 12,.call ⟨.builtin .len,#[.tmp 11],#[9]⟩,none⟩,⟨some 13,.move (.const (.int .i64 0)),none⟩]
instance : Live r_k104_6 := ⟨[0]⟩
def r_k104_7 : List SOp := [⟨some 14,.binOp .lss 3 (.tmp 13) (.tmp 12) 3,none⟩]
instance : Live r_k104_7 := ⟨[0,12,13]⟩
def r_k104_8 : List SOp := [⟨some 15,.move (.tmp 13),none⟩,⟨some 4,.assign (.tmp 15),none⟩]
instance : Live r_k104_8 := ⟨[0,12,13]⟩
def r_k104_9 : List SOp := [⟨some 16,.move (.tmp 0),none⟩,⟨some 17,.move (.tmp 4),none⟩,⟨some 18,.index 9 (.tmp 16) (.tmp 17),none⟩,⟨some 5,.assign (.tmp 18),none⟩]
instance : Live r_k104_9 := ⟨[0,4,12,13]⟩
def r_k104_10 : List SOp := [⟨some 19,.move (.tmp 5),none⟩,⟨some 20,.call ⟨.value (.func 140),#[.tmp 19],#[5]⟩,none⟩,⟨some 21,.move (.tmp 20),none⟩,⟨some 22,.move (.tmp 5),some ((some 21),false)⟩,⟨some 23,.call ⟨.value (.func 141),#[.tmp 22],#[5]⟩,some ((some 21),false)⟩,⟨some 24,.pick (.tmp 21) (.const (.bool true)) (.tmp 23),none⟩]
instance : Live r_k104_10 := ⟨[0,4,5,12,13]⟩
def r_k104_11 : List SOp := [⟨some 25,.move (.tmp 5),none⟩,⟨some 26,.call ⟨.value (.func 142),#[.tmp 25],#[5]⟩,none⟩,⟨some 27,.unOp .not 4 (.tmp 26),none⟩,⟨some 28,.move (.tmp 27),none⟩,⟨some 29,.move (.tmp 4),some ((some 28),false)⟩,⟨some 30,.binOp .eql 3 (.tmp 29) (.const (.int .i64 0)) 3,some ((some 28),false)⟩,⟨some 31,.pick (.tmp 28) (.const (.bool true)) (.tmp 30),none⟩,⟨some 32,.move (.tmp 31),none⟩,⟨some 33,.move (.tmp 4),some ((some 32),false)⟩,⟨some 34,.move (.tmp 0),some ((some 32),false)⟩,⟨some 35,.call ⟨.builtin .len,#[.tmp 34],#[9]⟩,some ((some 32),false)⟩,⟨some 36,.binOp .sub 3 (.tmp 35) (.const (.int .i64 1)) 3,some ((some 32),false)⟩,⟨some 37,.binOp .eql 3 (.tmp 33) (.tmp 36) 3,some ((some 32),false)⟩,⟨some 38,.pick (.tmp 32) (.const (.bool true)) (.tmp 37),none⟩,⟨some 39,.move (.tmp 38),none⟩,⟨some 40,.move (.tmp 0),some ((some 39),false)⟩,⟨some 41,.move (.tmp 4),some ((some 39),false)⟩,⟨some 42,.binOp .sub 3 (.tmp 41) (.const (.int .i64 1)) 3,some ((some 39),false)⟩,⟨some 43,.index 9 (.tmp 40) (.tmp 42),some ((some 39),false)⟩,⟨some 44,.call ⟨.value (.func 142),#[.tmp 43],#[5]⟩,some ((some 39),false)⟩,⟨some 45,.pick (.tmp 39) (.const (.bool true)) (.tmp 44),none⟩]
instance : Live r_k104_11 := ⟨[0,4,5,12,13]⟩
def r_k104_12 : List SOp := [⟨some 46,.move (.tmp 4),none⟩,⟨some 2,.assign (.tmp 46),none⟩,⟨some 3,.assign (.const (.int .i64 22)),none⟩]
instance : Live r_k104_12 := ⟨[4]⟩
def r_k104_13 : List SOp := [⟨some 47,.binOp .add 3 (.tmp 13) (.const (.int .i64 1)) 3,none⟩,⟨some 13,.move (.tmp 47),none⟩]
instance : Live r_k104_13 := ⟨[0,12,13]⟩
def r_k104_14 : List SOp := [⟨some 2,.assign (.const (.int .i64 0)),none⟩,⟨some 3,.assign (.const (.int .i64 0)),none⟩]
instance : Live r_k104_14 := ⟨[]⟩
def t_k104_l1 : SC :=
  (.seq (.ops false r_k104_7) (.seq (.cond (.tmp 14) .skip (.exit 0)) (.seq (.block 1 (.seq (.ops false r_k104_8) (.seq (.ops false r_k104_9) (.seq (.seq (.ops false r_k104_10) (.cond (.tmp 24) (.exit 1) .skip)) (.seq (.ops false r_k104_11) (.cond (.tmp 45) (.seq (.ops false r_k104_12) .ret) .skip)))))) (.ops false r_k104_13))))
def t_k104 : SC :=
  (.seq (.ops false r_k104_1) (.seq (.seq (.ops false r_k104_2) (.cond (.tmp 7) (.seq (.ops false r_k104_3) .ret) .skip)) (.seq (.seq (.ops false r_k104_4) (.cond (.tmp 10) (.seq (.ops false r_k104_5) .ret) .skip)) (.seq (.seq (.ops false r_k104_6) (.block 0 (.loop t_k104_l1))) (.seq (.ops false r_k104_14) .ret)))))
theorem it_k104 : FnIs Tryz.prog 104 48 [.tmp 2, .tmp 3] t_k104 := ⟨Tryz.f104, _, Tryz.func104, rfl, rfl, rfl, rfl, by kernel_rfl⟩

def r_k54_1 : List SOp := [⟨some 2,.assign (.const (.bool false)),none⟩]
instance : Live r_k54_1 := ⟨[0]⟩
def r_k54_2 : List SOp := [⟨some 6,.move (.tmp 0),none⟩,⟨some 7,.call ⟨.value (.func 104),#[.tmp 6],#[9]⟩,none⟩,⟨some 5,.move (.tmp 7),none⟩,⟨some 8,.extract (.tmp 5) 0,none⟩,⟨some 9,.extract (.tmp 5) 1,none⟩,⟨some 3,.assign (.tmp 8),none⟩,⟨some 4,.assign (.tmp 9),none⟩]
instance : Live r_k54_2 := ⟨[0]⟩
def r_k54_3 : List SOp := [⟨some 10,.move (.tmp 4),none⟩,⟨some 11,.binOp .eql 32 (.tmp 10) (.const (.int .i64 0)) 32,none⟩,⟨some 2,.assign (.tmp 11),none⟩]
instance : Live r_k54_3 := ⟨[4]⟩
def t_k54 : SC :=
  (.seq (.ops false r_k54_1) (.seq (.ops false r_k54_2) (.seq (.ops false r_k54_3) .ret)))
theorem it_k54 : FnIs Tryz.prog 54 12 [.tmp 2] t_k54 := ⟨Tryz.f54, _, Tryz.func54, rfl, rfl, rfl, rfl, by kernel_rfl⟩

def r_k168_1 : List SOp := [⟨some 2,.assign (.const (.bool false)),none⟩]
instance : Live r_k168_1 := ⟨[0]⟩
def r_k168_2 : List SOp := [⟨some 3,.move (.tmp 0),none⟩,⟨some 4,.binOp .geq 5 (.tmp 3) (.const (.int .u8 65)) 5,none⟩,⟨some 5,.move (.tmp 4),none⟩,⟨some 6,.move (.tmp 0),some ((some 5),true)⟩,⟨some 7,.binOp .leq 5 (.tmp 6) (.const (.int .u8 90)) 5,some ((some 5),true)⟩,⟨some 8,.pick (.tmp 5) (.tmp 7) (.const (.bool false)),none⟩,⟨some 2,.assign (.tmp 8),none⟩]
instance : Live r_k168_2 := ⟨[0]⟩
def t_k168 : SC :=
  (.seq (.ops false r_k168_1) (.seq (.ops false r_k168_2) .ret))
theorem it_k168 : FnIs Tryz.prog 168 9 [.tmp 2] t_k168 := ⟨Tryz.f168, _, Tryz.func168, rfl, rfl, rfl, rfl, by kernel_rfl⟩

def r_k169_1 : List SOp := [⟨some 2,.assign (.const (.bool false)),none⟩]
instance : Live r_k169_1 := ⟨[0]⟩
def r_k169_2 : List SOp := [⟨some 3,.move (.tmp 0),none⟩,⟨some 4,.binOp .geq 5 (.tmp 3) (.const (.int .u8 48)) 5,none⟩,⟨some 5,.move (.tmp 4),none⟩,⟨some 6,.move (.tmp 0),some ((some 5),true)⟩,⟨some 7,.binOp .leq 5 (.tmp 6) (.const (.int .u8 57)) 5,some ((some 5),true)⟩,⟨some 8,.pick (.tmp 5) (.tmp 7) (.const (.bool false)),none⟩,⟨some 2,.assign (.tmp 8),none⟩]
instance : Live r_k169_2 := ⟨[0]⟩
def t_k169 : SC :=
  (.seq (.ops false r_k169_1) (.seq (.ops false r_k169_2) .ret))
theorem it_k169 : FnIs Tryz.prog 169 9 [.tmp 2] t_k169 := ⟨Tryz.f169, _, Tryz.func169, rfl, rfl, rfl, rfl, by kernel_rfl⟩

def r_k170_1 : List SOp := [⟨some 2,.assign (.const (.bool false)),none⟩]
instance : Live r_k170_1 := ⟨[0]⟩
def r_k170_2 : List SOp := [⟨some 3,.move (.tmp 0),none⟩,⟨some 4,.binOp .eql 5 (.tmp 3) (.const (.int .u8 45)) 5,none⟩,⟨some 5,.move (.tmp 4),none⟩,⟨some 6,.move (.tmp 0),some ((some 5),false)⟩,⟨some 7,.binOp .eql 5 (.tmp 6) (.const (.int .u8 46)) 5,some ((some 5),false)⟩,⟨some 8,.pick (.tmp 5) (.const (.bool true)) (.tmp 7),none⟩,⟨some 2,.assign (.tmp 8),none⟩]
instance : Live r_k170_2 := ⟨[0]⟩
def t_k170 : SC :=
  (.seq (.ops false r_k170_1) (.seq (.ops false r_k170_2) .ret))
theorem it_k170 : FnIs Tryz.prog 170 9 [.tmp 2] t_k170 := ⟨Tryz.f170, _, Tryz.func170, rfl, rfl, rfl, rfl, by kernel_rfl⟩

def r_k154_1 : List SOp := [⟨some 4,.assign (.const (.bool false)),none⟩]
instance : Live r_k154_1 := ⟨[0,1]⟩
def r_k154_2 : List SOp := [⟨some 6,.move (.tmp 0),none⟩,⟨some 7,.move (.tmp 1),none⟩,⟨some 8,.index 9 (.tmp 6) (.tmp 7),none⟩,⟨some 5,.assign (.tmp 8),none⟩]
instance : Live r_k154_2 := ⟨[0,1]⟩
def r_k154_3 : List SOp := [⟨some 9,.move (.tmp 5),none⟩,⟨some 10,.call ⟨.value (.func 168),#[.tmp 9],#[5]⟩,none⟩,⟨some 11,.move (.tmp 10),none⟩,⟨some 12,.move (.tmp 5),some ((some 11),false)⟩,⟨some 13,.call ⟨.value (.func 169),#[.tmp 12],#[5]⟩,some ((some 11),false)⟩,⟨some 14,.pick (.tmp 11) (.const (.bool true)) (.tmp 13),none⟩]
instance : Live r_k154_3 := ⟨[0,1,5]⟩
def r_k154_4 : List SOp := [⟨some 4,.assign (.const (.bool true)),none⟩]
instance : Live r_k154_4 := ⟨[]⟩
def r_k154_5 : List SOp := [⟨some 15,.move (.tmp 5),none⟩,⟨some 16,.call ⟨.value (.func 170),#[.tmp 15],#[5]⟩,none⟩,⟨some 17,.unOp .not 4 (.tmp 16),none⟩]
instance : Live r_k154_5 := ⟨[0,1,5]⟩
def r_k154_6 : List SOp := [⟨some 4,.assign (.const (.bool false)),none⟩]
instance : Live r_k154_6 := ⟨[]⟩
def r_k154_7 : List SOp := [⟨some 18,.move (.tmp 1),none⟩,⟨some 19,.binOp .eql 3 (.tmp 18) (.const (.int .i64 0)) 3,none⟩,⟨some 20,.move (.tmp 19),none⟩,⟨some 21,.move (.tmp 1),some ((some 20),false)⟩,⟨some 22,.move (.tmp 0),some ((some 20),false)⟩,⟨some 23,.call ⟨.builtin .len,#[.tmp 22],#[9]⟩,some ((some 20),false)⟩,⟨some 24,.binOp .sub 3 (.tmp 23) (.const (.int .i64 1)) 3,some ((some 20),false)⟩,⟨some 25,.binOp .eql 3 (.tmp 21) (.tmp 24) 3,some ((some 20),false)⟩,⟨some 26,.pick (.tmp 20) (.const (.bool true)) (.tmp 25),none⟩]
instance : Live r_k154_7 := ⟨[0,1]⟩
def r_k154_8 : List SOp := [⟨some 4,.assign (.const (.bool false)),none⟩]
instance : Live r_k154_8 := ⟨[]⟩
def r_k154_9 : List SOp := [⟨some 27,.move (.tmp 0),none⟩,⟨some 28,.move (.tmp 1),none⟩,⟨some 29,.binOp .sub 3 (.tmp 28) (.const (.int .i64 1)) 3,none⟩,⟨some 30,.index 9 (.tmp 27) (.tmp 29),none⟩,⟨some 31,.call ⟨.value (.func 170),#[.tmp 30],#[5]⟩,none⟩,⟨some 32,.unOp .not 4 (.tmp 31),none⟩,⟨some 4,.assign (.tmp 32),none⟩]
instance : Live r_k154_9 := ⟨[0,1]⟩
def t_k154 : SC :=
  (.seq (.ops false r_k154_1) (.seq (.ops false r_k154_2) (.seq (.seq (.ops false r_k154_3) (.cond (.tmp 14) (.seq (.ops false r_k154_4) .ret) .skip)) (.seq (.seq (.ops false r_k154_5) (.cond (.tmp 17) (.seq (.ops false r_k154_6) .ret) .skip)) (.seq (.seq (.ops false r_k154_7) (.cond (.tmp 26) (.seq (.ops false r_k154_8) .ret) .skip)) (.seq (.ops false r_k154_9) .ret))))))
theorem it_k154 : FnIs Tryz.prog 154 33 [.tmp 4] t_k154 := ⟨Tryz.f154, _, Tryz.func154, rfl, rfl, rfl, rfl, by kernel_rfl⟩

def r_k108_1 : List SOp := [⟨some 2,.assign (.const (.int .i64 0)),none⟩,⟨some 3,.assign (.const (.int .i64 0)),none⟩]
instance : Live r_k108_1 := ⟨[0]⟩
def r_k108_2 : List SOp := [⟨some 5,.move (.tmp 0),none⟩,⟨some 6,.call ⟨.builtin .len,#[.tmp 5],#[9]⟩,none⟩,⟨some 7,.binOp .eql 3 (.tmp 6) (.const (.int .i64 0)) 3,none⟩]
instance : Live r_k108_2 := ⟨[0]⟩
def r_k108_3 : List SOp := [⟨some 2,.assign (.const (.int .i64 0)),none⟩,⟨some 3,.assign (.const (.int .i64 20)),none⟩]
instance : Live r_k108_3 := ⟨[]⟩
def r_k108_4 : List SOp := [⟨some 8,.move (.tmp 0),none⟩,⟨some 9,.call ⟨.builtin .len,#[.tmp 8],#[9]⟩,none⟩,⟨some 10,.binOp .gtr 3 (.tmp 9) (.const (.int .i64 24)) 3,none⟩]
instance : Live r_k108_4 := ⟨[0]⟩
def r_k108_5 : List SOp := [⟨some 2,.assign (.const (.int .i64 0)),none⟩,⟨some 3,.assign (.const (.int .i64 21)),none⟩]
instance : Live r_k108_5 := ⟨[]⟩
def r_k108_6 : List SOp := [⟨some 4,.assign (.const (.int .i64 0)),none⟩]
instance : Live r_k108_6 := ⟨[0]⟩
def r_k108_7 : List SOp := [⟨some 11,.move (.tmp 4),none⟩,⟨some 12,.move (.tmp 0),none⟩,⟨some 13,.call ⟨.builtin .len,#[.tmp 12],#[9]⟩,none⟩,⟨some 14,.binOp .lss 3 (.tmp 11) (.tmp 13) 3,none⟩]
instance : Live r_k108_7 := ⟨[0,4]⟩
def r_k108_8 : List SOp := [⟨some 17,.move (.tmp 0),none⟩,⟨some 18,.move (.tmp 4),none⟩,⟨some 19,.call ⟨.value (.func 154),#[.tmp 17,.tmp 18],#[9,3]⟩,none⟩,⟨some 20,.unOp .not 4 (.tmp 19),none⟩]
instance : Live r_k108_8 := ⟨[0,4]⟩
def r_k108_9 : List SOp := [⟨some 21,.move (.tmp 4),none⟩,⟨some 2,.assign (.tmp 21),none⟩,⟨some 3,.assign (.const (.int .i64 22)),none⟩]
instance : Live r_k108_9 := ⟨[4]⟩
def r_k108_10 : List SOp := [⟨some 15,.move (.tmp 4),none⟩,⟨some 16,.binOp .add 3 (.tmp 15) (.const (.int .i64 1)) 3,none⟩,⟨some 4,.assign (.tmp 16),none⟩]
instance : Live r_k108_10 := ⟨[0,4]⟩
def r_k108_11 : List SOp := [⟨some 2,.assign (.const (.int .i64 0)),none⟩,⟨some 3,.assign (.const (.int .i64 0)),none⟩]
instance : Live r_k108_11 := ⟨[]⟩
def t_k108_l1 : SC :=
  (.seq (.seq (.ops false r_k108_7) (.cond (.tmp 14) .skip (.exit 0))) (.seq (.block 1 (.seq (.ops false r_k108_8) (.cond (.tmp 20) (.seq (.ops false r_k108_9) .ret) .skip))) (.ops false r_k108_10)))
def t_k108 : SC :=
  (.seq (.ops false r_k108_1) (.seq (.seq (.ops false r_k108_2) (.cond (.tmp 7) (.seq (.ops false r_k108_3) .ret) .skip)) (.seq (.seq (.ops false r_k108_4) (.cond (.tmp 10) (.seq (.ops false r_k108_5) .ret) .skip)) (.seq (.seq (.ops false r_k108_6) (.block 0 (.loop t_k108_l1))) (.seq (.ops false r_k108_11) .ret)))))
theorem it_k108 : FnIs Tryz.prog 108 22 [.tmp 2, .tmp 3] t_k108 := ⟨Tryz.f108, _, Tryz.func108, rfl, rfl, rfl, rfl, by kernel_rfl⟩

def r_k60_1 : List SOp := [⟨some 2,.assign (.const (.bool false)),none⟩]
instance : Live r_k60_1 := ⟨[0]⟩
def r_k60_2 : List SOp := [⟨some 6,.move (.tmp 0),none⟩,⟨some 7,.call ⟨.value (.func 108),#[.tmp 6],#[9]⟩,none⟩,⟨some 5,.move (.tmp 7),none⟩,⟨some 8,.extract (.tmp 5) 0,none⟩,⟨some 9,.extract (.tmp 5) 1,none⟩,⟨some 3,.assign (.tmp 8),none⟩,⟨some 4,.assign (.tmp 9),none⟩]
instance : Live r_k60_2 := ⟨[0]⟩
def r_k60_3 : List SOp := [⟨some 10,.move (.tmp 4),none⟩,⟨some 11,.binOp .eql 3 (.tmp 10) (.const (.int .i64 0)) 3,none⟩,⟨some 2,.assign (.tmp 11),none⟩]
instance : Live r_k60_3 := ⟨[4]⟩
def t_k60 : SC :=
  (.seq (.ops false r_k60_1) (.seq (.ops false r_k60_2) (.seq (.ops false r_k60_3) .ret)))
theorem it_k60 : FnIs Tryz.prog 60 12 [.tmp 2] t_k60 := ⟨Tryz.f60, _, Tryz.func60, rfl, rfl, rfl, rfl, by kernel_rfl⟩

def isLet (c : Int) : Bool := decide (65 ≤ c) && decide (c ≤ 90)
def isDig (c : Int) : Bool := decide (48 ≤ c) && decide (c ≤ 57)
def isMk (c : Int) : Bool := decide (c = 45) || decide (c = 46)
def byteAt (s : ByteArray) (i : Nat) : Int := match s[i]? with | some b => (b.toNat : Int) | none => 0
theorem byteAt_get {s : ByteArray} {i : Nat} (h : i < s.size) : ∃ b : UInt8, s[i]? = some b ∧ byteAt s i = (b.toNat : Int) := by
  have e : s[i]? = some s[i] := by
    rw [getElem?_pos s i h]
  exact ⟨s[i], e, by unfold byteAt; rw [e]⟩
def standS (s : ByteArray) (i : Nat) : Bool := (isLet (byteAt s i) || isDig (byteAt s i)) || (isMk (byteAt s i) && (!decide (i = 0) && (!decide (i = s.size - 1) && !isMk (byteAt s (i - 1)))))
def badS (s : ByteArray) : Option Nat := (List.range s.size).find? fun i => !standS s i
def chkS (s : ByteArray) : Int × Int := if s.size = 0 then (0, 20) else if 24 < s.size then (0, 21) else match badS s with | some i => (i, 22) | none => (0, 0)
def goodS (s : ByteArray) : Bool := decide ((chkS s).2 = 0)
theorem ev_k140 (c : Int) : Ev (En Tryz.prog rfl).P 140 [.int .u8 c] (.ret (.bool (isLet c))) := by
  refine Ev.of_body it_k140 (by simp) (Run.start ?_)
  unfold t_k140 isLet
  by_cases h1 : 65 ≤ c <;> by_cases h2 : c ≤ 90
  all_goals
    simp only [h1, h2, decide_true, decide_false, Bool.and_true, Bool.and_false, Bool.true_and, Bool.false_and]
    (focus (have hF := True.intro; (repeat' (first | refine go1 (k:=?_) | with_reducible refine Ny.of ?_ ?_ | (refine Hyp.of ?_; intro hc; (try simp only [hc]); (try simp only [Bh] at hc)))); all_goals clear hF))
    all_goals first | exact Fin.tmp' rfl rfl | (exfalso; omega)
theorem ev_k141 (c : Int) : Ev (En Tryz.prog rfl).P 141 [.int .u8 c] (.ret (.bool (isDig c))) := by
  refine Ev.of_body it_k141 (by simp) (Run.start ?_)
  unfold t_k141 isDig
  by_cases h1 : 48 ≤ c <;> by_cases h2 : c ≤ 57
  all_goals
    simp only [h1, h2, decide_true, decide_false, Bool.and_true, Bool.and_false, Bool.true_and, Bool.false_and]
    (focus (have hF := True.intro; (repeat' (first | refine go1 (k:=?_) | with_reducible refine Ny.of ?_ ?_ | (refine Hyp.of ?_; intro hc; (try simp only [hc]); (try simp only [Bh] at hc)))); all_goals clear hF))
    all_goals first | exact Fin.tmp' rfl rfl | (exfalso; omega)
theorem ev_k142 (c : Int) : Ev (En Tryz.prog rfl).P 142 [.int .u8 c] (.ret (.bool (isMk c))) := by
  refine Ev.of_body it_k142 (by simp) (Run.start ?_)
  unfold t_k142 isMk
  by_cases h1 : c = 45 <;> by_cases h2 : c = 46
  all_goals
    simp only [h1, h2, decide_true, decide_false, Bool.or_true, Bool.or_false, Bool.true_or, Bool.false_or]
    (focus (have hF := True.intro; (repeat' (first | refine go1 (k:=?_) | with_reducible refine Ny.of ?_ ?_ | (refine Hyp.of ?_; intro hc; (try simp only [hc]); (try simp only [Bh] at hc)))); all_goals clear hF))
    all_goals first | exact Fin.tmp' rfl rfl | (exfalso; omega)
theorem ev_k168 (c : Int) : Ev (En Tryz.prog rfl).P 168 [.int .u8 c] (.ret (.bool (isLet c))) := by
  refine Ev.of_body it_k168 (by simp) (Run.start ?_)
  unfold t_k168 isLet
  by_cases h1 : 65 ≤ c <;> by_cases h2 : c ≤ 90
  all_goals
    simp only [h1, h2, decide_true, decide_false, Bool.and_true, Bool.and_false, Bool.true_and, Bool.false_and]
    (focus (have hF := True.intro; (repeat' (first | refine go1 (k:=?_) | with_reducible refine Ny.of ?_ ?_ | (refine Hyp.of ?_; intro hc; (try simp only [hc]); (try simp only [Bh] at hc)))); all_goals clear hF))
    all_goals first | exact Fin.tmp' rfl rfl | (exfalso; omega)
theorem ev_k169 (c : Int) : Ev (En Tryz.prog rfl).P 169 [.int .u8 c] (.ret (.bool (isDig c))) := by
  refine Ev.of_body it_k169 (by simp) (Run.start ?_)
  unfold t_k169 isDig
  by_cases h1 : 48 ≤ c <;> by_cases h2 : c ≤ 57
  all_goals
    simp only [h1, h2, decide_true, decide_false, Bool.and_true, Bool.and_false, Bool.true_and, Bool.false_and]
    (focus (have hF := True.intro; (repeat' (first | refine go1 (k:=?_) | with_reducible refine Ny.of ?_ ?_ | (refine Hyp.of ?_; intro hc; (try simp only [hc]); (try simp only [Bh] at hc)))); all_goals clear hF))
    all_goals first | exact Fin.tmp' rfl rfl | (exfalso; omega)
theorem ev_k170 (c : Int) : Ev (En Tryz.prog rfl).P 170 [.int .u8 c] (.ret (.bool (isMk c))) := by
  refine Ev.of_body it_k170 (by simp) (Run.start ?_)
  unfold t_k170 isMk
  by_cases h1 : c = 45 <;> by_cases h2 : c = 46
  all_goals
    simp only [h1, h2, decide_true, decide_false, Bool.or_true, Bool.or_false, Bool.true_or, Bool.false_or]
    (focus (have hF := True.intro; (repeat' (first | refine go1 (k:=?_) | with_reducible refine Ny.of ?_ ?_ | (refine Hyp.of ?_; intro hc; (try simp only [hc]); (try simp only [Bh] at hc)))); all_goals clear hF))
    all_goals first | exact Fin.tmp' rfl rfl | (exfalso; omega)
theorem find_take {q : Nat → Bool} {n i : Nat} (hi : i < n) (h0 : ∀ j, j < i → q j = false) (h : q i = true) : (List.range n).find? q = some i := by
  rw [List.find?_eq_some_iff_getElem]
  refine ⟨h, i, by simpa using hi, by simp, fun j hj => by simp [h0 j hj]⟩
theorem find_none {q : Nat → Bool} {n : Nat} (h0 : ∀ j, j < n → q j = false) : (List.range n).find? q = none := by
  rw [List.find?_eq_none]
  intro j hj
  simp [h0 j (by simpa using hj)]
theorem chkS_bad {s : ByteArray} (h1 : ¬ s.size = 0) (h2 : ¬ 24 < s.size) {i : Nat} (hi : i < s.size) (h0 : ∀ j, j < i → standS s j = true) (h : standS s i = false) : chkS s = ((i : Int), 22) := by
  unfold chkS badS
  rw [if_neg h1, if_neg h2, find_take hi (fun j hj => by simp [h0 j hj]) (by simp [h])]
theorem chkS_ok {s : ByteArray} (h1 : ¬ s.size = 0) (h2 : ¬ 24 < s.size) (h0 : ∀ j, j < s.size → standS s j = true) : chkS s = (0, 0) := by
  unfold chkS badS
  rw [if_neg h1, if_neg h2, find_none (fun j hj => by simp [h0 j hj])]
theorem size_zero {s : ByteArray} : s = ByteArray.empty ↔ s.size = 0 := by
  constructor
  · intro h; rw [h]; rfl
  · intro h
    cases s with
    | mk d =>
      have : d = #[] := Array.eq_empty_of_size_eq_zero h
      rw [this]; rfl
theorem ev_k104 (s : ByteArray) : Ev (En Tryz.prog rfl).P 104 [.str s] (.ret (.tup [.int .i64 (chkS s).1, .int .i64 (chkS s).2])) := by
  refine Ev.of_body it_k104 (by simp) (Run.start ?_)
  unfold t_k104
  by_cases h1 : s.size = 0
  · have h1' : (s = (⟨#[]⟩ : ByteArray)) = True := eq_true (size_zero.2 h1)
    have : chkS s = (0, 20) := by unfold chkS; rw [if_pos h1]
    rw [this]
    (focus (have hF := @h1'; (repeat' (first | refine go1 (k:=?_) | with_reducible refine Ny.of ?_ ?_ | (refine Hyp.of ?_; intro hc; (try simp only [hc]); (try simp only [Bh] at hc)))); all_goals clear hF))
    exact Fin.all rfl rfl rfl
  · have h1' : (s = (⟨#[]⟩ : ByteArray)) = False := eq_false fun h => h1 (size_zero.1 h)
    by_cases h2 : 24 < s.size
    · have : chkS s = (0, 21) := by unfold chkS; rw [if_neg h1, if_pos h2]
      rw [this]
      (focus (have hF := @h1'; (repeat' (first | refine go1 (k:=?_) | with_reducible refine Ny.of ?_ ?_ | (refine Hyp.of ?_; intro hc; (try simp only [hc]); (try simp only [Bh] at hc)))); all_goals clear hF))
      exact Fin.all rfl rfl rfl
    · (focus (have hF := @h1'; (repeat' (first | refine go1 (k:=?_) | with_reducible refine Ny.of ?_ ?_ | (refine Hyp.of ?_; intro hc; (try simp only [hc]); (try simp only [Bh] at hc)))); all_goals clear hF))
      refine Run.while (σ := Nat) (fun i => ⟨tms [(0, .str s), (12, .int .i64 (s.size : Int)), (13, .int .i64 (i : Int))], mms []⟩) (fun i => i ≤ s.size ∧ ∀ j, j < i → standS s j = true) (fun i => s.size - i) 0 (have hW := True.intro; stWk) ⟨Nat.zero_le _, fun j hj => absurd hj (Nat.not_lt_zero _)⟩ ?_
      rintro i ⟨hi, hp⟩
      unfold t_k104_l1
      by_cases hlt : i < s.size
      · obtain ⟨b, hb, hbe⟩ := byteAt_get hlt
        have hok : standS s i = true → ∀ j, j < i + 1 → standS s j = true := fun h j hj => by
          by_cases e : j = i
          · rw [e]; exact h
          · exact hp j (by omega)
        have hbad := chkS_bad h1 h2 hlt hp
        have c1 := ev_k140 (b.toNat : Int)
        have c2 := ev_k141 (b.toNat : Int)
        have c3 := ev_k142 (b.toNat : Int)
        unfold standS at hok hbad
        rw [hbe] at hok hbad
        generalize isLet (b.toNat : Int) = v1 at c1 hok hbad
        generalize isDig (b.toNat : Int) = v2 at c2 hok hbad
        generalize isMk (b.toNat : Int) = v3 at c3 hok hbad
        (focus (have hF := @hb; (repeat' (first | refine go1 (k:=?_) | with_reducible refine Ny.of ?_ ?_ | (refine Hyp.of ?_; intro hc; (try simp only [hc]); (try simp only [Bh] at hc)))); all_goals clear hF))
        refine stCall [.int .u8 (b.toNat : Int)] (he := c1) (k:=?_)
        cases v1
        case' true =>
          have hn := hok (by simp)
          (focus (have hF := @hb; (repeat' (first | refine go1 (k:=?_) | with_reducible refine Ny.of ?_ ?_ | (refine Hyp.of ?_; intro hc; (try simp only [hc]); (try simp only [Bh] at hc)))); all_goals clear hF))
          (refine Fin.nextW (i + 1) ?_ (have hW := True.intro; stWk); (try dsimp only))
          exact ⟨⟨hlt, hn⟩, by omega⟩
        case' false =>
          (focus (have hF := @hb; (repeat' (first | refine go1 (k:=?_) | with_reducible refine Ny.of ?_ ?_ | (refine Hyp.of ?_; intro hc; (try simp only [hc]); (try simp only [Bh] at hc)))); all_goals clear hF))
          refine stCall [.int .u8 (b.toNat : Int)] (he := c2) (k:=?_)
          cases v2
          case' true =>
            have hn := hok (by simp)
            (focus (have hF := @hb; (repeat' (first | refine go1 (k:=?_) | with_reducible refine Ny.of ?_ ?_ | (refine Hyp.of ?_; intro hc; (try simp only [hc]); (try simp only [Bh] at hc)))); all_goals clear hF))
            (refine Fin.nextW (i + 1) ?_ (have hW := True.intro; stWk); (try dsimp only))
            exact ⟨⟨hlt, hn⟩, by omega⟩
          case' false =>
            (focus (have hF := @hb; (repeat' (first | refine go1 (k:=?_) | with_reducible refine Ny.of ?_ ?_ | (refine Hyp.of ?_; intro hc; (try simp only [hc]); (try simp only [Bh] at hc)))); all_goals clear hF))
            refine stCall [.int .u8 (b.toNat : Int)] (he := c3) (k:=?_)
            cases v3
            case' false =>
              rw [hbad (by simp)]
              (focus (have hF := @hb; (repeat' (first | refine go1 (k:=?_) | with_reducible refine Ny.of ?_ ?_ | (refine Hyp.of ?_; intro hc; (try simp only [hc]); (try simp only [Bh] at hc)))); all_goals clear hF))
              exact Fin.all rfl rfl rfl
            case' true =>
              by_cases i0 : i = 0
              · rw [hbad (by simp [i0])]
                subst i0
                (focus (have hF := @hb; (repeat' (first | refine go1 (k:=?_) | with_reducible refine Ny.of ?_ ?_ | (refine Hyp.of ?_; intro hc; (try simp only [hc]); (try simp only [Bh] at hc)))); all_goals clear hF))
                exact Fin.all rfl rfl rfl
              · by_cases i1 : i = s.size - 1
                · rw [hbad (by simp [i1])]
                  have i1' : (i : Int) = (s.size : Int) - 1 := by omega
                  have i0' : ¬ (i : Int) = 0 := by omega
                  have i2' : IntKind.i64.wrap ((s.size : Int) - 1) = (i : Int) := by rw [wrap_ok (by omega)]; omega
                  (focus (have hF := (And.intro @hb (And.intro @i0' @i2')); (repeat' (first | refine go1 (k:=?_) | with_reducible refine Ny.of ?_ ?_ | (refine Hyp.of ?_; intro hc; (try simp only [hc]); (try simp only [Bh] at hc)))); all_goals clear hF))
                  exact Fin.all rfl rfl rfl
                · have i0' : ¬ (i : Int) = 0 := by omega
                  have i1' : ¬ (i : Int) = (s.size : Int) - 1 := by omega
                  obtain ⟨c, hc, hce⟩ := byteAt_get (s := s) (i := i - 1) (by omega)
                  have c4 := ev_k142 (c.toNat : Int)
                  have hpw : IntKind.i64.wrap ((i : Int) - 1) = ((i - 1 : Nat) : Int) := by rw [wrap_ok (by omega)]; omega
                  rw [hce] at hok hbad
                  generalize isMk (c.toNat : Int) = v4 at c4 hok hbad
                  (focus (have hF := (And.intro (And.intro @hb @i0') (And.intro @i1' (And.intro @hpw @hc))); (repeat' (first | refine go1 (k:=?_) | with_reducible refine Ny.of ?_ ?_ | (refine Hyp.of ?_; intro hc; (try simp only [hc]); (try simp only [Bh] at hc)))); all_goals clear hF))
                  refine stCall [.int .u8 (c.toNat : Int)] (he := c4) (k:=?_)
                  cases v4
                  · have hn := hok (by simp [i0, i1])
                    (focus (have hF := @hb; (repeat' (first | refine go1 (k:=?_) | with_reducible refine Ny.of ?_ ?_ | (refine Hyp.of ?_; intro hc; (try simp only [hc]); (try simp only [Bh] at hc)))); all_goals clear hF))
                    (refine Fin.nextW (i + 1) ?_ (have hW := True.intro; stWk); (try dsimp only))
                    exact ⟨⟨hlt, hn⟩, by omega⟩
                  · rw [hbad (by simp)]
                    (focus (have hF := @hb; (repeat' (first | refine go1 (k:=?_) | with_reducible refine Ny.of ?_ ?_ | (refine Hyp.of ?_; intro hc; (try simp only [hc]); (try simp only [Bh] at hc)))); all_goals clear hF))
                    exact Fin.all rfl rfl rfl
      · rw [chkS_ok h1 h2 fun j hj => hp j (by omega)]
        (focus (have hF := True.intro; (repeat' (first | refine go1 (k:=?_) | with_reducible refine Ny.of ?_ ?_ | (refine Hyp.of ?_; intro hc; (try simp only [hc]); (try simp only [Bh] at hc)))); all_goals clear hF))
        exact Fin.all rfl rfl rfl
theorem ev_k54 (s : ByteArray) : Ev (En Tryz.prog rfl).P 54 [.str s] (.ret (.bool (goodS s))) := by
  refine Ev.of_body it_k54 (by simp) (Run.start ?_)
  unfold t_k54 goodS
  (focus (have hF := True.intro; (repeat' (first | refine go1 (k:=?_) | with_reducible refine Ny.of ?_ ?_ | (refine Hyp.of ?_; intro hc; (try simp only [hc]); (try simp only [Bh] at hc)))); all_goals clear hF))
  refine stCall [.str s] (he := ev_k104 s) (k:=?_)
  (focus (have hF := True.intro; (repeat' (first | refine go1 (k:=?_) | with_reducible refine Ny.of ?_ ?_ | (refine Hyp.of ?_; intro hc; (try simp only [hc]); (try simp only [Bh] at hc)))); all_goals clear hF))
  exact Fin.tmp' rfl rfl
theorem ev_k154 (s : ByteArray) (i : Nat) (hi : i < s.size) (hs : s.size ≤ 1000000) : Ev (En Tryz.prog rfl).P 154 [.str s, .int .i64 (i : Int)] (.ret (.bool (standS s i))) := by
  refine Ev.of_body it_k154 (by simp) (Run.start ?_)
  unfold t_k154 standS
  obtain ⟨b, hb, hbe⟩ := byteAt_get hi
  rw [hbe]
  have c1 := ev_k168 (b.toNat : Int)
  have c2 := ev_k169 (b.toNat : Int)
  have c3 := ev_k170 (b.toNat : Int)
  generalize isLet (b.toNat : Int) = v1 at c1 ⊢
  generalize isDig (b.toNat : Int) = v2 at c2 ⊢
  generalize isMk (b.toNat : Int) = v3 at c3 ⊢
  (focus (have hF := @hb; (repeat' (first | refine go1 (k:=?_) | with_reducible refine Ny.of ?_ ?_ | (refine Hyp.of ?_; intro hc; (try simp only [hc]); (try simp only [Bh] at hc)))); all_goals clear hF))
  refine stCall [.int .u8 (b.toNat : Int)] (he := c1) (k:=?_)
  cases v1
  case' true =>
    (focus (have hF := @hb; (repeat' (first | refine go1 (k:=?_) | with_reducible refine Ny.of ?_ ?_ | (refine Hyp.of ?_; intro hc; (try simp only [hc]); (try simp only [Bh] at hc)))); all_goals clear hF))
    exact Fin.tmp' rfl rfl
  case' false =>
    (focus (have hF := @hb; (repeat' (first | refine go1 (k:=?_) | with_reducible refine Ny.of ?_ ?_ | (refine Hyp.of ?_; intro hc; (try simp only [hc]); (try simp only [Bh] at hc)))); all_goals clear hF))
    refine stCall [.int .u8 (b.toNat : Int)] (he := c2) (k:=?_)
    cases v2
    case' true =>
      (focus (have hF := @hb; (repeat' (first | refine go1 (k:=?_) | with_reducible refine Ny.of ?_ ?_ | (refine Hyp.of ?_; intro hc; (try simp only [hc]); (try simp only [Bh] at hc)))); all_goals clear hF))
      exact Fin.tmp' rfl rfl
    case' false =>
      (focus (have hF := @hb; (repeat' (first | refine go1 (k:=?_) | with_reducible refine Ny.of ?_ ?_ | (refine Hyp.of ?_; intro hc; (try simp only [hc]); (try simp only [Bh] at hc)))); all_goals clear hF))
      refine stCall [.int .u8 (b.toNat : Int)] (he := c3) (k:=?_)
      cases v3
      case' false =>
        (focus (have hF := @hb; (repeat' (first | refine go1 (k:=?_) | with_reducible refine Ny.of ?_ ?_ | (refine Hyp.of ?_; intro hc; (try simp only [hc]); (try simp only [Bh] at hc)))); all_goals clear hF))
        exact Fin.tmp' rfl rfl
      case' true =>
        by_cases i0 : i = 0
        · subst i0
          (focus (have hF := @hb; (repeat' (first | refine go1 (k:=?_) | with_reducible refine Ny.of ?_ ?_ | (refine Hyp.of ?_; intro hc; (try simp only [hc]); (try simp only [Bh] at hc)))); all_goals clear hF))
          exact Fin.tmp' rfl rfl
        · by_cases i1 : i = s.size - 1
          · have e : (false || false || (true && (!decide (i = 0) && (!decide (i = s.size - 1) && !isMk (byteAt s (i - 1)))))) = false := by simp [i1]
            rw [e]
            (focus (have hF := @hb; (repeat' (first | refine go1 (k:=?_) | with_reducible refine Ny.of ?_ ?_ | (refine Hyp.of ?_; intro hc; (try simp only [hc]); (try simp only [Bh] at hc)))); all_goals clear hF))
            all_goals first | exact Fin.tmp' rfl rfl | (exfalso; omega)
          · obtain ⟨c, hc, hce⟩ := byteAt_get (s := s) (i := i - 1) (by omega)
            have c4 := ev_k170 (c.toNat : Int)
            have hpw : IntKind.i64.wrap ((i : Int) - 1) = ((i - 1 : Nat) : Int) := by rw [wrap_ok (by omega)]; omega
            rw [hce]
            generalize isMk (c.toNat : Int) = v4 at c4 ⊢
            have e : (false || false || (true && (!decide (i = 0) && (!decide (i = s.size - 1) && !v4)))) = !v4 := by simp [i0, i1]
            rw [e]
            have i1' : ¬ (i : Int) = (s.size : Int) - 1 := by omega
            (focus (have hF := (And.intro (And.intro @hb @i1') (And.intro @hpw @hc)); (repeat' (first | refine go1 (k:=?_) | with_reducible refine Ny.of ?_ ?_ | (refine Hyp.of ?_; intro hc; (try simp only [hc]); (try simp only [Bh] at hc)))); all_goals clear hF))
            refine stCall [.int .u8 (c.toNat : Int)] (he := c4) (k:=?_)
            (focus (have hF := @hb; (repeat' (first | refine go1 (k:=?_) | with_reducible refine Ny.of ?_ ?_ | (refine Hyp.of ?_; intro hc; (try simp only [hc]); (try simp only [Bh] at hc)))); all_goals clear hF))
            exact Fin.tmp' rfl rfl
theorem ev_k108 (s : ByteArray) : Ev (En Tryz.prog rfl).P 108 [.str s] (.ret (.tup [.int .i64 (chkS s).1, .int .i64 (chkS s).2])) := by
  refine Ev.of_body it_k108 (by simp) (Run.start ?_)
  unfold t_k108
  by_cases h1 : s.size = 0
  · have : chkS s = (0, 20) := by unfold chkS; rw [if_pos h1]
    rw [this]
    have h1' : ((s.size : Int) = 0) = True := eq_true (by omega)
    (focus (have hF := @h1'; (repeat' (first | refine go1 (k:=?_) | with_reducible refine Ny.of ?_ ?_ | (refine Hyp.of ?_; intro hc; (try simp only [hc]); (try simp only [Bh] at hc)))); all_goals clear hF))
    exact Fin.all rfl rfl rfl
  · by_cases h2 : 24 < s.size
    · have : chkS s = (0, 21) := by unfold chkS; rw [if_neg h1, if_pos h2]
      rw [this]
      (focus (have hF := True.intro; (repeat' (first | refine go1 (k:=?_) | with_reducible refine Ny.of ?_ ?_ | (refine Hyp.of ?_; intro hc; (try simp only [hc]); (try simp only [Bh] at hc)))); all_goals clear hF))
      exact Fin.all rfl rfl rfl
    · (focus (have hF := True.intro; (repeat' (first | refine go1 (k:=?_) | with_reducible refine Ny.of ?_ ?_ | (refine Hyp.of ?_; intro hc; (try simp only [hc]); (try simp only [Bh] at hc)))); all_goals clear hF))
      refine Run.while (σ := Nat) (fun i => ⟨tms [(0, .str s), (4, .int .i64 (i : Int))], mms []⟩) (fun i => i ≤ s.size ∧ ∀ j, j < i → standS s j = true) (fun i => s.size - i) 0 (have hW := True.intro; stWk) ⟨Nat.zero_le _, fun j hj => absurd hj (Nat.not_lt_zero _)⟩ ?_
      rintro i ⟨hi, hp⟩
      unfold t_k108_l1
      by_cases hlt : i < s.size
      · have hok : standS s i = true → ∀ j, j < i + 1 → standS s j = true := fun h j hj => by
          by_cases e : j = i
          · rw [e]; exact h
          · exact hp j (by omega)
        have hbad := chkS_bad h1 h2 hlt hp
        have c1 := ev_k154 s i hlt (by omega)
        generalize standS s i = v at c1 hok hbad
        (focus (have hF := True.intro; (repeat' (first | refine go1 (k:=?_) | with_reducible refine Ny.of ?_ ?_ | (refine Hyp.of ?_; intro hc; (try simp only [hc]); (try simp only [Bh] at hc)))); all_goals clear hF))
        refine stCall [.str s, .int .i64 (i : Int)] (he := c1) (k:=?_)
        cases v
        · rw [hbad rfl]
          (focus (have hF := True.intro; (repeat' (first | refine go1 (k:=?_) | with_reducible refine Ny.of ?_ ?_ | (refine Hyp.of ?_; intro hc; (try simp only [hc]); (try simp only [Bh] at hc)))); all_goals clear hF))
          exact Fin.all rfl rfl rfl
        · have hn := hok rfl
          (focus (have hF := True.intro; (repeat' (first | refine go1 (k:=?_) | with_reducible refine Ny.of ?_ ?_ | (refine Hyp.of ?_; intro hc; (try simp only [hc]); (try simp only [Bh] at hc)))); all_goals clear hF))
          (refine Fin.nextW (i + 1) ?_ (have hW := True.intro; stWk); (try dsimp only))
          exact ⟨⟨hlt, hn⟩, by omega⟩
      · rw [chkS_ok h1 h2 fun j hj => hp j (by omega)]
        (focus (have hF := True.intro; (repeat' (first | refine go1 (k:=?_) | with_reducible refine Ny.of ?_ ?_ | (refine Hyp.of ?_; intro hc; (try simp only [hc]); (try simp only [Bh] at hc)))); all_goals clear hF))
        exact Fin.all rfl rfl rfl
theorem ev_k60 (s : ByteArray) : Ev (En Tryz.prog rfl).P 60 [.str s] (.ret (.bool (goodS s))) := by
  refine Ev.of_body it_k60 (by simp) (Run.start ?_)
  unfold t_k60 goodS
  (focus (have hF := True.intro; (repeat' (first | refine go1 (k:=?_) | with_reducible refine Ny.of ?_ ?_ | (refine Hyp.of ?_; intro hc; (try simp only [hc]); (try simp only [Bh] at hc)))); all_goals clear hF))
  refine stCall [.str s] (he := ev_k108 s) (k:=?_)
  (focus (have hF := True.intro; (repeat' (first | refine go1 (k:=?_) | with_reducible refine Ny.of ?_ ?_ | (refine Hyp.of ?_; intro hc; (try simp only [hc]); (try simp only [Bh] at hc)))); all_goals clear hF))
  exact Fin.tmp' rfl rfl

def bs (s : ByteArray) : List Int := s.data.toList.map fun b => (b.toNat : Int)
def cmpB (a b : ByteArray) : Int := lexI (bs a) (bs b)
theorem cmpBytes_lex : ∀ a b : List UInt8, Go.Lib.compareBytes a b = lexI (a.map fun b => (b.toNat : Int)) (b.map fun b => (b.toNat : Int))
  | [], [] => rfl
  | [], _ :: _ => rfl
  | _ :: _, [] => rfl
  | x :: a, y :: b => by
    have ih := cmpBytes_lex a b
    unfold Go.Lib.compareBytes
    simp only [List.map_cons]
    unfold lexI
    rw [ih]
    by_cases h1 : x < y
    · have h2 : ((x.toNat : Int) < (y.toNat : Int)) := by have := UInt8.lt_iff_toNat_lt.1 h1; omega
      rw [if_pos h1, if_pos h2]
    · have h2 : ¬ ((x.toNat : Int) < (y.toNat : Int)) := fun h => h1 (UInt8.lt_iff_toNat_lt.2 (by omega))
      rw [if_neg h1, if_neg h2]
      by_cases h3 : y < x
      · have h4 : ((y.toNat : Int) < (x.toNat : Int)) := by have := UInt8.lt_iff_toNat_lt.1 h3; omega
        rw [if_pos h3, if_pos h4]
      · have h4 : ¬ ((y.toNat : Int) < (x.toNat : Int)) := fun h => h3 (UInt8.lt_iff_toNat_lt.2 (by omega))
        rw [if_neg h3, if_neg h4]
theorem less_lex : ∀ a b : List UInt8, Op.bytesLess a b = decide (lexI (a.map fun b => (b.toNat : Int)) (b.map fun b => (b.toNat : Int)) < 0)
  | [], [] => rfl
  | [], _ :: _ => rfl
  | _ :: _, [] => rfl
  | x :: a, y :: b => by
    have ih := less_lex a b
    unfold Op.bytesLess
    simp only [List.map_cons]
    unfold lexI
    rw [ih]
    by_cases h1 : x < y
    · have h2 : ((x.toNat : Int) < (y.toNat : Int)) := by have := UInt8.lt_iff_toNat_lt.1 h1; omega
      rw [if_pos h2]
      simp [h1]
    · have h2 : ¬ ((x.toNat : Int) < (y.toNat : Int)) := fun h => h1 (UInt8.lt_iff_toNat_lt.2 (by omega))
      rw [if_neg h2]
      by_cases h3 : y < x
      · have h4 : ((y.toNat : Int) < (x.toNat : Int)) := by have := UInt8.lt_iff_toNat_lt.1 h3; omega
        have h5 : ¬ x = y := fun e => by rw [e] at h4; omega
        rw [if_pos h4]
        simp [h1, h5]
      · have h4 : ¬ ((y.toNat : Int) < (x.toNat : Int)) := fun h => h3 (UInt8.lt_iff_toNat_lt.2 (by omega))
        have h5 : x = y := UInt8.toNat_inj.1 (by omega)
        rw [if_neg h4]
        subst h5
        simp [h1]
theorem toList_data (s : ByteArray) : s.toList = s.data.toList := by
  have := ByteArray.toList_eq (bs := s)
  exact this
theorem cmpB_less (a b : ByteArray) : Op.bytesLess a.toList b.toList = decide (cmpB a b < 0) := by
  rw [toList_data, toList_data, less_lex]
  rfl
theorem bs_inj {a b : ByteArray} (h : bs a = bs b) : a = b := by
  have : ∀ l m : List UInt8, l.map (fun b => (b.toNat : Int)) = m.map (fun b => (b.toNat : Int)) → l = m := by
    intro l
    induction l with
    | nil => intro m h; cases m with | nil => rfl | cons y m => simp at h
    | cons x l ih =>
      intro m h
      cases m with
      | nil => simp at h
      | cons y m =>
        simp only [List.map_cons, List.cons.injEq] at h
        rw [ih m h.2, show x = y from UInt8.toNat_inj.1 (by omega)]
  cases a with
  | mk da => cases b with
    | mk db =>
      have := this _ _ h
      congr 1
      exact Array.toList_inj.1 this
theorem cmpB_zero {a b : ByteArray} : cmpB a b = 0 ↔ a = b := ⟨fun h => bs_inj (lexI_eq h), fun h => by rw [h]; exact lexI_self _⟩
structure Ent where
  rep : Int
  num : Int
  sku : ByteArray
  qty : Int
structure Rec where
  sku : ByteArray
  past : Pst
def encE (e : Ent) : AVal := .agg [.int .i64 e.rep, .int .i64 e.num, .str e.sku, .int .i64 e.qty]
def encK (r : Rec) : AVal := .agg [.str r.sku, .sl 1 (encIs r.past.vec), .sl 3 (encSs r.past.cloud)]
def encEs (l : List Ent) : List AVal := l.map encE
def encKs (l : List Rec) : List AVal := l.map encK
theorem encE_stb (e : Ent) : (encE e).stb = true := rfl
theorem encK_stb (r : Rec) : (encK r).stb = true := by simp [encK, AVal.stb, stbs, encIs_stb, encSs_stb]
theorem encEs_stb (l : List Ent) : stbs (encEs l) = true := stbs_map encE_stb
theorem encKs_stb (l : List Rec) : stbs (encKs l) = true := stbs_map encK_stb
theorem stbK : (∀ e, (encE e).stb = true) ∧ (∀ r, (encK r).stb = true) ∧ (∀ l, stbs (encEs l) = true) ∧ (∀ l, stbs (encKs l) = true) := ⟨encE_stb, encK_stb, encEs_stb, encKs_stb⟩
theorem encEs_len (l : List Ent) : (encEs l).length = l.length := by simp [encEs]
theorem encKs_len (l : List Rec) : (encKs l).length = l.length := by simp [encKs]
theorem encEs_get {l : List Ent} {i : Nat} {e : Ent} (h : l[i]? = some e) : (encEs l)[i]? = some (.agg [.int .i64 e.rep, .int .i64 e.num, .str e.sku, .int .i64 e.qty]) := by simp [encEs, h, encE]
theorem encKs_get {l : List Rec} {i : Nat} {r : Rec} (h : l[i]? = some r) : (encKs l)[i]? = some (.agg [.str r.sku, .sl 1 (encIs r.past.vec), .sl 3 (encSs r.past.cloud)]) := by simp [encKs, h, encK]
theorem encEs_snoc (l : List Ent) (a b : Int) (s : ByteArray) (q : Int) : encEs l ++ [.agg [.int .i64 a, .int .i64 b, .str s, .int .i64 q]] = encEs (l ++ [⟨a, b, s, q⟩]) := by simp [encEs, encE]
theorem encKs_snoc (l : List Rec) (s : ByteArray) (v : List Int) (c : List Sn) : encKs l ++ [.agg [.str s, .sl 1 (encIs v), .sl 3 (encSs c)]] = encKs (l ++ [⟨s, ⟨v, c⟩⟩]) := by simp [encKs, encK]
def dotLt (a b : Rn) : Bool := decide (a.1 < b.1) || (decide (a.1 = b.1) && decide (a.2 < b.2))
def Ent.dot (e : Ent) : Rn := (e.rep, e.num)
def entErr (e : Ent) : Int := if e.rep < 0 ∨ 16 ≤ e.rep then 3 else if e.num < 1 ∨ 1000000000 < e.num then 2 else if goodS e.sku = false then 5 else if e.qty < 1 ∨ 1000000 < e.qty then 6 else 0
def FormE (l : List Ent) : Prop := (∀ (i : Nat) e, l[i]? = some e → entErr e = 0) ∧ ∀ (i : Nat) a b, l[i]? = some a → l[i + 1]? = some b → dotLt a.dot b.dot = true
open Classical in
noncomputable def formE (l : List Ent) : Bool := decide (FormE l)
theorem formE_true {l : List Ent} (h : FormE l) : formE l = true := by classical exact decide_eq_true h
theorem formE_false {l : List Ent} (h : ¬ FormE l) : formE l = false := by classical exact decide_eq_false h
def cmpR (a b : Rec) : Int := if cmpB a.sku b.sku = 0 then cmpP a.past b.past else cmpB a.sku b.sku
def recErr (r : Rec) : Int := if ¬ r.sku.size = 0 ∧ goodS r.sku = false then 5 else if isNormP r.past = false ∨ sizeP r.past = 0 then 1 else 0
def FormK (l : List Rec) : Prop := (∀ (i : Nat) r, l[i]? = some r → recErr r = 0) ∧ ∀ (i : Nat) a b, l[i]? = some a → l[i + 1]? = some b → cmpR a b < 0
open Classical in
noncomputable def formK (l : List Rec) : Bool := decide (FormK l)
theorem formK_true {l : List Rec} (h : FormK l) : formK l = true := by classical exact decide_eq_true h
theorem formK_false {l : List Rec} (h : ¬ FormK l) : formK l = false := by classical exact decide_eq_false h
theorem formK_iff {l : List Rec} : formK l = true ↔ FormK l := by classical exact decide_eq_true_iff
def wtK (r : Rec) : Nat := wt r.past + 1
def wtKs (l : List Rec) : Nat := (l.map wtK).sum
theorem wtK_le {l : List Rec} {r : Rec} (h : r ∈ l) : wtK r ≤ wtKs l := by
  unfold wtKs
  obtain ⟨i, hi, rfl⟩ := List.getElem_of_mem h
  have := sum_get (l.map wtK) i
  simpa [List.getD_eq_getElem?_getD, hi] using this
theorem wtKs_len (l : List Rec) : l.length ≤ wtKs l := by
  induction l with
  | nil => exact Nat.zero_le _
  | cons r l ih =>
    unfold wtKs at *
    simp only [List.map_cons, List.sum_cons, List.length_cons, wtK]
    omega

def odd (n : Nat) : Bool := decide (n % 2 = 1)
theorem odd_iff (n : Nat) : odd n = true ↔ n % 2 = 1 := by simp [odd]
structure CbI (a b : List Int) (f : Bool → Bool → Bool) (i j : Nat) (v : Bool) (t : List Int) : Prop where
  hi : i ≤ a.length
  hj : j ≤ b.length
  sa : ∀ x ∈ t, ∀ y ∈ a.drop i, x < y
  sb : ∀ x ∈ t, ∀ y ∈ b.drop j, x < y
  ab : ∀ x ∈ a.take i, ∀ y ∈ b.drop j, x < y
  ba : ∀ x ∈ b.take j, ∀ y ∈ a.drop i, x < y
  rise : t.Pairwise (fun x y => x < y)
  val : v = f (odd i) (odd j)
  len : odd t.length = v
  le : t.length ≤ i + j
  mem : ∀ m, odd (cnt t m) = f (odd (cnt (a.take i) m)) (odd (cnt (b.take j) m))
theorem CbI.start {a b : List Int} {f : Bool → Bool → Bool} (hf : f false false = false) : CbI a b f 0 0 false [] := by
  refine ⟨Nat.zero_le _, Nat.zero_le _, by simp, by simp, by simp, by simp, .nil, by simp [odd, hf], rfl, Nat.le_refl _, fun m => ?_⟩
  simp [cnt_nil, odd, hf]
theorem CbI.done {a b : List Int} {f : Bool → Bool → Bool} {v : Bool} {t : List Int} (h : CbI a b f a.length b.length v t) (hf : f false false = false) {p q : Int → Prop} (ha : Turns p a) (hb : Turns q b) (r : Int → Prop)
    (hr : ∀ m, r m ↔ f (odd (cnt a m)) (odd (cnt b m)) = true) : Turns r t := by
  refine ⟨h.rise, ?_, fun m => ?_⟩
  · have h1 := h.val
    have e1 : odd a.length = false := by have := ha.even; simp [odd]; omega
    have e2 : odd b.length = false := by have := hb.even; simp [odd]; omega
    rw [e1, e2, hf] at h1
    have := h.len
    rw [h1] at this
    simp [odd] at this
    omega
  · rw [hr, ← odd_iff, h.mem m, List.take_length, List.take_length]



structure CbS where
  i : Nat
  j : Nat
  v : Bool
  t : List Int

def r_k109_1 : List SOp := [⟨some 1,.box 105 (.tmp 0),none⟩,⟨some 2,.alloc 27,none⟩]
instance : Live r_k109_1 := ⟨[0]⟩
def r_k109_2 : List SOp := [⟨some 3,.alloc 27,none⟩]
instance : Live r_k109_2 := ⟨[1,2]⟩
def r_k109_3 : List SOp := [⟨some 8,.makeSlice 24 (.const (.int .i64 16)) (.const (.int .i64 16)),none⟩,⟨some 4,.assign (.tmp 8),none⟩]
instance : Live r_k109_3 := ⟨[1,2,3]⟩
def r_k109_4 : List SOp := [⟨some 5,.assign (.const (.int .i64 0)),none⟩]
instance : Live r_k109_4 := ⟨[1,2,3,4]⟩
def r_k109_5 : List SOp := [⟨some 6,.assign (.const (.int .i64 0)),none⟩]
instance : Live r_k109_5 := ⟨[1,2,3,4,5]⟩
def r_k109_6 : List SOp := [⟨some 9,.move (.tmp 6),none⟩,⟨some 10,.binOp .lss 3 (.tmp 9) (.const (.int .i64 16)) 3,none⟩]
instance : Live r_k109_6 := ⟨[1,2,3,4,5,6]⟩
def r_k109_7 : List SOp := [⟨some 7,.assign (.const (.int .i64 0)),none⟩]
instance : Live r_k109_7 := ⟨[1,2,3,4,5,6]⟩
def r_k109_8 : List SOp := [⟨some 13,.move (.tmp 7),none⟩,⟨some 14,.binOp .add 3 (.tmp 13) (.const (.int .i64 1)) 3,none⟩,⟨some 15,.move (.tmp 6),none⟩,⟨some 16,.fieldAddr 105 (.tmp 1) 0,none⟩,⟨some 17,.indexAddr 103 (.tmp 16) (.tmp 15),none⟩,⟨some 18,.load 24 (.tmp 17),none⟩,⟨some 19,.call ⟨.builtin .len,#[.tmp 18],#[24]⟩,none⟩,⟨some 20,.binOp .lss 3 (.tmp 14) (.tmp 19) 3,none⟩]
instance : Live r_k109_8 := ⟨[1,2,3,4,5,6,7]⟩
def r_k109_9 : List SOp := [⟨some 23,.move (.tmp 6),none⟩,⟨some 24,.fieldAddr 105 (.tmp 1) 0,none⟩,⟨some 25,.indexAddr 103 (.tmp 24) (.tmp 23),none⟩,⟨some 26,.load 24 (.tmp 25),none⟩,⟨some 27,.move (.tmp 7),none⟩,⟨some 28,.indexAddr 24 (.tmp 26) (.tmp 27),none⟩,⟨some 29,.load 3 (.tmp 28),none⟩,⟨some 30,.binOp .eql 3 (.tmp 29) (.const (.int .i64 1)) 3,none⟩]
instance : Live r_k109_9 := ⟨[1,2,3,4,5,6,7]⟩
def r_k109_10 : List SOp := [⟨some 31,.move (.tmp 4),none⟩,⟨some 32,.move (.tmp 6),none⟩,⟨some 33,.move (.tmp 6),none⟩,⟨some 34,.fieldAddr 105 (.tmp 1) 0,none⟩,⟨some 35,.indexAddr 103 (.tmp 34) (.tmp 33),none⟩,⟨some 36,.load 24 (.tmp 35),none⟩,⟨some 37,.move (.tmp 7),none⟩,⟨some 38,.binOp .add 3 (.tmp 37) (.const (.int .i64 1)) 3,none⟩,⟨some 39,.indexAddr 24 (.tmp 36) (.tmp 38),none⟩,⟨some 40,.load 3 (.tmp 39),none⟩,⟨some 41,.binOp .sub 3 (.tmp 40) (.const (.int .i64 1)) 3,none⟩,⟨some 42,.indexAddr 24 (.tmp 31) (.tmp 32),none⟩,⟨none,.store 3 (.tmp 42) (.tmp 41),none⟩]
instance : Live r_k109_10 := ⟨[1,2,3,4,6,7]⟩
def r_k109_11 : List SOp := [⟨some 43,.move (.tmp 6),none⟩,⟨some 44,.binOp .add 3 (.tmp 43) (.const (.int .i64 1)) 3,none⟩,⟨some 5,.assign (.tmp 44),none⟩]
instance : Live r_k109_11 := ⟨[1,2,3,4,6,7]⟩
def r_k109_12 : List SOp := [⟨some 45,.fieldAddr 27 (.tmp 3) 1,none⟩,⟨some 46,.load 25 (.tmp 45),none⟩,⟨some 47,.move (.tmp 6),none⟩,⟨some 48,.move (.tmp 6),none⟩,⟨some 49,.fieldAddr 105 (.tmp 1) 0,none⟩,⟨some 50,.indexAddr 103 (.tmp 49) (.tmp 48),none⟩,⟨some 51,.load 24 (.tmp 50),none⟩,⟨some 52,.move (.tmp 7),none⟩,⟨some 53,.indexAddr 24 (.tmp 51) (.tmp 52),none⟩,⟨some 54,.load 3 (.tmp 53),none⟩,⟨some 55,.move (.tmp 6),none⟩,⟨some 56,.fieldAddr 105 (.tmp 1) 0,none⟩,⟨some 57,.indexAddr 103 (.tmp 56) (.tmp 55),none⟩,⟨some 58,.load 24 (.tmp 57),none⟩,⟨some 59,.move (.tmp 7),none⟩,⟨some 60,.binOp .add 3 (.tmp 59) (.const (.int .i64 1)) 3,none⟩,⟨some 61,.indexAddr 24 (.tmp 58) (.tmp 60),none⟩,⟨some 62,.load 3 (.tmp 61),none⟩,⟨some 63,.binOp .sub 3 (.tmp 62) (.const (.int .i64 1)) 3,none⟩,⟨some 64,.build 89 #[(0,.tmp 47),(1,.tmp 54),(2,.tmp 63)],none⟩,⟨some 65,.buildSlice 25 1 #[(0,.tmp 64)],none⟩,⟨some 66,.call ⟨.builtin .append,#[.tmp 46,.tmp 65],#[25,25]⟩,none⟩,⟨some 67,.fieldAddr 27 (.tmp 3) 1,none⟩,⟨none,.store 25 (.tmp 67) (.tmp 66),none⟩]
instance : Live r_k109_12 := ⟨[1,2,3,4,5,6,7]⟩
instance : Rd r_k109_12 := ⟨fun j => j == 1⟩
def r_k109_13 : List SOp := [⟨some 21,.move (.tmp 7),none⟩,⟨some 22,.binOp .add 3 (.tmp 21) (.const (.int .i64 2)) 3,none⟩,⟨some 7,.assign (.tmp 22),none⟩]
instance : Live r_k109_13 := ⟨[1,2,3,4,5,6,7]⟩
def r_k109_14 : List SOp := [⟨some 11,.move (.tmp 6),none⟩,⟨some 12,.binOp .add 3 (.tmp 11) (.const (.int .i64 1)) 3,none⟩,⟨some 6,.assign (.tmp 12),none⟩]
instance : Live r_k109_14 := ⟨[1,2,3,4,5,6]⟩
def r_k109_15 : List SOp := [⟨some 68,.move (.tmp 4),none⟩,⟨some 69,.move (.tmp 5),none⟩,⟨some 70,.slice 24 (.tmp 68) none (some (.tmp 69)) none,none⟩,⟨some 71,.fieldAddr 27 (.tmp 3) 0,none⟩,⟨none,.store 24 (.tmp 71) (.tmp 70),none⟩]
instance : Live r_k109_15 := ⟨[2,3,4,5]⟩
def r_k109_16 : List SOp := [⟨some 72,.load 27 (.tmp 3),none⟩,⟨none,.store 27 (.tmp 2) (.tmp 72),none⟩]
instance : Live r_k109_16 := ⟨[2,3]⟩
def t_k109_l2 : SC :=
  (.seq (.seq (.ops false r_k109_8) (.cond (.tmp 20) .skip (.exit 2))) (.seq (.block 3 (.seq (.ops false r_k109_9) (.cond (.tmp 30) (.seq (.ops false r_k109_10) (.ops false r_k109_11)) (.opsW [46] r_k109_12)))) (.ops false r_k109_13)))
def t_k109_l1 : SC :=
  (.seq (.seq (.ops false r_k109_6) (.cond (.tmp 10) .skip (.exit 0))) (.seq (.block 1 (.seq (.ops false r_k109_7) (.block 2 (.loop t_k109_l2)))) (.ops false r_k109_14)))
def t_k109 : SC :=
  (.seq (.ops false r_k109_1) (.seq (.ops false r_k109_2) (.seq (.ops false r_k109_3) (.seq (.ops false r_k109_4) (.seq (.seq (.ops false r_k109_5) (.block 0 (.loop t_k109_l1))) (.seq (.ops false r_k109_15) (.seq (.ops false r_k109_16) .ret)))))))
theorem it_k109 : FnIs Tryz.prog 109 73 [.cell 2 27] t_k109 := ⟨Tryz.f109, _, Tryz.func109, rfl, rfl, rfl, rfl, by kernel_rfl⟩

def rowF (t : Tab) (r c : Nat) : List Sn := cloudT t r ++ ((leadOf ((normR (t.getD r [])).take c)).2).map (spanOf r)
theorem rowF_zero (t : Tab) (r : Nat) : rowF t r 0 = cloudT t r := by simp [rowF, leadOf]
theorem rowF_all (t : Tab) (r : Nat) : rowF t r (normR (t.getD r [])).length = cloudT t (r + 1) := by
  unfold rowF
  rw [cloudT_succ, List.take_length]
  rfl
theorem rowF_first {t : Tab} {r : Nat} {x : Rn} (hx : (normR (t.getD r []))[0]? = some x) (h : x.1 = 1) : rowF t r 1 = rowF t r 0 := by
  unfold rowF
  rw [List.take_add_one, hx]
  simp [leadOf, h]
theorem rowF_succ {t : Tab} {r c : Nat} {x : Rn} (hx : (normR (t.getD r []))[c]? = some x) (h : x.1 ≠ 1) : rowF t r (c + 1) = rowF t r c ++ [((r : Int), x.1, x.2)] := by
  unfold rowF
  rw [List.take_add_one, hx, List.append_assoc]
  congr 1
  cases c with
  | zero => simp [leadOf, h, spanOf]
  | succ c =>
    cases hm : normR (t.getD r []) with
    | nil => rw [hm] at hx; simp at hx
    | cons y l =>
      rw [hm] at hx
      simp only [List.take_succ_cons, List.cons_append, leadOf]
      simp only [Option.toList]
      split <;> simp [spanOf]
theorem rowF_len (t : Tab) (r c : Nat) : (rowF t r c).length ≤ (cloudT t r).length + (normR (t.getD r [])).length := by
  have h1 := leadOf_len ((normR (t.getD r [])).take c)
  unfold rowF
  rw [List.length_append, List.length_map]
  rw [List.length_take] at h1
  omega
theorem turns_at {m : List Rn} {c : Nat} {x : Rn} (h : m[c]? = some x) : (turnsC m)[2 * c]? = some x.1 ∧ (turnsC m)[2 * c + 1]? = some (x.2 + 1) := by
  induction m generalizing c with
  | nil => simp at h
  | cons y m ih =>
    rw [turnsC_cons]
    cases c with
    | zero => simp at h; subst h; exact ⟨rfl, rfl⟩
    | succ c =>
      have := ih (c := c) (by simpa using h)
      exact ⟨by simpa [Nat.mul_add] using this.1, by simpa [Nat.mul_add] using this.2⟩
theorem can_later {m : List Rn} (h : Can m) {c : Nat} {x : Rn} (hx : m[c + 1]? = some x) : x.1 ≠ 1 := by
  cases m with
  | nil => simp at hx
  | cons y m =>
    have hy := (Can.cons_iff.1 h)
    have hm : x ∈ m := List.mem_of_getElem? (by simpa using hx)
    have h1 := hy.2.1 x hm
    have h2 := hy.1
    unfold sepR at h1
    unfold okR at h2
    omega
theorem vecU_same {t : Tab} {r : Nat} (hr : r < 16) (h : leadT t r = 0) : vecU t (r + 1) = vecU t r := by
  unfold vecU
  rw [leadsT_succ, h, List.append_assoc, show 16 - r = (16 - (r + 1)) + 1 by omega, List.replicate_succ]
  rfl
def szF (t : Tab) (r : Nat) : Nat → Nat
  | 0 => sizeT t r
  | _ + 1 => sizeT t (r + 1)
def vcF (t : Tab) (r : Nat) : Nat → List Int
  | 0 => vecU t r
  | _ + 1 => vecU t (r + 1)
theorem ev_k109 (t : Tab) {n : Nat} (ht : TabLe t n) (hn : n ≤ 50000000) : Ev (En Tryz.prog rfl).P 109 [.agg (encSet (t.map turnsR))] (.ret (encP (pastT t))) := by
  refine Ev.of_body it_k109 (by simp) (Run.start ?_)
  unfold t_k109
  have h16 : (encSet (t.map turnsR)).length = 16 := by simp [encSet, ht.1]
  have hone := encSet_one (t.map turnsR)
  have hst := encSet_stb (t.map turnsR)
  (focus (have hF := (And.intro @h16 @hone); (repeat' (first | refine go1 (k:=?_) | with_reducible refine Ny.of ?_ ?_ | (refine Hyp.of ?_; intro hc; (try simp only [hc]); (try simp only [Bh] at hc)))); all_goals clear hF))
  refine Run.wk (Wk.own_cells (k := 3) (cs' := [.nil, .own 3 []]) rfl rfl ?_) ?_
  · intro i x y hx hy
    match i with
    | 0 => simp at hx hy; subst hx; subst hy; exact .inl rfl
    | 1 => simp at hx hy; subst hx; subst hy; exact .inr ⟨rfl, 3, rfl⟩
    | i + 2 => simp at hx
  refine Run.while (σ := Nat) (fun r => ⟨tms [(1, .ptr 1 0), (2, .ptr 2 0), (3, .ptr 3 0), (4, .os 8 0), (5, .int .i64 (sizeT t r)), (6, .int .i64 r)], mms [(1, .cells (encSet (t.map turnsR))), (2, .cells [.nil, .nil]), (3, .cells [.nil, .own 3 (encSs (cloudT t r))]), (8, .arr 0 1 (encIs (vecU t r)))]⟩)
    (fun r => r ≤ 16) (fun r => 16 - r) 0 (have hW := @hst; stWk) (Nat.zero_le _) ?_
  intro r hr
  have g0 : (encIs (vecU t r)).length = 16 := by rw [encIs_len, vecU_len t hr]
  have hsz := sizeT_le t r
  unfold t_k109_l1
  by_cases hlt : r < 16
  · have hrt : r < t.length := by rw [ht.1]; exact hlt
    have hq := ht.2 r
    have g1 : (encSet (t.map turnsR))[r]? = some (.sl 1 (encIs (turnsC (normR (t.getD r []))))) := by
      rw [encSet_get (by rw [List.length_map]; exact hrt)]
      simp [List.getD_eq_getElem?_getD, hrt, turnsR]
    have hml := normR_len (t.getD r [])
    have hcan := normR_can (t.getD r [])
    have hcl := cloudT_len ht r
    have hcl2 : r * n ≤ 16 * n := Nat.mul_le_mul_right n hr
    have f1 := rowF_zero t r
    have f2 := rowF_all t r
    have f3 := fun c x => @rowF_succ t r c x
    have f4 := fun x => @rowF_first t r x
    have f5 := rowF_len t r
    have hlead : leadT t r = (leadOf (normR (t.getD r []))).1 := rfl
    have hs1 := sizeT_succ t r
    have hv1 := vecU_set t hlt
    have hv2 := vecU_get t hlt
    have hl0 := leadOf_can hcan
    generalize hmr : normR (t.getD r []) = m at g1 hml hcan f2 f3 f4 f5 hlead hl0
    have g2 : (encIs (turnsC m)).length = 2 * m.length := by rw [encIs_len, turnsC_len]
    have hz0 : (leadOf m).1 = 0 → sizeT t (r + 1) = sizeT t r ∧ vecU t (r + 1) = vecU t r := fun h => ⟨by rw [hs1, hlead, h]; rfl, vecU_same hlt (by rw [hlead, h])⟩
    (focus (have hF := (And.intro @h16 (And.intro @hone @g0)); (repeat' (first | refine go1 (k:=?_) | with_reducible refine Ny.of ?_ ?_ | (refine Hyp.of ?_; intro hc; (try simp only [hc]); (try simp only [Bh] at hc)))); all_goals clear hF))
    refine Run.while (σ := Nat) (fun c => ⟨tms [(1, .ptr 1 0), (2, .ptr 2 0), (3, .ptr 3 0), (4, .os 8 0), (5, .int .i64 (szF t r c)), (6, .int .i64 r), (7, .int .i64 (2 * c : Nat))], mms [(1, .cells (encSet (t.map turnsR))), (2, .cells [.nil, .nil]), (3, .cells [.nil, .own 3 (encSs (rowF t r c))]), (8, .arr 0 1 (encIs (vcF t r c)))]⟩)
      (fun c => c ≤ m.length) (fun c => m.length - c) 0 (have hW := (And.intro @hst @f1); stWk) (Nat.zero_le _) ?_
    intro c hc
    have gv : (encIs (vcF t r c)).length = 16 := by
      rw [encIs_len]
      cases c with
      | zero => exact vecU_len t hr
      | succ c => exact vecU_len t hlt
    have hsz2 : szF t r c ≤ r + 1 := by
      cases c with
      | zero => show sizeT t r ≤ _; omega
      | succ c => exact sizeT_le t (r + 1)
    unfold t_k109_l2
    by_cases hcl3 : c < m.length
    · obtain ⟨x, hx⟩ : ∃ x, m[c]? = some x := ⟨m[c], by simp [hcl3]⟩
      have ⟨k1, k2⟩ := turns_at hx
      have k1' : (encIs (turnsC m))[2 * c]? = some (.int .i64 x.1) := encIs_get k1
      have k2' : (encIs (turnsC m))[2 * c + 1]? = some (.int .i64 (x.2 + 1)) := encIs_get k2
      have hxr := hcan.2 x (List.mem_of_getElem? hx)
      unfold okR at hxr
      have hfl := f5 c
      have e8 : ((2 * c : Nat) : Int) + 1 = ((2 * c + 1 : Nat) : Int) := by omega
      have e9 : ((2 * c : Nat) : Int) + 2 = ((2 * (c + 1) : Nat) : Int) := by omega
      have e7 : IntKind.i64.wrap (x.2 + 1 - 1) = x.2 := by rw [wrap_ok (by omega)]; omega
      by_cases h1 : x.1 = 1
      · have hc0 : c = 0 := by
          cases c with
          | zero => rfl
          | succ c => exact absurd h1 (can_later hcan hx)
        have h5 : leadT t r = x.2 := by
          subst hc0
          rw [hlead]
          cases m with
          | nil => simp at hx
          | cons y m => simp at hx; subst hx; rw [leadOf_1 h1]
        have h6 : rowF t r (c + 1) = rowF t r c := by subst hc0; exact f4 x hx h1
        have h8 : szF t r (c + 1) = r + 1 := by show sizeT t (r + 1) = r + 1; rw [hs1, if_pos (by omega)]
        rw [h5] at hv1
        have h9 : (encIs (vcF t r c)).set r (.int .i64 x.2) = encIs (vcF t r (c + 1)) := by subst hc0; exact hv1
        have h10 : (encIs (vcF t r c))[r]? = some (.int .i64 0) := by subst hc0; exact hv2
        generalize szF t r c = sz at hsz2 ⊢
        (focus (have hF := (And.intro (And.intro (And.intro @h16 (And.intro @hone @gv)) (And.intro @g1 (And.intro @g2 @k1'))) (And.intro (And.intro @k2' (And.intro @h9 @h10)) (And.intro (And.intro @e7 @e8) (And.intro @e9 @h1)))); (repeat' (first | refine go1 (k:=?_) | with_reducible refine Ny.of ?_ ?_ | (refine Hyp.of ?_; intro hc; (try simp only [hc]); (try simp only [Bh] at hc)))); all_goals clear hF))
        (refine Fin.nextW (c + 1) ?_ (have hW := (And.intro (And.intro @hst @h6) (And.intro @h8 @h9)); stWk); (try dsimp only))
        omega
      · have h6 := f3 c x hx h1
        have h8 : szF t r (c + 1) = szF t r c ∧ vcF t r (c + 1) = vcF t r c := by
          cases c with
          | zero =>
            refine hz0 ?_
            cases m with
            | nil => simp at hx
            | cons y m => simp at hx; subst hx; rw [leadOf_2 h1]
          | succ c => exact ⟨rfl, rfl⟩
        obtain ⟨h8, h9⟩ := h8
        generalize rowF t r c = cl at h6 hfl ⊢
        have k3 := encSs_len cl
        (focus (have hF := (And.intro (And.intro (And.intro @h16 (And.intro @hone @gv)) (And.intro @g1 (And.intro @g2 @k1'))) (And.intro (And.intro @k2' (And.intro @e7 @e8)) (And.intro @e9 (And.intro @k3 @encSs_snoc)))); (repeat' (first | refine go1 (k:=?_) | with_reducible refine Ny.of ?_ ?_ | (refine Hyp.of ?_; intro hc; (try simp only [hc]); (try simp only [Bh] at hc)))); all_goals clear hF))
        ((with_reducible apply toW); refine stW (fun j => j == 1) (k:=?_))
        (focus (have hF := (And.intro (And.intro (And.intro @h16 (And.intro @hone @gv)) (And.intro @g1 (And.intro @g2 @k1'))) (And.intro (And.intro @k2' (And.intro @e7 @e8)) (And.intro @e9 (And.intro @k3 @encSs_snoc)))); (repeat' (first | refine go1 (k:=?_) | with_reducible refine Ny.of ?_ ?_ | (refine Hyp.of ?_; intro hc; (try simp only [hc]); (try simp only [Bh] at hc)))); all_goals clear hF))
        (refine Fin.nextW (c + 1) ?_ (have hW := (And.intro (And.intro @hst @h6) (And.intro @h8 @h9)); stWk); (try dsimp only))
        omega
    · have hce : c = m.length := by omega
      subst hce
      rw [f2]
      have h8 : szF t r m.length = sizeT t (r + 1) ∧ vcF t r m.length = vecU t (r + 1) := by
        cases m with
        | nil => have := hz0 rfl; exact ⟨this.1.symm, this.2.symm⟩
        | cons y m => exact ⟨rfl, rfl⟩
      rw [h8.1, h8.2] at *
      (focus (have hF := (And.intro (And.intro @h16 @hone) (And.intro @gv (And.intro @g1 @g2))); (repeat' (first | refine go1 (k:=?_) | with_reducible refine Ny.of ?_ ?_ | (refine Hyp.of ?_; intro hc; (try simp only [hc]); (try simp only [Bh] at hc)))); all_goals clear hF))
      (refine Fin.nextW (r + 1) ?_ (have hW := @hst; stWk); (try dsimp only))
      omega
  · have hre : r = 16 := by omega
    subst hre
    have hv : vecU t 16 = leadsT t 16 := by simp [vecU]
    rw [hv] at g0 ⊢
    have hll := leadsT_len t 16
    have hlz : ((leadsT t 16).take (sizeT t 16)).length ≤ 16 := by rw [List.length_take]; omega
    have hres : pastT t = ⟨(leadsT t 16).take (sizeT t 16), cloudT t 16⟩ := rfl
    rw [hres]
    refine Run.wk (Wk.freeze (k := 3) (cs := [.nil, .own 3 (encSs (cloudT t 16))]) rfl) ?_
    refine Run.wk (s' := ⟨tms [(2, .ptr 2 0), (3, .ptr 3 0), (4, .os 8 0), (5, .int .i64 (sizeT t 16)), (6, .int .i64 16)], mms [(2, .cells [.nil, .nil]), (3, .cells [.nil, .sl 3 (encSs (cloudT t 16))]), (8, .arr 0 1 (encIs (leadsT t 16)))]⟩) (have hW := @hst; stWk) ?_
    (focus (have hF := (And.intro @g0 @encIs_take); (repeat' (first | refine go1 (k:=?_) | with_reducible refine Ny.of ?_ ?_ | (refine Hyp.of ?_; intro hc; (try simp only [hc]); (try simp only [Bh] at hc)))); all_goals clear hF))
    exact Fin.all rfl (by simp [stbs, AVal.stb, encIs_stb, encSs_stb, fzc, allK]) rfl


def r_k157_1 : List SOp := [⟨some 4,.assign (.const (.slice none 0 0)),none⟩]
instance : Live r_k157_1 := ⟨[0,1]⟩
def r_k157_2 : List SOp := [⟨some 11,.move (.tmp 0),none⟩,⟨some 12,.call ⟨.value (.func 159),#[.tmp 11],#[118]⟩,none⟩,⟨some 13,.move (.tmp 1),none⟩,⟨some 14,.call ⟨.value (.func 159),#[.tmp 13],#[118]⟩,none⟩,⟨some 5,.assign (.tmp 12),none⟩,⟨some 6,.assign (.tmp 14),none⟩]
instance : Live r_k157_2 := ⟨[0,1]⟩
def r_k157_3 : List SOp := [⟨some 7,.assign (.const (.slice none 0 0)),none⟩]
instance : Live r_k157_3 := ⟨[5,6]⟩
def r_k157_4 : List SOp := [⟨some 8,.assign (.const (.int .i64 0)),none⟩,⟨some 9,.assign (.const (.int .i64 0)),none⟩]
instance : Live r_k157_4 := ⟨[5,6,7]⟩
def r_k157_5 : List SOp := [⟨some 15,.move (.tmp 8),none⟩,⟨some 16,.move (.tmp 5),none⟩,⟨some 17,.call ⟨.builtin .len,#[.tmp 16],#[118]⟩,none⟩,⟨some 18,.binOp .lss 3 (.tmp 15) (.tmp 17) 3,none⟩,⟨some 19,.move (.tmp 18),none⟩,⟨some 20,.move (.tmp 9),some ((some 19),true)⟩,⟨some 21,.move (.tmp 6),some ((some 19),true)⟩,⟨some 22,.call ⟨.builtin .len,#[.tmp 21],#[118]⟩,some ((some 19),true)⟩,⟨some 23,.binOp .lss 3 (.tmp 20) (.tmp 22) 3,some ((some 19),true)⟩,⟨some 24,.pick (.tmp 19) (.tmp 23) (.const (.bool false)),none⟩]
instance : Live r_k157_5 := ⟨[5,6,7,8,9]⟩
def r_k157_6 : List SOp := [⟨some 25,.move (.tmp 5),none⟩,⟨some 26,.move (.tmp 8),none⟩,⟨some 27,.indexAddr 118 (.tmp 25) (.tmp 26),none⟩,⟨some 28,.fieldAddr 150 (.tmp 27) 0,none⟩,⟨some 29,.load 3 (.tmp 28),none⟩,⟨some 30,.move (.tmp 6),none⟩,⟨some 31,.move (.tmp 9),none⟩,⟨some 32,.indexAddr 118 (.tmp 30) (.tmp 31),none⟩,⟨some 33,.fieldAddr 150 (.tmp 32) 0,none⟩,⟨some 34,.load 3 (.tmp 33),none⟩,⟨some 35,.call ⟨.builtin .max,#[.tmp 29,.tmp 34],#[3,3]⟩,none⟩,⟨some 36,.move (.tmp 5),none⟩,⟨some 37,.move (.tmp 8),none⟩,⟨some 38,.indexAddr 118 (.tmp 36) (.tmp 37),none⟩,⟨some 39,.fieldAddr 150 (.tmp 38) 1,none⟩,⟨some 40,.load 3 (.tmp 39),none⟩,⟨some 41,.move (.tmp 6),none⟩,⟨some 42,.move (.tmp 9),none⟩,⟨some 43,.indexAddr 118 (.tmp 41) (.tmp 42),none⟩,⟨some 44,.fieldAddr 150 (.tmp 43) 1,none⟩,⟨some 45,.load 3 (.tmp 44),none⟩,⟨some 46,.call ⟨.builtin .min,#[.tmp 40,.tmp 45],#[3,3]⟩,none⟩,⟨some 47,.build 150 #[(0,.tmp 35),(1,.tmp 46)],none⟩,⟨some 10,.alloc 150,none⟩,⟨none,.store 150 (.tmp 10) (.tmp 47),none⟩]
instance : Live r_k157_6 := ⟨[5,6,7,8,9]⟩
def r_k157_7 : List SOp := [⟨some 48,.fieldAddr 150 (.tmp 10) 0,none⟩,⟨some 49,.load 3 (.tmp 48),none⟩,⟨some 50,.fieldAddr 150 (.tmp 10) 1,none⟩,⟨some 51,.load 3 (.tmp 50),none⟩,⟨some 52,.binOp .leq 3 (.tmp 49) (.tmp 51) 3,none⟩]
instance : Live r_k157_7 := ⟨[5,6,7,8,9,10]⟩
def r_k157_8 : List SOp := [⟨some 53,.move (.tmp 7),none⟩,⟨some 54,.load 150 (.tmp 10),none⟩,⟨some 55,.buildSlice 118 1 #[(0,.tmp 54)],none⟩,⟨some 56,.call ⟨.builtin .append,#[.tmp 53,.tmp 55],#[118,118]⟩,none⟩,⟨some 7,.assign (.tmp 56),none⟩]
instance : Live r_k157_8 := ⟨[5,6,7,8,9,10]⟩
def r_k157_9 : List SOp := [⟨some 57,.move (.tmp 5),none⟩,⟨some 58,.move (.tmp 8),none⟩,⟨some 59,.indexAddr 118 (.tmp 57) (.tmp 58),none⟩,⟨some 60,.fieldAddr 150 (.tmp 59) 1,none⟩,⟨some 61,.load 3 (.tmp 60),none⟩,⟨some 62,.move (.tmp 6),none⟩,⟨some 63,.move (.tmp 9),none⟩,⟨some 64,.indexAddr 118 (.tmp 62) (.tmp 63),none⟩,⟨some 65,.fieldAddr 150 (.tmp 64) 1,none⟩,⟨some 66,.load 3 (.tmp 65),none⟩,⟨some 67,.binOp .lss 3 (.tmp 61) (.tmp 66) 3,none⟩]
instance : Live r_k157_9 := ⟨[5,6,7,8,9]⟩
def r_k157_10 : List SOp := [⟨some 68,.move (.tmp 8),none⟩,⟨some 69,.binOp .add 3 (.tmp 68) (.const (.int .i64 1)) 3,none⟩,⟨some 8,.assign (.tmp 69),none⟩]
instance : Live r_k157_10 := ⟨[5,6,7,8,9]⟩
def r_k157_11 : List SOp := [⟨some 70,.move (.tmp 9),none⟩,⟨some 71,.binOp .add 3 (.tmp 70) (.const (.int .i64 1)) 3,none⟩,⟨some 9,.assign (.tmp 71),none⟩]
instance : Live r_k157_11 := ⟨[5,6,7,8,9]⟩
def r_k157_12 : List SOp := [⟨some 72,.move (.tmp 7),none⟩,⟨some 4,.assign (.tmp 72),none⟩]
instance : Live r_k157_12 := ⟨[7]⟩
def t_k157_l1 : SC :=
  (.seq (.seq (.ops false r_k157_5) (.cond (.tmp 24) .skip (.exit 0))) (.block 1 (.seq (.ops true r_k157_6) (.seq (.seq (.ops false r_k157_7) (.cond (.tmp 52) (.ops false r_k157_8) .skip)) (.seq (.ops true r_k157_9) (.cond (.tmp 67) (.ops false r_k157_10) (.ops false r_k157_11)))))))
def t_k157 : SC :=
  (.seq (.ops false r_k157_1) (.seq (.ops false r_k157_2) (.seq (.ops false r_k157_3) (.seq (.seq (.ops false r_k157_4) (.block 0 (.loop t_k157_l1))) (.seq (.ops false r_k157_12) .ret)))))
theorem it_k157 : FnIs Tryz.prog 157 73 [.tmp 4] t_k157 := ⟨Tryz.f157, _, Tryz.func157, rfl, rfl, rfl, rfl, by kernel_rfl⟩

def r_k158_1 : List SOp := [⟨some 2,.assign (.const (.slice none 0 0)),none⟩]
instance : Live r_k158_1 := ⟨[0]⟩
def r_k158_2 : List SOp := [⟨some 3,.assign (.const (.slice none 0 0)),none⟩]
instance : Live r_k158_2 := ⟨[0]⟩
def r_k158_3 : List SOp := [⟨some 4,.assign (.const (.int .i64 1)),none⟩]
instance : Live r_k158_3 := ⟨[0,3]⟩
def r_k158_4 : List SOp := [⟨some 7,.move (.tmp 0),none⟩,⟨some 8,.call ⟨.builtin .len,#[.tmp 7],#[118]⟩,none⟩,⟨some 9,.move (.const (.int .i64 0)),none⟩]
instance : Live r_k158_4 := ⟨[0,3,4]⟩
def r_k158_5 : List SOp := [⟨some 10,.binOp .lss 3 (.tmp 9) (.tmp 8) 3,none⟩]
instance : Live r_k158_5 := ⟨[3,4,7,8,9]⟩
def r_k158_6 : List SOp := [⟨some 11,.indexAddr 118 (.tmp 7) (.tmp 9),none⟩,⟨some 12,.load 150 (.tmp 11),none⟩,⟨some 6,.alloc 150,none⟩,⟨none,.store 150 (.tmp 6) (.tmp 12),none⟩]
instance : Live r_k158_6 := ⟨[3,4,7,8,9]⟩
def r_k158_7 : List SOp := [⟨some 13,.move (.tmp 4),none⟩,⟨some 14,.fieldAddr 150 (.tmp 6) 0,none⟩,⟨some 15,.load 3 (.tmp 14),none⟩,⟨some 16,.binOp .lss 3 (.tmp 13) (.tmp 15) 3,none⟩]
instance : Live r_k158_7 := ⟨[3,4,6,7,8,9]⟩
def r_k158_8 : List SOp := [⟨some 17,.move (.tmp 3),none⟩,⟨some 18,.move (.tmp 4),none⟩,⟨some 19,.fieldAddr 150 (.tmp 6) 0,none⟩,⟨some 20,.load 3 (.tmp 19),none⟩,⟨some 21,.binOp .sub 3 (.tmp 20) (.const (.int .i64 1)) 3,none⟩,⟨some 22,.build 150 #[(0,.tmp 18),(1,.tmp 21)],none⟩,⟨some 23,.buildSlice 118 1 #[(0,.tmp 22)],none⟩,⟨some 24,.call ⟨.builtin .append,#[.tmp 17,.tmp 23],#[118,118]⟩,none⟩,⟨some 3,.assign (.tmp 24),none⟩]
instance : Live r_k158_8 := ⟨[3,4,6,7,8,9]⟩
def r_k158_9 : List SOp := [⟨some 25,.fieldAddr 150 (.tmp 6) 1,none⟩,⟨some 26,.load 3 (.tmp 25),none⟩,⟨some 27,.binOp .add 3 (.tmp 26) (.const (.int .i64 1)) 3,none⟩,⟨some 4,.assign (.tmp 27),none⟩]
instance : Live r_k158_9 := ⟨[3,6,7,8,9]⟩
def r_k158_10 : List SOp := [⟨some 28,.binOp .add 3 (.tmp 9) (.const (.int .i64 1)) 3,none⟩,⟨some 9,.move (.tmp 28),none⟩]
instance : Live r_k158_10 := ⟨[3,4,7,8,9]⟩
def r_k158_11 : List SOp := [⟨some 29,.move (.tmp 4),none⟩,⟨some 30,.binOp .leq 3 (.tmp 29) (.const (.int .i64 1000000000)) 3,none⟩]
instance : Live r_k158_11 := ⟨[3,4]⟩
def r_k158_12 : List SOp := [⟨some 31,.move (.tmp 3),none⟩,⟨some 32,.move (.tmp 4),none⟩,⟨some 33,.build 150 #[(0,.tmp 32),(1,.const (.int .i64 1000000000))],none⟩,⟨some 34,.buildSlice 118 1 #[(0,.tmp 33)],none⟩,⟨some 35,.call ⟨.builtin .append,#[.tmp 31,.tmp 34],#[118,118]⟩,none⟩,⟨some 3,.assign (.tmp 35),none⟩]
instance : Live r_k158_12 := ⟨[3,4]⟩
def r_k158_13 : List SOp := [⟨some 36,.move (.tmp 3),none⟩,⟨some 2,.assign (.tmp 36),none⟩]
instance : Live r_k158_13 := ⟨[3]⟩
def t_k158_l1 : SC :=
  (.seq (.ops false r_k158_5) (.seq (.cond (.tmp 10) .skip (.exit 0)) (.seq (.block 1 (.seq (.ops false r_k158_6) (.seq (.seq (.ops false r_k158_7) (.cond (.tmp 16) (.ops false r_k158_8) .skip)) (.ops false r_k158_9)))) (.ops false r_k158_10))))
def t_k158 : SC :=
  (.seq (.ops false r_k158_1) (.seq (.ops false r_k158_2) (.seq (.ops false r_k158_3) (.seq (.seq (.ops false r_k158_4) (.block 0 (.loop t_k158_l1))) (.seq (.seq (.ops false r_k158_11) (.cond (.tmp 30) (.ops false r_k158_12) .skip)) (.seq (.ops false r_k158_13) .ret))))))
theorem it_k158 : FnIs Tryz.prog 158 37 [.tmp 2] t_k158 := ⟨Tryz.f158, _, Tryz.func158, rfl, rfl, rfl, rfl, by kernel_rfl⟩

def r_k123_1 : List SOp := [⟨some 4,.assign (.const (.slice none 0 0)),none⟩]
instance : Live r_k123_1 := ⟨[0,1]⟩
def r_k123_2 : List SOp := [⟨some 5,.move (.tmp 0),none⟩,⟨some 6,.move (.tmp 1),none⟩,⟨some 7,.call ⟨.value (.func 159),#[.tmp 6],#[118]⟩,none⟩,⟨some 8,.call ⟨.value (.func 158),#[.tmp 7],#[118]⟩,none⟩,⟨some 9,.call ⟨.value (.func 157),#[.tmp 5,.tmp 8],#[118,118]⟩,none⟩,⟨some 4,.assign (.tmp 9),none⟩]
instance : Live r_k123_2 := ⟨[0,1]⟩
def t_k123 : SC :=
  (.seq (.ops false r_k123_1) (.seq (.ops false r_k123_2) .ret))
theorem it_k123 : FnIs Tryz.prog 123 10 [.tmp 4] t_k123 := ⟨Tryz.f123, _, Tryz.func123, rfl, rfl, rfl, rfl, by kernel_rfl⟩

def r_k88_1 : List SOp := [⟨some 4,.assign (.const (.bool false)),none⟩]
instance : Live r_k88_1 := ⟨[0,1]⟩
def r_k88_2 : List SOp := [⟨some 5,.move (.tmp 0),none⟩,⟨some 6,.move (.tmp 1),none⟩,⟨some 7,.call ⟨.value (.func 123),#[.tmp 5,.tmp 6],#[118,118]⟩,none⟩,⟨some 8,.call ⟨.builtin .len,#[.tmp 7],#[118]⟩,none⟩,⟨some 9,.binOp .eql 3 (.tmp 8) (.const (.int .i64 0)) 3,none⟩,⟨some 4,.assign (.tmp 9),none⟩]
instance : Live r_k88_2 := ⟨[0,1]⟩
def t_k88 : SC :=
  (.seq (.ops false r_k88_1) (.seq (.ops false r_k88_2) .ret))
theorem it_k88 : FnIs Tryz.prog 88 10 [.tmp 4] t_k88 := ⟨Tryz.f88, _, Tryz.func88, rfl, rfl, rfl, rfl, by kernel_rfl⟩

def bothR (x y : Rn) : Rn := (max x.1 y.1, min x.2 y.2)
def one0 (r : Rn) : List Rn := if r.1 ≤ r.2 then [r] else []
def meetR : List Rn → List Rn → List Rn
  | [], _ => []
  | _ :: _, [] => []
  | x :: l, y :: m => one0 (bothR x y) ++ if x.2 < y.2 then meetR l (y :: m) else meetR (x :: l) m
termination_by l m => l.length + m.length
theorem meetR_nil (l : List Rn) : meetR l [] = [] := by cases l <;> simp [meetR]
theorem meetR_cons (x y : Rn) (l m : List Rn) : meetR (x :: l) (y :: m) = one0 (bothR x y) ++ if x.2 < y.2 then meetR l (y :: m) else meetR (x :: l) m := by
  conv => lhs; unfold meetR
structure MtS where
  i : Nat
  j : Nat
  o : List Rn
theorem ev_k157_of (a b x y : List Rn) (ha : Ev (En Tryz.prog rfl).P 159 [.sl 2 (encRs a)] (.ret (.sl 2 (encRs x)))) (hb : Ev (En Tryz.prog rfl).P 159 [.sl 2 (encRs b)] (.ret (.sl 2 (encRs y)))) (hx : x.length ≤ 400000000) (hy : y.length ≤ 400000000) :
    Ev (En Tryz.prog rfl).P 157 [.sl 2 (encRs a), .sl 2 (encRs b)] (.ret (.sl 2 (encRs (meetR x y)))) := by
  refine Ev.of_body it_k157 (by simp) (Run.start ?_)
  unfold t_k157
  have e1 := encRs_len x
  have e2 := encRs_len y
  (focus (have hF := True.intro; (repeat' (first | refine go1 (k:=?_) | with_reducible refine Ny.of ?_ ?_ | (refine Hyp.of ?_; intro hc; (try simp only [hc]); (try simp only [Bh] at hc)))); all_goals clear hF))
  refine stCall [.sl 2 (encRs a)] (he := ha) (k:=?_)
  (focus (have hF := True.intro; (repeat' (first | refine go1 (k:=?_) | with_reducible refine Ny.of ?_ ?_ | (refine Hyp.of ?_; intro hc; (try simp only [hc]); (try simp only [Bh] at hc)))); all_goals clear hF))
  refine stCall [.sl 2 (encRs b)] (he := hb) (k:=?_)
  (focus (have hF := (And.intro @e1 @e2); (repeat' (first | refine go1 (k:=?_) | with_reducible refine Ny.of ?_ ?_ | (refine Hyp.of ?_; intro hc; (try simp only [hc]); (try simp only [Bh] at hc)))); all_goals clear hF))
  refine Run.wk (Wk.own_nil 7 56 2 rfl rfl) ?_
  refine Run.while (σ := MtS) (fun z => ⟨tms [(5, .sl 2 (encRs x)), (6, .sl 2 (encRs y)), (7, .os 56 z.o.length), (8, .int .i64 (z.i : Int)), (9, .int .i64 (z.j : Int))], mms [(56, .arr z.o.length 2 (encRs z.o))]⟩)
    (fun z => z.i ≤ x.length ∧ z.j ≤ y.length ∧ z.o.length ≤ z.i + z.j ∧ z.o ++ meetR (x.drop z.i) (y.drop z.j) = meetR x y) (fun z => (x.length - z.i) + (y.length - z.j)) ⟨0, 0, []⟩ (have hW := @encRs_stb; stWk) ⟨Nat.zero_le _, Nat.zero_le _, Nat.le_refl _, rfl⟩ ?_
  rintro ⟨i, j, o⟩ ⟨hi, hj, ho, hp⟩
  dsimp only at hi hj ho hp ⊢
  have e3 := encRs_len o
  unfold t_k157_l1
  by_cases hxi : i < x.length
  · by_cases hyj : j < y.length
    · obtain ⟨r, hr⟩ : ∃ r, x[i]? = some r := ⟨x[i], by simp [hxi]⟩
      obtain ⟨s, hs⟩ : ∃ s, y[j]? = some s := ⟨y[j], by simp [hyj]⟩
      have g1 := encRs_get hr
      have g2 := encRs_get hs
      obtain ⟨_, hxe⟩ := List.getElem?_eq_some_iff.1 hr
      obtain ⟨_, hye⟩ := List.getElem?_eq_some_iff.1 hs
      have hd := meetR_cons r s (x.drop (i + 1)) (y.drop (j + 1))
      rw [← hxe, ← hye, ← List.drop_eq_getElem_cons hxi, ← List.drop_eq_getElem_cons hyj, hxe, hye] at hd
      unfold encR at g1 g2
      (focus (have hF := (And.intro (And.intro @e1 (And.intro @e2 @e3)) (And.intro @g1 (And.intro @g2 @encRs_snoc))); (repeat' (first | refine go1 (k:=?_) | with_reducible refine Ny.of ?_ ?_ | (refine Hyp.of ?_; intro hc; (try simp only [hc]); (try simp only [Bh] at hc)))); all_goals clear hF))
      · rename_i hc1
        rw [show one0 (bothR r s) = [(max r.1 s.1, min r.2 s.2)] from if_pos hc1, if_pos hc] at hd
        rw [hd, ← List.append_assoc] at hp
        have hl : (o ++ [(max r.1 s.1, min r.2 s.2)]).length = o.length + 1 := by simp
        (refine Fin.nextW (⟨i + 1, j, o ++ [(max r.1 s.1, min r.2 s.2)]⟩) ?_ (have hW := (And.intro @encRs_stb @hl); stWk); (try dsimp only))
        exact ⟨⟨by omega, by omega, by rw [hl]; omega, hp⟩, by omega⟩
      · rename_i hc1
        rw [show one0 (bothR r s) = [(max r.1 s.1, min r.2 s.2)] from if_pos hc1, if_neg hc] at hd
        rw [hd, ← List.append_assoc] at hp
        have hl : (o ++ [(max r.1 s.1, min r.2 s.2)]).length = o.length + 1 := by simp
        (refine Fin.nextW (⟨i, j + 1, o ++ [(max r.1 s.1, min r.2 s.2)]⟩) ?_ (have hW := (And.intro @encRs_stb @hl); stWk); (try dsimp only))
        exact ⟨⟨by omega, by omega, by rw [hl]; omega, hp⟩, by omega⟩
      · rename_i hc1
        rw [show one0 (bothR r s) = [] from if_neg hc1, if_pos hc] at hd
        rw [hd, List.nil_append] at hp
        (refine Fin.nextW (⟨i + 1, j, o⟩) ?_ (have hW := @encRs_stb; stWk); (try dsimp only))
        exact ⟨⟨by omega, by omega, by omega, hp⟩, by omega⟩
      · rename_i hc1
        rw [show one0 (bothR r s) = [] from if_neg hc1, if_neg hc] at hd
        rw [hd, List.nil_append] at hp
        (refine Fin.nextW (⟨i, j + 1, o⟩) ?_ (have hW := @encRs_stb; stWk); (try dsimp only))
        exact ⟨⟨by omega, by omega, by omega, hp⟩, by omega⟩
    · rw [List.drop_eq_nil_of_le (show y.length ≤ j by omega), meetR_nil, List.append_nil] at hp
      rw [← hp]
      (focus (have hF := (And.intro @e1 (And.intro @e2 @e3)); (repeat' (first | refine go1 (k:=?_) | with_reducible refine Ny.of ?_ ?_ | (refine Hyp.of ?_; intro hc; (try simp only [hc]); (try simp only [Bh] at hc)))); all_goals clear hF))
      exact stRet (.sl 2 (encRs o))
  · rw [List.drop_eq_nil_of_le (show x.length ≤ i by omega), show meetR [] (y.drop j) = [] by unfold meetR; rfl, List.append_nil] at hp
    rw [← hp]
    (focus (have hF := (And.intro @e1 (And.intro @e2 @e3)); (repeat' (first | refine go1 (k:=?_) | with_reducible refine Ny.of ?_ ?_ | (refine Hyp.of ?_; intro hc; (try simp only [hc]); (try simp only [Bh] at hc)))); all_goals clear hF))
    exact stRet (.sl 2 (encRs o))
def othersFrom : Int → List Rn → List Rn
  | k, [] => one0 (k, 1000000000)
  | k, r :: l => (if k < r.1 then [(k, r.1 - 1)] else []) ++ othersFrom (r.2 + 1) l
def othersR (l : List Rn) : List Rn := othersFrom 1 l
structure OtS where
  i : Nat
  k : Int
  o : List Rn
theorem ev_k158 (l : List Rn) (hl : l.length ≤ 400000000) (hb : ∀ r ∈ l, 1 ≤ r.1 ∧ r.1 ≤ 1000000000 ∧ 1 ≤ r.2 ∧ r.2 ≤ 1000000000) : Ev (En Tryz.prog rfl).P 158 [.sl 2 (encRs l)] (.ret (.sl 2 (encRs (othersR l)))) := by
  refine Ev.of_body it_k158 (by simp) (Run.start ?_)
  unfold t_k158
  have e1 := encRs_len l
  (focus (have hF := @e1; (repeat' (first | refine go1 (k:=?_) | with_reducible refine Ny.of ?_ ?_ | (refine Hyp.of ?_; intro hc; (try simp only [hc]); (try simp only [Bh] at hc)))); all_goals clear hF))
  refine Run.wk (Wk.own_nil 3 24 2 rfl rfl) ?_
  refine Run.while (σ := OtS) (fun z => ⟨tms [(3, .os 24 z.o.length), (4, .int .i64 z.k), (7, .sl 2 (encRs l)), (8, .int .i64 (l.length : Int)), (9, .int .i64 (z.i : Int))], mms [(24, .arr z.o.length 2 (encRs z.o))]⟩)
    (fun z => z.i ≤ l.length ∧ z.o.length ≤ z.i ∧ 1 ≤ z.k ∧ z.k ≤ 1000000001 ∧ z.o ++ othersFrom z.k (l.drop z.i) = othersR l) (fun z => l.length - z.i) ⟨0, 1, []⟩ (have hW := @encRs_stb; stWk) ⟨Nat.zero_le _, Nat.le_refl _, by decide, by decide, rfl⟩ ?_
  rintro ⟨i, k, o⟩ ⟨hi, ho, hk1, hk2, hp⟩
  dsimp only at hi ho hp hk1 hk2 ⊢
  have e3 := encRs_len o
  unfold t_k158_l1
  by_cases hlt : i < l.length
  · obtain ⟨r, hr⟩ : ∃ r, l[i]? = some r := ⟨l[i], by simp [hlt]⟩
    have g1 := encRs_get hr
    have hbr := hb r (List.mem_of_getElem? hr)
    obtain ⟨_, hre⟩ := List.getElem?_eq_some_iff.1 hr
    rw [List.drop_eq_getElem_cons hlt, hre] at hp
    change o ++ ((if k < r.1 then [(k, r.1 - 1)] else []) ++ othersFrom (r.2 + 1) (l.drop (i + 1))) = _ at hp
    unfold encR at g1
    (focus (have hF := (And.intro (And.intro @e1 @e3) (And.intro @g1 @encRs_snoc)); (repeat' (first | refine go1 (k:=?_) | with_reducible refine Ny.of ?_ ?_ | (refine Hyp.of ?_; intro hc; (try simp only [hc]); (try simp only [Bh] at hc)))); all_goals clear hF))
    · rw [if_pos hc, ← List.append_assoc] at hp
      have hl : (o ++ [(k, r.1 - 1)]).length = o.length + 1 := by simp
      (refine Fin.nextW (⟨i + 1, r.2 + 1, o ++ [(k, r.1 - 1)]⟩) ?_ (have hW := (And.intro @encRs_stb @hl); stWk); (try dsimp only))
      exact ⟨⟨by omega, by rw [hl]; omega, by omega, by omega, hp⟩, by omega⟩
    · rw [if_neg hc, List.nil_append] at hp
      (refine Fin.nextW (⟨i + 1, r.2 + 1, o⟩) ?_ (have hW := @encRs_stb; stWk); (try dsimp only))
      exact ⟨⟨by omega, by omega, by omega, by omega, hp⟩, by omega⟩
  · rw [List.drop_eq_nil_of_le (show l.length ≤ i by omega)] at hp
    change o ++ one0 (k, 1000000000) = _ at hp
    (focus (have hF := (And.intro @e1 (And.intro @e3 @encRs_snoc)); (repeat' (first | refine go1 (k:=?_) | with_reducible refine Ny.of ?_ ?_ | (refine Hyp.of ?_; intro hc; (try simp only [hc]); (try simp only [Bh] at hc)))); all_goals clear hF))
    · rw [show one0 (k, 1000000000) = [(k, 1000000000)] from if_pos hc] at hp
      rw [← hp]
      exact stRet (.sl 2 (encRs (o ++ [(k, 1000000000)])))
    · rw [show one0 (k, 1000000000) = [] from if_neg hc, List.append_nil] at hp
      rw [← hp]
      exact stRet (.sl 2 (encRs o))
theorem ev_k123_of (a b x y : List Rn) (hb : Ev (En Tryz.prog rfl).P 159 [.sl 2 (encRs b)] (.ret (.sl 2 (encRs y)))) (ho : Ev (En Tryz.prog rfl).P 158 [.sl 2 (encRs y)] (.ret (.sl 2 (encRs (othersR y)))))
    (hm : Ev (En Tryz.prog rfl).P 157 [.sl 2 (encRs a), .sl 2 (encRs (othersR y))] (.ret (.sl 2 (encRs x)))) : Ev (En Tryz.prog rfl).P 123 [.sl 2 (encRs a), .sl 2 (encRs b)] (.ret (.sl 2 (encRs x))) := by
  refine Ev.of_body it_k123 (by simp) (Run.start ?_)
  unfold t_k123
  (focus (have hF := True.intro; (repeat' (first | refine go1 (k:=?_) | with_reducible refine Ny.of ?_ ?_ | (refine Hyp.of ?_; intro hc; (try simp only [hc]); (try simp only [Bh] at hc)))); all_goals clear hF))
  refine stCall [.sl 2 (encRs b)] (he := hb) (k:=?_)
  (focus (have hF := True.intro; (repeat' (first | refine go1 (k:=?_) | with_reducible refine Ny.of ?_ ?_ | (refine Hyp.of ?_; intro hc; (try simp only [hc]); (try simp only [Bh] at hc)))); all_goals clear hF))
  refine stCall [.sl 2 (encRs y)] (he := ho) (k:=?_)
  (focus (have hF := True.intro; (repeat' (first | refine go1 (k:=?_) | with_reducible refine Ny.of ?_ ?_ | (refine Hyp.of ?_; intro hc; (try simp only [hc]); (try simp only [Bh] at hc)))); all_goals clear hF))
  refine stCall [.sl 2 (encRs a), .sl 2 (encRs (othersR y))] (he := hm) (k:=?_)
  (focus (have hF := True.intro; (repeat' (first | refine go1 (k:=?_) | with_reducible refine Ny.of ?_ ?_ | (refine Hyp.of ?_; intro hc; (try simp only [hc]); (try simp only [Bh] at hc)))); all_goals clear hF))
  exact stRet (.sl 2 (encRs x))
theorem ev_k88_of (a b x : List Rn) (hx : x.length ≤ 1000000000) (hm : Ev (En Tryz.prog rfl).P 123 [.sl 2 (encRs a), .sl 2 (encRs b)] (.ret (.sl 2 (encRs x)))) : Ev (En Tryz.prog rfl).P 88 [.sl 2 (encRs a), .sl 2 (encRs b)] (.ret (.bool (decide (x = [])))) := by
  refine Ev.of_body it_k88 (by simp) (Run.start ?_)
  unfold t_k88
  have e1 := encRs_len x
  (focus (have hF := @e1; (repeat' (first | refine go1 (k:=?_) | with_reducible refine Ny.of ?_ ?_ | (refine Hyp.of ?_; intro hc; (try simp only [hc]); (try simp only [Bh] at hc)))); all_goals clear hF))
  refine stCall [.sl 2 (encRs a), .sl 2 (encRs b)] (he := hm) (k:=?_)
  (focus (have hF := @e1; (repeat' (first | refine go1 (k:=?_) | with_reducible refine Ny.of ?_ ?_ | (refine Hyp.of ?_; intro hc; (try simp only [hc]); (try simp only [Bh] at hc)))); all_goals clear hF))
  have hd : decide (x = []) = decide ((x.length : Int) = 0) := by
    rw [decide_eq_decide]
    constructor
    · intro h; rw [h]; rfl
    · intro h; exact List.eq_nil_of_length_eq_zero (by omega)
  rw [hd]
  exact Fin.tmp' rfl rfl

theorem inR_one0 (x : Rn) (n : Int) : inR (one0 x) n ↔ x.1 ≤ n ∧ n ≤ x.2 := by
  unfold one0
  by_cases h : x.1 ≤ x.2
  · rw [if_pos h]; exact inR_one x n
  · rw [if_neg h]
    constructor
    · intro hh; exact absurd hh (inR_nil n)
    · intro hh; omega
theorem meetR_in : ∀ {l m : List Rn}, Can l → Can m → ∀ n, inR (meetR l m) n ↔ inR l n ∧ inR m n
  | [], m, _, _, n => by
    unfold meetR
    constructor
    · intro h; exact absurd h (inR_nil n)
    · intro h; exact absurd h.1 (inR_nil n)
  | x :: l, [], _, _, n => by
    rw [meetR_nil]
    constructor
    · intro h; exact absurd h (inR_nil n)
    · intro h; exact absurd h.2 (inR_nil n)
  | x :: l, y :: m, hl, hm, n => by
    rw [meetR_cons, inR_append, inR_one0, inR_cons, inR_cons]
    have a := fun h => hl.above (n := n) h
    have b := fun h => hm.above (n := n) h
    unfold bothR
    by_cases h : x.2 < y.2
    · rw [if_pos h, meetR_in hl.tail hm n, inR_cons]
      constructor
      · rintro (h1 | ⟨h1, h2⟩)
        · exact ⟨.inl (by omega), .inl (by omega)⟩
        · exact ⟨.inr h1, h2⟩
      · rintro ⟨h1 | h1, h2⟩
        · rcases h2 with h2 | h2
          · exact .inl (by omega)
          · have := b h2; omega
        · exact .inr ⟨h1, h2⟩
    · rw [if_neg h, meetR_in hl hm.tail n, inR_cons]
      constructor
      · rintro (h1 | ⟨h1, h2⟩)
        · exact ⟨.inl (by omega), .inl (by omega)⟩
        · exact ⟨h1, .inr h2⟩
      · rintro ⟨h1, h2 | h2⟩
        · rcases h1 with h1 | h1
          · exact .inl (by omega)
          · have := a h1; omega
        · exact .inr ⟨h1, h2⟩
termination_by l m => l.length + m.length
theorem meetR_len : ∀ l m : List Rn, (meetR l m).length ≤ l.length + m.length
  | [], m => by unfold meetR; simp
  | x :: l, [] => by rw [meetR_nil]; simp
  | x :: l, y :: m => by
    rw [meetR_cons, List.length_append]
    have h0 : (one0 (bothR x y)).length ≤ 1 := by unfold one0; split <;> simp
    by_cases h : x.2 < y.2
    · rw [if_pos h]
      have := meetR_len l (y :: m)
      simp only [List.length_cons] at *
      omega
    · rw [if_neg h]
      have := meetR_len (x :: l) m
      simp only [List.length_cons] at *
      omega
termination_by l m => l.length + m.length
theorem othersFrom_in : ∀ {l : List Rn} (k : Int), Can l → 1 ≤ k → (∀ n, inR l n → k ≤ n) → ∀ n, inR (othersFrom k l) n ↔ k ≤ n ∧ n ≤ 1000000000 ∧ ¬ inR l n
  | [], k, _, hk, _, n => by
    unfold othersFrom
    rw [inR_one0]
    constructor
    · intro h; exact ⟨h.1, h.2, inR_nil n⟩
    · intro h; exact ⟨h.1, h.2.1⟩
  | r :: l, k, hl, hk, hb, n => by
    have hr := (Can.cons_iff.1 hl).1
    unfold okR at hr
    have hkr : k ≤ r.1 := hb r.1 ((inR_cons r l _).2 (.inl ⟨Int.le_refl _, hr.2.1⟩))
    have ih := othersFrom_in (l := l) (r.2 + 1) hl.tail (by omega) (fun n h => by have := hl.above h; omega) n
    show inR ((if k < r.1 then [(k, r.1 - 1)] else []) ++ othersFrom (r.2 + 1) l) n ↔ _
    rw [inR_append, ih, inR_cons]
    have a := fun h => hl.above (n := n) h
    by_cases h : k < r.1
    · rw [if_pos h, inR_one]
      constructor
      · rintro (h1 | ⟨h1, h2, h3⟩)
        · exact ⟨by omega, by omega, fun h4 => by
            rcases h4 with h4 | h4
            · omega
            · have := a h4; omega⟩
        · exact ⟨by omega, h2, fun h4 => by
            rcases h4 with h4 | h4
            · omega
            · exact h3 h4⟩
      · rintro ⟨h1, h2, h3⟩
        by_cases h4 : n < r.1
        · exact .inl (by omega)
        · refine .inr ⟨?_, h2, fun h5 => h3 (.inr h5)⟩
          have : ¬ (r.1 ≤ n ∧ n ≤ r.2) := fun h5 => h3 (.inl h5)
          omega
    · rw [if_neg h]
      constructor
      · rintro (h1 | ⟨h1, h2, h3⟩)
        · exact absurd h1 (inR_nil n)
        · exact ⟨by omega, h2, fun h4 => by
            rcases h4 with h4 | h4
            · omega
            · exact h3 h4⟩
      · rintro ⟨h1, h2, h3⟩
        refine .inr ⟨?_, h2, fun h5 => h3 (.inr h5)⟩
        have : ¬ (r.1 ≤ n ∧ n ≤ r.2) := fun h5 => h3 (.inl h5)
        omega
theorem othersFrom_len : ∀ (l : List Rn) (k : Int), (othersFrom k l).length ≤ l.length + 1
  | [], k => by unfold othersFrom one0; split <;> simp
  | r :: l, k => by
    have := othersFrom_len l (r.2 + 1)
    show ((if k < r.1 then [(k, r.1 - 1)] else []) ++ othersFrom (r.2 + 1) l).length ≤ _
    rw [List.length_append, List.length_cons]
    split <;> simp <;> omega
theorem othersR_in {l : List Rn} (h : Can l) (n : Int) : inR (othersR l) n ↔ 1 ≤ n ∧ n ≤ 1000000000 ∧ ¬ inR l n :=
  othersFrom_in 1 h (by omega) (fun n hn => (h.bound hn).1) n
def minusR (a b : List Rn) : List Rn := meetR (normR a) (normR (othersR (normR b)))
theorem minusR_in (a b : List Rn) (n : Int) : inR (minusR a b) n ↔ mem1 a n ∧ ¬ mem1 b n := by
  unfold minusR
  rw [meetR_in (normR_can _) (normR_can _), normR_in, normR_in]
  constructor
  · rintro ⟨h1, h2⟩
    refine ⟨h1, fun h3 => ?_⟩
    have := (othersR_in (normR_can b) n).1 h2.2.2
    exact this.2.2 ((normR_in b n).2 h3)
  · rintro ⟨h1, h2⟩
    refine ⟨h1, h1.1, h1.2.1, (othersR_in (normR_can b) n).2 ⟨h1.1, h1.2.1, fun h3 => h2 ((normR_in b n).1 h3)⟩⟩

def r_k43_1 : List SOp := [⟨some 2,.box 27 (.tmp 0),none⟩,⟨some 3,.box 27 (.tmp 1),none⟩,⟨some 4,.assign (.const (.bool false)),none⟩]
instance : Live r_k43_1 := ⟨[0,1]⟩
def r_k43_2 : List SOp := [⟨some 8,.load 27 (.tmp 2),none⟩,⟨some 9,.buildSlice 101 1 #[(0,.tmp 8)],none⟩,⟨some 10,.call ⟨.value (.func 86),#[.tmp 9],#[101]⟩,none⟩,⟨some 11,.load 27 (.tmp 3),none⟩,⟨some 12,.buildSlice 101 1 #[(0,.tmp 11)],none⟩,⟨some 13,.call ⟨.value (.func 86),#[.tmp 12],#[101]⟩,none⟩,⟨some 5,.assign (.tmp 10),none⟩,⟨some 6,.assign (.tmp 13),none⟩]
instance : Live r_k43_2 := ⟨[2,3]⟩
def r_k43_3 : List SOp := [⟨some 14,.move (.const (.int .i64 0)),none⟩]
instance : Live r_k43_3 := ⟨[5,6]⟩
def r_k43_4 : List SOp := [⟨some 15,.binOp .lss 3 (.tmp 14) (.const (.int .i64 16)) 3,none⟩]
instance : Live r_k43_4 := ⟨[5,6,14]⟩
def r_k43_5 : List SOp := [⟨some 16,.move (.tmp 14),none⟩,⟨some 7,.assign (.tmp 16),none⟩]
instance : Live r_k43_5 := ⟨[5,6,14]⟩
def r_k43_6 : List SOp := [⟨some 17,.move (.tmp 5),none⟩,⟨some 18,.move (.tmp 7),none⟩,⟨some 19,.nilCheck (.tmp 17),none⟩,⟨some 20,.indexAddr 120 (.tmp 19) (.tmp 18),none⟩,⟨some 21,.load 118 (.tmp 20),none⟩,⟨some 22,.call ⟨.builtin .len,#[.tmp 21],#[118]⟩,none⟩,⟨some 23,.binOp .gtr 3 (.tmp 22) (.const (.int .i64 0)) 3,none⟩,⟨some 24,.move (.tmp 23),none⟩,⟨some 25,.move (.tmp 5),some ((some 24),true)⟩,⟨some 26,.move (.tmp 7),some ((some 24),true)⟩,⟨some 27,.nilCheck (.tmp 25),some ((some 24),true)⟩,⟨some 28,.indexAddr 120 (.tmp 27) (.tmp 26),some ((some 24),true)⟩,⟨some 29,.load 118 (.tmp 28),some ((some 24),true)⟩,⟨some 30,.move (.tmp 6),some ((some 24),true)⟩,⟨some 31,.move (.tmp 7),some ((some 24),true)⟩,⟨some 32,.nilCheck (.tmp 30),some ((some 24),true)⟩,⟨some 33,.indexAddr 120 (.tmp 32) (.tmp 31),some ((some 24),true)⟩,⟨some 34,.load 118 (.tmp 33),some ((some 24),true)⟩,⟨some 35,.call ⟨.value (.func 88),#[.tmp 29,.tmp 34],#[118,118]⟩,some ((some 24),true)⟩,⟨some 36,.unOp .not 4 (.tmp 35),some ((some 24),true)⟩,⟨some 37,.pick (.tmp 24) (.tmp 36) (.const (.bool false)),none⟩]
instance : Live r_k43_6 := ⟨[5,6,7,14]⟩
def r_k43_7 : List SOp := [⟨some 4,.assign (.const (.bool false)),none⟩]
instance : Live r_k43_7 := ⟨[]⟩
def r_k43_8 : List SOp := [⟨some 38,.binOp .add 3 (.tmp 14) (.const (.int .i64 1)) 3,none⟩,⟨some 14,.move (.tmp 38),none⟩]
instance : Live r_k43_8 := ⟨[5,6,14]⟩
def r_k43_9 : List SOp := [⟨some 4,.assign (.const (.bool true)),none⟩]
instance : Live r_k43_9 := ⟨[]⟩
def t_k43_l1 : SC :=
  (.seq (.ops false r_k43_4) (.seq (.cond (.tmp 15) .skip (.exit 0)) (.seq (.block 1 (.seq (.ops false r_k43_5) (.seq (.ops true r_k43_6) (.cond (.tmp 37) (.seq (.ops false r_k43_7) .ret) .skip)))) (.ops false r_k43_8))))
def t_k43 : SC :=
  (.seq (.ops false r_k43_1) (.seq (.ops true r_k43_2) (.seq (.seq (.ops false r_k43_3) (.block 0 (.loop t_k43_l1))) (.seq (.ops false r_k43_9) .ret))))
theorem it_k43 : FnIs Tryz.prog 43 39 [.tmp 4] t_k43 := ⟨Tryz.f43, _, Tryz.func43, rfl, rfl, rfl, rfl, by kernel_rfl⟩

def r_k55_1 : List SOp := [⟨some 1,.box 27 (.tmp 0),none⟩,⟨some 2,.assign (.const (.bool false)),none⟩]
instance : Live r_k55_1 := ⟨[0]⟩
def r_k55_2 : List SOp := [⟨some 3,.load 27 (.tmp 1),none⟩,⟨some 4,.call ⟨.value (.func 105),#[.tmp 3],#[27]⟩,none⟩,⟨some 5,.binOp .eql 3 (.tmp 4) (.const (.int .i64 0)) 3,none⟩,⟨some 2,.assign (.tmp 5),none⟩]
instance : Live r_k55_2 := ⟨[1]⟩
def t_k55 : SC :=
  (.seq (.ops false r_k55_1) (.seq (.ops false r_k55_2) .ret))
theorem it_k55 : FnIs Tryz.prog 55 6 [.tmp 2] t_k55 := ⟨Tryz.f55, _, Tryz.func55, rfl, rfl, rfl, rfl, by kernel_rfl⟩

theorem ev_k157 (a b : List Rn) (ha : a.length ≤ 300000000) (hb : b.length ≤ 300000000) : Ev (En Tryz.prog rfl).P 157 [.sl 2 (encRs a), .sl 2 (encRs b)] (.ret (.sl 2 (encRs (meetR (normR a) (normR b))))) :=
  ev_k157_of a b _ _ (ev_k159 a (by omega)) (ev_k159 b (by omega)) (by have := normR_len a; omega) (by have := normR_len b; omega)
theorem ev_k123 (a b : List Rn) (ha : a.length ≤ 200000000) (hb : b.length ≤ 200000000) : Ev (En Tryz.prog rfl).P 123 [.sl 2 (encRs a), .sl 2 (encRs b)] (.ret (.sl 2 (encRs (minusR a b)))) := by
  have h1 := normR_len b
  have h2 := othersFrom_len (normR b) 1
  exact ev_k123_of a b _ _ (ev_k159 b (by omega)) (ev_k158 _ (by omega) fun r hr => by have := (normR_can b).2 r hr; unfold okR at this; omega) (ev_k157 a _ (by omega) (by unfold othersR; omega))
theorem minusR_len (a b : List Rn) : (minusR a b).length ≤ a.length + b.length + 1 := by
  have h1 := meetR_len (normR a) (normR (othersR (normR b)))
  have h2 := normR_len a
  have h3 := normR_len (othersR (normR b))
  have h4 := othersFrom_len (normR b) 1
  have h5 := normR_len b
  unfold minusR othersR at *
  omega
theorem ev_k88 (a b : List Rn) (ha : a.length ≤ 200000000) (hb : b.length ≤ 200000000) : Ev (En Tryz.prog rfl).P 88 [.sl 2 (encRs a), .sl 2 (encRs b)] (.ret (.bool (decide (minusR a b = [])))) :=
  ev_k88_of a b _ (by have := minusR_len a b; omega) (ev_k123 a b ha hb)
def WithP (t u : Tab) : Prop := ∀ r, r < 16 → minusR (t.getD r []) (u.getD r []) = []
open Classical in
noncomputable def withinP (p q : Pst) : Bool := decide (WithP (openT [p]) (openT [q]))
theorem withinP_true {p q : Pst} (h : WithP (openT [p]) (openT [q])) : withinP p q = true := by
  classical
  exact decide_eq_true h
theorem withinP_false {p q : Pst} (h : ¬ WithP (openT [p]) (openT [q])) : withinP p q = false := by
  classical
  exact decide_eq_false h
theorem meetR_ok : ∀ (l m : List Rn), ∀ r ∈ meetR l m, r.1 ≤ r.2
  | [], m, r, h => by unfold meetR at h; simp at h
  | x :: l, [], r, h => by rw [meetR_nil] at h; simp at h
  | x :: l, y :: m, r, h => by
    rw [meetR_cons] at h
    rcases List.mem_append.1 h with h | h
    · unfold one0 at h
      split at h
      · rename_i hc
        simp at h
        subst h
        exact hc
      · simp at h
    · split at h
      · exact meetR_ok l (y :: m) r h
      · exact meetR_ok (x :: l) m r h
termination_by l m => l.length + m.length
theorem withP_iff {t u : Tab} : WithP t u ↔ ∀ r, r < 16 → ∀ n, inT t r n → inT u r n := by
  constructor
  · intro h r hr n hn
    by_cases h' : inT u r n
    · exact h'
    · have := (minusR_in (t.getD r []) (u.getD r []) n).2 ⟨hn, h'⟩
      rw [h r hr] at this
      exact absurd this (inR_nil n)
  · intro h r hr
    cases hm : minusR (t.getD r []) (u.getD r []) with
    | nil => rfl
    | cons x l =>
      have hx : x ∈ minusR (t.getD r []) (u.getD r []) := by rw [hm]; exact List.mem_cons_self
      have hok := meetR_ok _ _ x hx
      have := (minusR_in (t.getD r []) (u.getD r []) x.1).1 ⟨x, hx, Int.le_refl _, hok⟩
      exact absurd (h r hr x.1 this.1) this.2
theorem withinP_iff {p q : Pst} : withinP p q = true ↔ ∀ r, r < 16 → ∀ n, inP p r n → inP q r n := by
  have h : WithP (openT [p]) (openT [q]) ↔ ∀ r, r < 16 → ∀ n, inP p r n → inP q r n := by
    rw [withP_iff]
    constructor
    · intro h r hr n
      have := h r hr n
      rw [open_in hr, open_in hr] at this
      simpa using this
    · intro h r hr n
      rw [open_in hr, open_in hr]
      simpa using h r hr n
  rw [← h]
  constructor
  · intro h1
    by_cases h2 : WithP (openT [p]) (openT [q])
    · exact h2
    · rw [withinP_false h2] at h1; simp at h1
  · exact withinP_true
theorem minusR_nil (b : List Rn) : minusR [] b = [] := by
  unfold minusR
  rw [normR_of_can Can.nil]
  unfold meetR
  rfl
theorem ev_k43 (p q : Pst) (hp : wt p ≤ 100000000) (hq : wt q ≤ 100000000) : Ev (En Tryz.prog rfl).P 43 [encP p, encP q] (.ret (.bool (withinP p q))) := by
  refine Ev.of_body it_k43 (by simp) (Run.start ?_)
  unfold t_k43 encP
  have c1 := ev_k86 [p] (by simp) (by simp; omega)
  have c2 := ev_k86 [q] (by simp) (by simp; omega)
  have ht : TabLe (openT [p]) (wt p) := by simpa using openT_le [p]
  have hu : TabLe (openT [q]) (wt q) := by simpa using openT_le [q]
  have hr := @withinP_true p q
  have hr' := @withinP_false p q
  (focus (have hF := True.intro; (repeat' (first | refine go1 (k:=?_) | with_reducible refine Ny.of ?_ ?_ | (refine Hyp.of ?_; intro hc; (try simp only [hc]); (try simp only [Bh] at hc)))); all_goals clear hF))
  refine stCall [.sl 2 (encPs [p])] (he := c1) (k:=?_)
  (focus (have hF := True.intro; (repeat' (first | refine go1 (k:=?_) | with_reducible refine Ny.of ?_ ?_ | (refine Hyp.of ?_; intro hc; (try simp only [hc]); (try simp only [Bh] at hc)))); all_goals clear hF))
  refine stCall [.sl 2 (encPs [q])] (he := c2) (k:=?_)
  clear c1 c2
  generalize openT [p] = t at ht hr hr' ⊢
  generalize openT [q] = u at hu hr hr' ⊢
  have e1 : (encTs t).length = 16 := by rw [encTs_len, ht.1]
  have e2 : (encTs u).length = 16 := by rw [encTs_len, hu.1]
  (focus (have hF := (And.intro @e1 @e2); (repeat' (first | refine go1 (k:=?_) | with_reducible refine Ny.of ?_ ?_ | (refine Hyp.of ?_; intro hc; (try simp only [hc]); (try simp only [Bh] at hc)))); all_goals clear hF))
  refine Run.while (σ := Nat) (fun i => ⟨tms [(5, .sptr (encTs t)), (6, .sptr (encTs u)), (14, .int .i64 (i : Int))], mms []⟩) (fun i => i ≤ 16 ∧ ∀ r, r < i → minusR (t.getD r []) (u.getD r []) = []) (fun i => 16 - i) 0 (have hW := @encTs_stb; stWk) ⟨Nat.zero_le _, fun j hj => absurd hj (Nat.not_lt_zero _)⟩ ?_
  rintro i ⟨hi, hp⟩
  unfold t_k43_l1
  by_cases hlt : i < 16
  · have hit : i < t.length := by rw [ht.1]; exact hlt
    have hiu : i < u.length := by rw [hu.1]; exact hlt
    have h1 := ht.2 i
    have h2 := hu.2 i
    have g1 := drop_head (encTs_get hit)
    have g2 := drop_head (encTs_get hiu)
    have c3 := ev_k88 (t.getD i []) (u.getD i []) (by omega) (by omega)
    have hs : minusR (t.getD i []) (u.getD i []) = [] → ∀ r, r < i + 1 → minusR (t.getD r []) (u.getD r []) = [] := fun h r hr => by
      by_cases e : r = i
      · rw [e]; exact h
      · exact hp r (by omega)
    have e3 := encRs_len (t.getD i [])
    by_cases hn : t.getD i [] = []
    · have hs2 := hs (by rw [hn, minusR_nil])
      have e4 : (encRs (t.getD i [])).length = 0 := by rw [e3, hn]; rfl
      (focus (have hF := (And.intro (And.intro @e1 @e2) (And.intro @g1 (And.intro @g2 @e4))); (repeat' (first | refine go1 (k:=?_) | with_reducible refine Ny.of ?_ ?_ | (refine Hyp.of ?_; intro hc; (try simp only [hc]); (try simp only [Bh] at hc)))); all_goals clear hF))
      (refine Fin.nextW (i + 1) ?_ (have hW := @encTs_stb; stWk); (try dsimp only))
      exact ⟨⟨hlt, hs2⟩, by omega⟩
    · have e4 : 0 < (t.getD i []).length := List.length_pos_iff.2 hn
      (focus (have hF := (And.intro (And.intro @e1 @e2) (And.intro @g1 (And.intro @g2 @e3))); (repeat' (first | refine go1 (k:=?_) | with_reducible refine Ny.of ?_ ?_ | (refine Hyp.of ?_; intro hc; (try simp only [hc]); (try simp only [Bh] at hc)))); all_goals clear hF))
      refine stCall [.sl 2 (encRs (t.getD i [])), .sl 2 (encRs (u.getD i []))] (he := c3) (k:=?_)
      (focus (have hF := (And.intro (And.intro @e1 @e2) (And.intro @g1 (And.intro @g2 @e3))); (repeat' (first | refine go1 (k:=?_) | with_reducible refine Ny.of ?_ ?_ | (refine Hyp.of ?_; intro hc; (try simp only [hc]); (try simp only [Bh] at hc)))); all_goals clear hF))
      · rw [hr' fun h => hc (h i hlt)]
        exact Fin.tmp' rfl rfl
      · have hs2 := hs hc
        (refine Fin.nextW (i + 1) ?_ (have hW := @encTs_stb; stWk); (try dsimp only))
        exact ⟨⟨hlt, hs2⟩, by omega⟩
  · rw [hr fun r hr => hp r (by omega)]
    (focus (have hF := (And.intro @e1 @e2); (repeat' (first | refine go1 (k:=?_) | with_reducible refine Ny.of ?_ ?_ | (refine Hyp.of ?_; intro hc; (try simp only [hc]); (try simp only [Bh] at hc)))); all_goals clear hF))
    exact Fin.tmp' rfl rfl
theorem ev_k55 (p : Pst) (hp : wt p ≤ 50000000) : Ev (En Tryz.prog rfl).P 55 [encP p] (.ret (.bool (decide (sizeP p = 0)))) := by
  refine Ev.of_body it_k55 (by simp) (Run.start ?_)
  unfold t_k55 encP
  (focus (have hF := True.intro; (repeat' (first | refine go1 (k:=?_) | with_reducible refine Ny.of ?_ ?_ | (refine Hyp.of ?_; intro hc; (try simp only [hc]); (try simp only [Bh] at hc)))); all_goals clear hF))
  refine stCall [encP p] (he := ev_k105 p hp) (k:=?_)
  (focus (have hF := True.intro; (repeat' (first | refine go1 (k:=?_) | with_reducible refine Ny.of ?_ ?_ | (refine Hyp.of ?_; intro hc; (try simp only [hc]); (try simp only [Bh] at hc)))); all_goals clear hF))
  exact Fin.tmp' rfl rfl

def NewQ (t : Tmp) (cs : List AVal) : Ex → AS → Prop
  | .ret, s => ∃ k, s.T t = .ptr k 0 ∧ s.M k = some (.cells cs) ∧ stbs cs = true
  | _, _ => False
theorem results_one {P : Program} {fn : Func} {t : Tmp} (hrs : fn.results.toList = [.tmp t]) (tm : Array Value) (w : World) : (results fn tm).run P w = .ok (tm.getD t undef) w := by
  have hm : (fn.results.mapM (fun r => match r with | .tmp t => pure (tm.getD t undef) | .cell c t => do loadVar t (← asAddr (tm.getD c undef)) : ResultVar → Sem Value)).run P w = .ok #[tm.getD t undef] w := by
    rw [Array.mapM_eq_mapM_toList, hrs]
    simp only [Sem.run_map, List.mapM_cons, List.mapM_nil, Sem.run_bind, Sem.run_pure, Result.andThen]
  unfold results
  simp only [Sem.run_bind]
  refine Eq.trans (congrArg (fun r => Result.andThen r _) hm) ?_
  simp [Result.andThen]
theorem EvNew.of_body {E : Env} {f : FuncId} {n : Nat} {t : Tmp} {sc : SC} (hf : FnIs E.P f n [.tmp t] sc) {args cs : List AVal} (hl : args.length ≤ n)
    (h : AW E n sc (NewQ t cs) ⟨initT args, NoM⟩) : EvNew E.P f args cs := by
  obtain ⟨fn, c, h1, h2, h3, rfl, hrs, h6⟩ := hf
  refine ⟨⟨fn, h1, h2, by simp [h3]⟩, fun B w vs G hG hsz hv hB => ?_⟩
  refine calls_of_wp h1 h3 ?_
  have hR : Rel fn.ntmps B G ⟨initT args, NoM⟩ { tmps := vs ++ Array.replicate (fn.ntmps - vs.size) undef, defers := [] } w := by
    refine ⟨by simp; omega, rfl, fun t => ?_, fun k blk hk => by simp [NoM] at hk, fun b hb => ⟨hB b hb, hG b⟩, fun b hb => absurd (hG b) hb⟩
    simp only [initT]
    cases ht : args[t]? with
    | none => exact .undef _
    | some x =>
      have hlt : t < vs.size := by
        rw [hsz]
        rcases Nat.lt_or_ge t args.length with h' | h'
        · exact h'
        · rw [List.getElem?_eq_none h'] at ht; cases ht
      have : (vs ++ Array.replicate (fn.ntmps - vs.size) undef).getD t undef = vs[t] := by
        rw [Array.getD_eq_getD_getElem?, Array.getElem?_append_left hlt]
        simp [hlt]
      simp only [Option.getD_some, this]
      exact hv t x _ ht (by simp [hlt])
  refine h c h6 B G _ w hR _ fun e s a' w' G' hA hR' hq => ?_
  cases e with
  | normal => exact hq.elim
  | exit id => exact hq.elim
  | pan x => exact hq.elim
  | ret =>
    obtain ⟨k, q1, q2, q3⟩ := hq
    have hx := hR'.temps t
    rw [q1] at hx
    have e1 : a'.tmps.getD t undef = .pointer (some ⟨G'.β k, 0, none⟩) := by
      generalize a'.tmps.getD t undef = tv at hx
      cases hx
      rfl
    obtain ⟨cc, el, b1, b2, b3, b4, b5⟩ := hR'.mem k _ q2
    let G2 : Gh := { G' with ow := fun b => if b = G'.β k then G'.ow b else none }
    have g2 : ∀ b, G'.ow b = none → G2.ow b = none := fun b hb => by simp only [G2]; split <;> first | exact hb | rfl
    have hge : w.heap.size ≤ G'.β k := by
      rcases Nat.lt_or_ge (G'.β k) w.heap.size with h' | h'
      · have := (hA.keep _ h' (hG _)).2
        rw [b1] at this
        cases this
      · exact h'
    refine ⟨hR'.defers, _, results_one hrs a'.tmps w', G2, G'.β k, cc, el, hge, hR'.ol _ (by rw [b1]; simp), by simp only [G2, if_true]; rw [b1]; simp,
      ⟨hA.os, hA.tape, hA.output, hA.size, fun b hb ho => ⟨(hA.keep b hb ho).1, g2 b (hA.keep b hb ho).2⟩⟩, by rw [e1], b3, b4, fun i x hx => ?_⟩
    obtain ⟨u, hu, hcr⟩ := b5 i x hx
    have hst : x.stb = true := stbs_get q3 hx
    refine ⟨u, hu, ?_⟩
    have hvr : VR (Dm s.M) G' B w' x u := by
      cases x <;> first | exact hcr | (simp [AVal.stb] at hst; done)
    exact hvr.stable (fun b _ hn ho => ⟨rfl, hn, g2 b ho⟩) hst

def r_k122_1 : List SOp := [⟨some 3,.box 27 (.tmp 0),none⟩,⟨some 4,.box 27 (.tmp 1),none⟩,⟨some 6,.alloc 27,none⟩]
instance : Live r_k122_1 := ⟨[0,1,2]⟩
def r_k122_2 : List SOp := [⟨some 10,.load 27 (.tmp 3),none⟩,⟨some 11,.buildSlice 101 1 #[(0,.tmp 10)],none⟩,⟨some 12,.call ⟨.value (.func 86),#[.tmp 11],#[101]⟩,none⟩,⟨some 13,.load 27 (.tmp 4),none⟩,⟨some 14,.buildSlice 101 1 #[(0,.tmp 13)],none⟩,⟨some 15,.call ⟨.value (.func 86),#[.tmp 14],#[101]⟩,none⟩,⟨some 7,.assign (.tmp 12),none⟩,⟨some 8,.assign (.tmp 15),none⟩]
instance : Live r_k122_2 := ⟨[2,3,4,6]⟩
def r_k122_3 : List SOp := [⟨some 16,.move (.const (.int .i64 0)),none⟩]
instance : Live r_k122_3 := ⟨[2,6,7,8]⟩
def r_k122_4 : List SOp := [⟨some 17,.binOp .lss 3 (.tmp 16) (.const (.int .i64 16)) 3,none⟩]
instance : Live r_k122_4 := ⟨[2,6,7,8,16]⟩
def r_k122_5 : List SOp := [⟨some 18,.move (.tmp 16),none⟩,⟨some 9,.assign (.tmp 18),none⟩]
instance : Live r_k122_5 := ⟨[2,6,7,8,16]⟩
def r_k122_6 : List SOp := [⟨some 19,.move (.tmp 7),none⟩,⟨some 20,.move (.tmp 9),none⟩,⟨some 21,.move (.tmp 2),none⟩,⟨some 22,.move (.tmp 7),none⟩,⟨some 23,.move (.tmp 9),none⟩,⟨some 24,.nilCheck (.tmp 22),none⟩,⟨some 25,.indexAddr 120 (.tmp 24) (.tmp 23),none⟩,⟨some 26,.load 118 (.tmp 25),none⟩,⟨some 27,.move (.tmp 8),none⟩,⟨some 28,.move (.tmp 9),none⟩,⟨some 29,.nilCheck (.tmp 27),none⟩,⟨some 30,.indexAddr 120 (.tmp 29) (.tmp 28),none⟩,⟨some 31,.load 118 (.tmp 30),none⟩,⟨some 32,.call ⟨.value (.tmp 21),#[.tmp 26,.tmp 31],#[118,118]⟩,none⟩,⟨some 33,.nilCheck (.tmp 19),none⟩,⟨some 34,.indexAddr 120 (.tmp 33) (.tmp 20),none⟩,⟨none,.store 118 (.tmp 34) (.tmp 32),none⟩]
instance : Live r_k122_6 := ⟨[2,6,7,8,9,16]⟩
def r_k122_7 : List SOp := [⟨some 35,.binOp .add 3 (.tmp 16) (.const (.int .i64 1)) 3,none⟩,⟨some 16,.move (.tmp 35),none⟩]
instance : Live r_k122_7 := ⟨[2,6,7,8,16]⟩
def r_k122_8 : List SOp := [⟨some 36,.move (.tmp 7),none⟩,⟨some 37,.call ⟨.value (.func 87),#[.tmp 36],#[115]⟩,none⟩,⟨none,.store 27 (.tmp 6) (.tmp 37),none⟩]
instance : Live r_k122_8 := ⟨[6,7]⟩
def t_k122_l1 : SC :=
  (.seq (.ops false r_k122_4) (.seq (.cond (.tmp 17) .skip (.exit 0)) (.seq (.block 1 (.seq (.ops false r_k122_5) (.ops true r_k122_6))) (.ops false r_k122_7))))
def t_k122 : SC :=
  (.seq (.ops false r_k122_1) (.seq (.ops true r_k122_2) (.seq (.seq (.ops false r_k122_3) (.block 0 (.loop t_k122_l1))) (.seq (.ops false r_k122_8) .ret))))
theorem it_k122 : FnIs Tryz.prog 122 38 [.cell 6 27] t_k122 := ⟨Tryz.f122, _, Tryz.func122, rfl, rfl, rfl, rfl, by kernel_rfl⟩

def r_k73_1 : List SOp := [⟨some 2,.box 27 (.tmp 0),none⟩,⟨some 3,.box 27 (.tmp 1),none⟩,⟨some 4,.alloc 27,none⟩]
instance : Live r_k73_1 := ⟨[0,1]⟩
def r_k73_2 : List SOp := [⟨some 5,.load 27 (.tmp 2),none⟩,⟨some 6,.load 27 (.tmp 3),none⟩,⟨some 7,.call ⟨.value (.func 122),#[.tmp 5,.tmp 6,.func 123],#[27,27,143]⟩,none⟩,⟨none,.store 27 (.tmp 4) (.tmp 7),none⟩]
instance : Live r_k73_2 := ⟨[2,3,4]⟩
def t_k73 : SC :=
  (.seq (.ops false r_k73_1) (.seq (.ops false r_k73_2) .ret))
theorem it_k73 : FnIs Tryz.prog 73 8 [.cell 4 27] t_k73 := ⟨Tryz.f73, _, Tryz.func73, rfl, rfl, rfl, rfl, by kernel_rfl⟩

theorem new_k86 (ps : List Pst) (hl : ps.length ≤ 1000000000) (hw : (ps.map wt).sum ≤ 900000000) : EvNew (En Tryz.prog rfl).P 86 [.sl 2 (encPs ps)] (encTs (openT ps)) := by
  refine EvNew.of_body it_k86 (by simp) (Run.start ?_)
  unfold t_k86
  have e0 : (encPs ps).length = ps.length := encPs_len _
  (focus (have hF := @e0; (repeat' (first | refine go0 (k:=?_) | fail)); all_goals clear hF))
  refine Run.wk (Wk.trans (Wk.own_cells (k := 10) (cs' := encT tab0) rfl rfl ?_) (Wk.toL [(3, .ptr 10 0), (11, .sl 2 (encPs ps)), (12, .int .i64 ps.length), (13, .int .i64 0)] [(10, .cells (encT tab0))] ⟨rfl, rfl, rfl, rfl, trivial⟩ ⟨rfl, trivial⟩ ⟨rfl, encPs_stb ps, rfl, rfl, trivial⟩ ⟨encT_no _ _, trivial⟩)) ?_
  · intro i x y hx hy
    have hx' : (List.replicate 16 AVal.nil)[i]? = some x := hx
    rw [List.getElem?_replicate] at hx'
    have hy' : (List.replicate 16 (AVal.own 2 []))[i]? = some y := hy
    rw [List.getElem?_replicate] at hy'
    split at hx'
    · rename_i h16
      rw [if_pos h16] at hy'
      cases hx'; cases hy'
      exact .inr ⟨rfl, 2, rfl⟩
    · cases hx'
  refine Run.range ps.length (fun i => ⟨tms [(3, .ptr 10 0), (11, .sl 2 (encPs ps)), (12, .int .i64 ps.length), (13, .int .i64 i)], mms [(10, .cells (encT ((ps.take i).foldl openOne tab0)))]⟩) (Wk.refl _ _) (fun i hi => ?_) ?_
  · have hq0 := TabLe.all tab0_le (ps.take i)
    obtain ⟨p, hp⟩ : ∃ p, ps[i]? = some p := ⟨ps[i], by simp [hi]⟩
    rw [foldl_take openOne tab0 ps hp]
    have hsum : ((ps.take i).map wt).sum + wt p ≤ (ps.map wt).sum := by
      have : ((ps.take (i + 1)).map wt).sum ≤ (ps.map wt).sum := by rw [List.map_take]; exact take_sum_le _
      rw [List.take_add_one, hp] at this
      simpa using this
    generalize (ps.take i).foldl openOne tab0 = u at hq0 ⊢
    generalize ((ps.take i).map wt).sum = m at hq0 hsum
    have hwt : wt p = p.vec.length + p.cloud.length := rfl
    have hv : p.vec.length ≤ 1000000000 := by omega
    have hc : p.cloud.length ≤ 1000000000 := by omega
    have e1 : ((i : Int) < (ps.length : Int)) = True := by simp only [eq_iff_iff, iff_true]; omega
    have e2 : (0 ≤ (i : Int)) = True := by simp
    have e3 : (encPs ps)[i]? = some (.agg [.sl 1 (encIs p.vec), .sl 3 (encSs p.cloud)]) := encPs_get hp
    have e4 : (encIs p.vec).length = p.vec.length := encIs_len _
    have e5 : (encSs p.cloud).length = p.cloud.length := encSs_len _
    have e13 : IntKind.i64.wrap ((i : Int) + 1) = ((i + 1 : Nat) : Int) := by rw [wrap_id (by omega)]; omega
    unfold t_k86_l1
    (focus (have hF := (And.intro (And.intro @e0 (And.intro @e1 @e2)) (And.intro @e3 (And.intro @e4 @e5))); (repeat' (first | refine go0 (k:=?_) | fail)); all_goals clear hF))
    refine Run.wk (Wk.toL [(3, .ptr 10 0), (11, .sl 2 (encPs ps)), (12, .int .i64 ps.length), (13, .int .i64 i), (5, .ptr 5 0), (20, .int .i64 (min p.vec.length 16)), (21, .int .i64 0)] [(10, .cells (encT u)), (5, .cells [.sl 1 (encIs p.vec), .sl 3 (encSs p.cloud)])] ⟨rfl, rfl, rfl, rfl, rfl, rfl, rfl, trivial⟩ ⟨rfl, rfl, trivial⟩ ⟨rfl, encPs_stb ps, rfl, rfl, rfl, rfl, rfl, trivial⟩ ⟨encT_no _ _, by simp [ABlk.no, AVal.noC, AVal.no, AVal.stb, encIs_stb, encSs_stb], trivial⟩) ?_
    refine open_l2 (.sl 2 (encPs ps)) (encPs_stb ps) _ _ p hv u (n0 := 0 + m) hq0 (by omega) ?_
    (focus (have hF := (And.intro (And.intro @e0 (And.intro @e1 @e2)) (And.intro @e3 (And.intro @e4 @e5))); (repeat' (first | refine go0 (k:=?_) | fail)); all_goals clear hF))
    refine Run.wk (Wk.toL [(3, .ptr 10 0), (11, .sl 2 (encPs ps)), (12, .int .i64 ps.length), (13, .int .i64 i), (43, .sl 3 (encSs p.cloud)), (44, .int .i64 p.cloud.length), (45, .int .i64 0)] [(10, .cells (encT (addVec p.vec u)))] ⟨rfl, rfl, rfl, rfl, rfl, rfl, rfl, trivial⟩ ⟨rfl, trivial⟩ ⟨rfl, encPs_stb ps, rfl, rfl, encSs_stb _, rfl, rfl, trivial⟩ ⟨encT_no _ _, trivial⟩) ?_
    refine open_l3 (.sl 2 (encPs ps)) (encPs_stb ps) _ _ p.cloud hc (addVec p.vec u) (n0 := 0 + m + min p.vec.length 16) (TabLe.range hq0 _) (by omega) ?_
    (focus (have hF := (And.intro (And.intro @e0 (And.intro @e1 @e2)) (And.intro (And.intro @e3 @e4) (And.intro @e5 @e13))); (repeat' (first | refine go0 (k:=?_) | fail)); all_goals clear hF))
    exact Fin.next (Wk.toL _ _ ⟨rfl, rfl, rfl, rfl, trivial⟩ ⟨rfl, trivial⟩ ⟨rfl, encPs_stb ps, rfl, rfl, trivial⟩ ⟨encT_no _ _, trivial⟩)
  · have e1 : ((ps.length : Int) < (ps.length : Int)) = False := by simp
    have e3 : ps.take ps.length = ps := List.take_length
    rw [e3]
    refine Run.wk (Wk.freeze (k := 10) (cs := encT (openT ps)) rfl) ?_
    unfold t_k86_l1
    (focus (have hF := (And.intro @e0 @e1); (repeat' (first | refine go0 (k:=?_) | fail)); all_goals clear hF))
    have hf : (encT (openT ps)).map frz = encTs (openT ps) := by
      unfold encT encTs
      rw [List.map_map]
      rfl
    refine Fin.done ⟨10, rfl, ?_, encTs_stb _⟩
    rw [← hf]
    rfl
theorem encTs_fz (K : Nat → Bool) (M : Mem) (t : Tab) : (encTs t).map (fzc K M) = encTs t := by
  unfold encTs
  rw [List.map_map]
  rfl
theorem encTs_set (t : Tab) (i : Nat) (l : List Rn) : (encTs t).set i (.sl 2 (encRs l)) = encTs (t.set i l) := by simp [encTs, List.map_set]
theorem ev_k122_of (p q : Pst) (g : FuncId) (h : Nat → List Rn) {N : Nat} (hp : wt p ≤ 100000000) (hq : wt q ≤ 100000000) (hN : N ≤ 50000000) (hlen : ∀ r, r < 16 → (h r).length ≤ N)
    (hf : ∀ r, r < 16 → Ev (En Tryz.prog rfl).P g [.sl 2 (encRs ((openT [p]).getD r [])), .sl 2 (encRs ((openT [q]).getD r []))] (.ret (.sl 2 (encRs (h r))))) :
    Ev (En Tryz.prog rfl).P 122 [encP p, encP q, .fn g []] (.ret (encP (pastT ((List.range 16).map h)))) := by
  refine Ev.of_body it_k122 (by simp) (Run.start ?_)
  unfold t_k122 encP
  have c1 := new_k86 [p] (by simp) (by simp; omega)
  have c2 := ev_k86 [q] (by simp) (by simp; omega)
  have ht : TabLe (openT [p]) (wt p) := by simpa using openT_le [p]
  have hu : TabLe (openT [q]) (wt q) := by simpa using openT_le [q]
  (focus (have hF := True.intro; (repeat' (first | refine go1 (k:=?_) | with_reducible refine Ny.of ?_ ?_ | (refine Hyp.of ?_; intro hc; (try simp only [hc]); (try simp only [Bh] at hc)))); all_goals clear hF))
  refine stNew [.sl 2 (encPs [p])] (he := c1) (k:=?_)
  (focus (have hF := True.intro; (repeat' (first | refine go1 (k:=?_) | with_reducible refine Ny.of ?_ ?_ | (refine Hyp.of ?_; intro hc; (try simp only [hc]); (try simp only [Bh] at hc)))); all_goals clear hF))
  refine stCall [.sl 2 (encPs [q])] (he := c2) (k:=?_)
  clear c1 c2
  generalize openT [p] = t at ht hf ⊢
  generalize openT [q] = u at hu hf ⊢
  have e2 : (encTs u).length = 16 := by rw [encTs_len, hu.1]
  have e1 : (encTs t).length = 16 := by rw [encTs_len, ht.1]
  (focus (have hF := (And.intro @e1 @e2); (repeat' (first | refine go1 (k:=?_) | with_reducible refine Ny.of ?_ ?_ | (refine Hyp.of ?_; intro hc; (try simp only [hc]); (try simp only [Bh] at hc)))); all_goals clear hF))
  refine Run.while (σ := Nat × Tab) (fun z => ⟨tms [(2, .fn g []), (6, .ptr 6 0), (7, .ptr 12 0), (8, .sptr (encTs u)), (16, .int .i64 (z.1 : Int))], mms [(6, .cells [.nil, .nil]), (12, .cells (encTs z.2))]⟩)
    (fun z => z.1 ≤ 16 ∧ z.2.length = 16 ∧ ∀ r, r < 16 → z.2.getD r [] = if r < z.1 then h r else t.getD r []) (fun z => 16 - z.1) (0, t) (have hW := @encTs_stb; stWk) ⟨Nat.zero_le _, ht.1, fun r _ => by rw [if_neg (Nat.not_lt_zero r)]⟩ ?_
  rintro ⟨i, T⟩ ⟨hi, hT, hrow⟩
  dsimp only at hi hT hrow ⊢
  have e3 : (encTs T).length = 16 := by rw [encTs_len, hT]
  unfold t_k122_l1
  by_cases hlt : i < 16
  · have hiT : i < T.length := by omega
    have hiu : i < u.length := by rw [hu.1]; exact hlt
    have hrT : T.getD i [] = t.getD i [] := by rw [hrow i hlt, if_neg (by omega)]
    have g1 := encTs_get hiT
    have g2 := drop_head (encTs_get hiu)
    rw [hrT] at g1
    have c3 := hf i hlt
    have hs : List.take i (encTs T) ++ [AVal.sl 2 (encRs (h i))] ++ List.drop (i + 1) (encTs T) = encTs (T.set i (h i)) := by
      rw [← encTs_set, List.set_eq_take_append_cons_drop, if_pos (by omega), List.append_assoc]
      rfl
    have hrow2 : ∀ r, r < 16 → (T.set i (h i)).getD r [] = if r < i + 1 then h r else t.getD r [] := fun r hr => by
      rw [List.getD_eq_getElem?_getD, List.getElem?_set]
      by_cases e : i = r
      · subst e
        rw [if_pos rfl, if_pos hiT, if_pos (by omega)]
        rfl
      · rw [if_neg e, ← List.getD_eq_getElem?_getD, hrow r hr]
        by_cases hr2 : r < i
        · rw [if_pos hr2, if_pos (by omega)]
        · rw [if_neg hr2, if_neg (by omega)]
    (focus (have hF := (And.intro (And.intro @e2 @e3) (And.intro @g1 @g2)); (repeat' (first | refine go1 (k:=?_) | with_reducible refine Ny.of ?_ ?_ | (refine Hyp.of ?_; intro hc; (try simp only [hc]); (try simp only [Bh] at hc)))); all_goals clear hF))
    refine stCall [.sl 2 (encRs (t.getD i [])), .sl 2 (encRs (u.getD i []))] (he := c3) (k:=?_)
    (focus (have hF := (And.intro (And.intro @e2 @e3) (And.intro @g1 @g2)); (repeat' (first | refine go1 (k:=?_) | with_reducible refine Ny.of ?_ ?_ | (refine Hyp.of ?_; intro hc; (try simp only [hc]); (try simp only [Bh] at hc)))); all_goals clear hF))
    rw [hs]
    (refine Fin.nextW ((i + 1, T.set i (h i))) ?_ (have hW := @encTs_stb; stWk); (try dsimp only))
    exact ⟨⟨by show i + 1 ≤ 16; omega, by show (T.set i (h i)).length = 16; rw [List.length_set]; exact hT, hrow2⟩, by show 16 - (i + 1) < 16 - i; omega⟩
  · have hTh : T = (List.range 16).map h := by
      refine List.ext_getElem (by simp [hT]) fun j h1 h2 => ?_
      have := hrow j (by omega)
      rw [if_pos (by omega), List.getD_eq_getElem?_getD, List.getElem?_eq_getElem h1] at this
      simpa using this
    rw [← hTh]
    have hTl : TabLe T N := by
      refine ⟨hT, fun r => ?_⟩
      by_cases hr : r < 16
      · rw [hrow r hr, if_pos (by omega)]; exact hlen r hr
      · rw [List.getD_eq_getElem?_getD, List.getElem?_eq_none (by omega)]; exact Nat.zero_le _
    have c4 := ev_k87 T hTl hN
    (focus (have hF := (And.intro @e2 @e3); (repeat' (first | refine go1 (k:=?_) | with_reducible refine Ny.of ?_ ?_ | (refine Hyp.of ?_; intro hc; (try simp only [hc]); (try simp only [Bh] at hc)))); all_goals clear hF))
    refine awp_give (fun j => j == 12) (l := [.sptr (encTs T)]) rfl ?hl (by simp [stbs, AVal.stb, encTs_stb]) c4 rfl ?k
    case hl =>
      show [AVal.sptr (((encTs T).map (fzc (fun j => j == 12) _)).drop 0)] = _
      rw [encTs_fz]
      rfl
    unfold encP
    (focus (have hF := True.intro; (repeat' (first | refine go1 (k:=?_) | with_reducible refine Ny.of ?_ ?_ | (refine Hyp.of ?_; intro hc; (try simp only [hc]); (try simp only [Bh] at hc)))); all_goals clear hF))
    exact Fin.all rfl (by simp [stbs, AVal.stb, encIs_stb, encSs_stb, fzc, allK]) rfl
def minusT (p q : Pst) (r : Nat) : List Rn := minusR ((openT [p]).getD r []) ((openT [q]).getD r [])
def minusP (p q : Pst) : Pst := pastT ((List.range 16).map (minusT p q))
theorem open_row (p : Pst) (r : Nat) : ((openT [p]).getD r []).length ≤ wt p := by
  have : TabLe (openT [p]) (wt p) := by simpa using openT_le [p]
  exact this.2 r
theorem ev_k73 (p q : Pst) (hp : wt p ≤ 20000000) (hq : wt q ≤ 20000000) : Ev (En Tryz.prog rfl).P 73 [encP p, encP q] (.ret (encP (minusP p q))) := by
  have c := ev_k122_of p q 123 (minusT p q) (N := 40000001) (by omega) (by omega) (by omega) (fun r hr => by
    have h1 := minusR_len ((openT [p]).getD r []) ((openT [q]).getD r [])
    have h4 := open_row p r
    have h5 := open_row q r
    unfold minusT
    omega) (fun r hr => ev_k123 _ _ (by have := open_row p r; omega) (by have := open_row q r; omega))
  refine Ev.of_body it_k73 (by simp) (Run.start ?_)
  unfold t_k73 encP
  (focus (have hF := True.intro; (repeat' (first | refine go1 (k:=?_) | with_reducible refine Ny.of ?_ ?_ | (refine Hyp.of ?_; intro hc; (try simp only [hc]); (try simp only [Bh] at hc)))); all_goals clear hF))
  refine stCall [encP p, encP q, .fn 123 []] (he := c) (k:=?_)
  unfold minusP encP
  (focus (have hF := True.intro; (repeat' (first | refine go1 (k:=?_) | with_reducible refine Ny.of ?_ ?_ | (refine Hyp.of ?_; intro hc; (try simp only [hc]); (try simp only [Bh] at hc)))); all_goals clear hF))
  exact Fin.all rfl (by simp [stbs, AVal.stb, encIs_stb, encSs_stb, fzc, allK]) rfl

theorem rows_in {h : Nat → List Rn} {r : Nat} (hr : r < 16) (n : Int) : inP (pastT ((List.range 16).map h)) r n ↔ mem1 (h r) n := by
  rw [past_in _ hr]
  unfold inT
  have : ((List.range 16).map h).getD r [] = h r := by
    rw [List.getD_eq_getElem?_getD, List.getElem?_map, List.getElem?_range hr]
    rfl
  rw [this]
theorem inP_row (p : Pst) {r : Nat} (hr : r < 16) (n : Int) : mem1 ((openT [p]).getD r []) n ↔ inP p r n := by
  show inT (openT [p]) r n ↔ _
  rw [open_in hr]
  simp
theorem minusP_in (p q : Pst) {r : Nat} (hr : r < 16) (n : Int) : inP (minusP p q) r n ↔ inP p r n ∧ ¬ inP q r n := by
  unfold minusP
  rw [rows_in hr, ← inP_row p hr, ← inP_row q hr]
  unfold minusT
  constructor
  · rintro ⟨h1, h2, h3⟩
    exact (minusR_in _ _ n).1 h3
  · intro h
    exact ⟨h.1.1, h.1.2.1, (minusR_in _ _ n).2 h⟩
theorem canP_minus (p q : Pst) : CanP (minusP p q) := canP_of _ (by simp)
theorem within_join1 (p q : Pst) : withinP p (joinP [p, q]) = true := withinP_iff.2 fun r hr n h => by rw [joinP_in _ hr]; simp [h]
theorem within_join2 (p q : Pst) : withinP q (joinP [p, q]) = true := withinP_iff.2 fun r hr n h => by rw [joinP_in _ hr]; simp [h]


def r_k61_1 : List SOp := [⟨some 1,.box 27 (.tmp 0),none⟩,⟨some 2,.alloc 27,none⟩]
instance : Live r_k61_1 := ⟨[0]⟩
def r_k61_2 : List SOp := [⟨some 3,.load 27 (.tmp 1),none⟩,⟨some 4,.call ⟨.value (.func 74),#[.tmp 3],#[27]⟩,none⟩,⟨some 5,.call ⟨.value (.func 109),#[.tmp 4],#[105]⟩,none⟩,⟨none,.store 27 (.tmp 2) (.tmp 5),none⟩]
instance : Live r_k61_2 := ⟨[1,2]⟩
def t_k61 : SC :=
  (.seq (.ops false r_k61_1) (.seq (.ops false r_k61_2) .ret))
theorem it_k61 : FnIs Tryz.prog 61 6 [.cell 2 27] t_k61 := ⟨Tryz.f61, _, Tryz.func61, rfl, rfl, rfl, rfl, by kernel_rfl⟩



theorem ev_k74 (p : Pst) (hw : wt p ≤ 800000000) : Ev (En Tryz.prog rfl).P 74 [encP p] (.ret (.agg (encSet (meanT [p])))) :=
  ev_k74_of p (meanT [p]) (meanT_len [p]) (ev_k124 [p] (by simp) (by simpa using hw))
theorem encSet_fzc (K : Nat → Bool) (M : Mem) (t : List (List Int)) : (encSet t).map (fzc K M) = encSet t := by
  unfold encSet
  rw [List.map_map]
  rfl
theorem ev_k61 (p : Pst) (hw : wt p ≤ 40000000) : Ev (En Tryz.prog rfl).P 61 [encP p] (.ret (encP (normP p))) := by
  have c1 := ev_k74 p (by omega)
  have c2 := ev_k109 (openT [p]) (n := wt p) (by simpa using openT_le [p]) (by omega)
  refine Ev.of_body it_k61 (by simp) (Run.start ?_)
  unfold t_k61 encP
  have hS := encSet_stb
  have hL := encSet_fzc
  (focus (have hF := True.intro; (repeat' (first | refine go1 (k:=?_) | with_reducible refine Ny.of ?_ ?_ | (refine Hyp.of ?_; intro hc; (try simp only [hc]); (try simp only [Bh] at hc)))); all_goals clear hF))
  refine stCall [encP p] (he := c1) (k:=?_)
  (focus (have hF := True.intro; (repeat' (first | refine go1 (k:=?_) | with_reducible refine Ny.of ?_ ?_ | (refine Hyp.of ?_; intro hc; (try simp only [hc]); (try simp only [Bh] at hc)))); all_goals clear hF))
  refine stCall [.agg (encSet (meanT [p]))] (he := c2) (k:=?_)
  unfold normP encP
  (focus (have hF := True.intro; (repeat' (first | refine go1 (k:=?_) | with_reducible refine Ny.of ?_ ?_ | (refine Hyp.of ?_; intro hc; (try simp only [hc]); (try simp only [Bh] at hc)))); all_goals clear hF))
  exact Fin.all rfl (by simp [stbs, AVal.stb, encIs_stb, encSs_stb, fzc, allK]) rfl

def r_k68_1 : List SOp := [⟨some 2,.box 27 (.tmp 0),none⟩,⟨some 3,.box 27 (.tmp 1),none⟩,⟨some 4,.assign (.const (.int .i64 0)),none⟩]
instance : Live r_k68_1 := ⟨[0,1]⟩
def r_k68_2 : List SOp := [⟨some 10,.load 27 (.tmp 2),none⟩,⟨some 11,.call ⟨.value (.func 41),#[.tmp 10],#[27]⟩,none⟩,⟨some 12,.load 27 (.tmp 3),none⟩,⟨some 13,.call ⟨.value (.func 41),#[.tmp 12],#[27]⟩,none⟩,⟨some 5,.alloc 27,none⟩,⟨some 6,.alloc 27,none⟩,⟨none,.store 27 (.tmp 5) (.tmp 11),none⟩,⟨none,.store 27 (.tmp 6) (.tmp 13),none⟩]
instance : Live r_k68_2 := ⟨[2,3]⟩
def r_k68_3 : List SOp := [⟨some 14,.move (.const (.int .i64 0)),none⟩]
instance : Live r_k68_3 := ⟨[5,6]⟩
def r_k68_4 : List SOp := [⟨some 15,.binOp .lss 3 (.tmp 14) (.const (.int .i64 16)) 3,none⟩]
instance : Live r_k68_4 := ⟨[5,6,14]⟩
def r_k68_5 : List SOp := [⟨some 16,.move (.tmp 14),none⟩,⟨some 7,.assign (.tmp 16),none⟩]
instance : Live r_k68_5 := ⟨[5,6,14]⟩
def r_k68_6 : List SOp := [⟨some 8,.assign (.const (.int .i64 0)),none⟩,⟨some 9,.assign (.const (.int .i64 0)),none⟩]
instance : Live r_k68_6 := ⟨[5,6,7,14]⟩
def r_k68_7 : List SOp := [⟨some 17,.move (.tmp 7),none⟩,⟨some 18,.fieldAddr 27 (.tmp 5) 0,none⟩,⟨some 19,.load 24 (.tmp 18),none⟩,⟨some 20,.call ⟨.builtin .len,#[.tmp 19],#[24]⟩,none⟩,⟨some 21,.binOp .lss 3 (.tmp 17) (.tmp 20) 3,none⟩]
instance : Live r_k68_7 := ⟨[5,6,7,8,9,14]⟩
def r_k68_8 : List SOp := [⟨some 22,.fieldAddr 27 (.tmp 5) 0,none⟩,⟨some 23,.load 24 (.tmp 22),none⟩,⟨some 24,.move (.tmp 7),none⟩,⟨some 25,.indexAddr 24 (.tmp 23) (.tmp 24),none⟩,⟨some 26,.load 3 (.tmp 25),none⟩,⟨some 8,.assign (.tmp 26),none⟩]
instance : Live r_k68_8 := ⟨[5,6,7,9,14]⟩
def r_k68_9 : List SOp := [⟨some 27,.move (.tmp 7),none⟩,⟨some 28,.fieldAddr 27 (.tmp 6) 0,none⟩,⟨some 29,.load 24 (.tmp 28),none⟩,⟨some 30,.call ⟨.builtin .len,#[.tmp 29],#[24]⟩,none⟩,⟨some 31,.binOp .lss 3 (.tmp 27) (.tmp 30) 3,none⟩]
instance : Live r_k68_9 := ⟨[5,6,7,8,9,14]⟩
def r_k68_10 : List SOp := [⟨some 32,.fieldAddr 27 (.tmp 6) 0,none⟩,⟨some 33,.load 24 (.tmp 32),none⟩,⟨some 34,.move (.tmp 7),none⟩,⟨some 35,.indexAddr 24 (.tmp 33) (.tmp 34),none⟩,⟨some 36,.load 3 (.tmp 35),none⟩,⟨some 9,.assign (.tmp 36),none⟩]
instance : Live r_k68_10 := ⟨[5,6,7,8,14]⟩
def r_k68_11 : List SOp := [⟨some 37,.move (.tmp 8),none⟩,⟨some 38,.move (.tmp 9),none⟩,⟨some 39,.binOp .neq 3 (.tmp 37) (.tmp 38) 3,none⟩]
instance : Live r_k68_11 := ⟨[5,6,8,9,14]⟩
def r_k68_12 : List SOp := [⟨some 40,.move (.tmp 8),none⟩,⟨some 41,.move (.tmp 9),none⟩,⟨some 42,.call ⟨.value (.func 114),#[.tmp 40,.tmp 41],#[3,3]⟩,none⟩,⟨some 4,.assign (.tmp 42),none⟩]
instance : Live r_k68_12 := ⟨[8,9]⟩
def r_k68_13 : List SOp := [⟨some 43,.binOp .add 3 (.tmp 14) (.const (.int .i64 1)) 3,none⟩,⟨some 14,.move (.tmp 43),none⟩]
instance : Live r_k68_13 := ⟨[5,6,14]⟩
def r_k68_14 : List SOp := [⟨some 44,.fieldAddr 27 (.tmp 5) 1,none⟩,⟨some 45,.load 25 (.tmp 44),none⟩,⟨some 46,.fieldAddr 27 (.tmp 6) 1,none⟩,⟨some 47,.load 25 (.tmp 46),none⟩,⟨some 48,.call ⟨.value (.func 115),#[.tmp 45,.tmp 47,.func 116],#[25,25,140]⟩,none⟩,⟨some 4,.assign (.tmp 48),none⟩]
instance : Live r_k68_14 := ⟨[5,6]⟩
def t_k68_l1 : SC :=
  (.seq (.ops false r_k68_4) (.seq (.cond (.tmp 15) .skip (.exit 0)) (.seq (.block 1 (.seq (.ops false r_k68_5) (.seq (.ops false r_k68_6) (.seq (.seq (.ops false r_k68_7) (.cond (.tmp 21) (.ops false r_k68_8) .skip)) (.seq (.seq (.ops false r_k68_9) (.cond (.tmp 31) (.ops false r_k68_10) .skip)) (.seq (.ops false r_k68_11) (.cond (.tmp 39) (.seq (.ops false r_k68_12) .ret) .skip))))))) (.ops false r_k68_13))))
def t_k68 : SC :=
  (.seq (.ops false r_k68_1) (.seq (.ops true r_k68_2) (.seq (.seq (.ops false r_k68_3) (.block 0 (.loop t_k68_l1))) (.seq (.ops false r_k68_14) .ret))))
theorem it_k68 : FnIs Tryz.prog 68 49 [.tmp 4] t_k68 := ⟨Tryz.f68, _, Tryz.func68, rfl, rfl, rfl, rfl, by kernel_rfl⟩

theorem ev_k68 (p q : Pst) (hp : wt p ≤ 50000000) (hq : wt q ≤ 50000000) : Ev (En Tryz.prog rfl).P 68 [encP p, encP q] (.ret (.int .i64 (cmpP p q))) := by
  refine Ev.of_body it_k68 (by simp) (Run.start ?_)
  unfold t_k68 encP
  have c1 := ev_k41 p (by omega)
  have c2 := ev_k41 q (by omega)
  have h1 := normP_wt p
  have h2 := normP_wt q
  have hr : cmpP p q = lexI (keyP (normP p)) (keyP (normP q)) := rfl
  rw [hr]
  (focus (have hF := True.intro; (repeat' (first | refine go1 (k:=?_) | with_reducible refine Ny.of ?_ ?_ | (refine Hyp.of ?_; intro hc; (try simp only [hc]); (try simp only [Bh] at hc)))); all_goals clear hF))
  refine stCall [encP p] (he := c1) (k:=?_)
  (focus (have hF := True.intro; (repeat' (first | refine go1 (k:=?_) | with_reducible refine Ny.of ?_ ?_ | (refine Hyp.of ?_; intro hc; (try simp only [hc]); (try simp only [Bh] at hc)))); all_goals clear hF))
  refine stCall [encP q] (he := c2) (k:=?_)
  clear c1 c2 hr
  generalize normP p = x at h1 ⊢
  generalize normP q = y at h2 ⊢
  unfold encP
  have hw1 : x.vec.length + x.cloud.length = wt x := rfl
  have hw2 : y.vec.length + y.cloud.length = wt y := rfl
  have e1 := encIs_len x.vec
  have e2 := encIs_len y.vec
  (focus (have hF := (And.intro @e1 @e2); (repeat' (first | refine go1 (k:=?_) | with_reducible refine Ny.of ?_ ?_ | (refine Hyp.of ?_; intro hc; (try simp only [hc]); (try simp only [Bh] at hc)))); all_goals clear hF))
  refine Run.while (σ := Nat) (fun i => ⟨tms [(5, .ptr 5 0), (6, .ptr 6 0), (14, .int .i64 (i : Int))], mms [(5, .cells [.sl 1 (encIs x.vec), .sl 3 (encSs x.cloud)]), (6, .cells [.sl 1 (encIs y.vec), .sl 3 (encSs y.cloud)])]⟩) (fun i => i ≤ 16 ∧ ∀ j, j < i → vv x j = vv y j) (fun i => 16 - i) 0 (have hW := (And.intro @encIs_stb @encSs_stb); stWk) ⟨Nat.zero_le _, fun j hj => absurd hj (Nat.not_lt_zero _)⟩ ?_
  rintro i ⟨hi, hp⟩
  unfold t_k68_l1
  by_cases hlt : i < 16
  · have hne : vv x i ≠ vv y i → lexI (keyP x) (keyP y) = cmpI (vv x i) (vv y i) := fun hn =>
      lexI_at (vecK x) (vecK y) i _ _ _ _ (vecK_get x hlt) (vecK_get y hlt) (fun j hj => by rw [vecK_get x (by omega), vecK_get y (by omega), hp j hj]) hn
    have heq : vv x i = vv y i → ∀ j, j < i + 1 → vv x j = vv y j := fun he j hj => by
      by_cases e : j = i
      · rw [e]; exact he
      · exact hp j (by omega)
    have k1 := ev_k114 (vv x i) (vv y i)
    unfold vv at hne heq k1
    by_cases hx : i < x.vec.length
    · have g1 : (encIs x.vec)[i]? = some (.int .i64 (vecAt x.vec i)) := encIs_get (by unfold vecAt; rw [List.getD_eq_getElem?_getD, List.getElem?_eq_getElem hx]; rfl)
      simp only [if_pos hx] at hne heq k1
      by_cases hy : i < y.vec.length
      · have g2 : (encIs y.vec)[i]? = some (.int .i64 (vecAt y.vec i)) := encIs_get (by unfold vecAt; rw [List.getD_eq_getElem?_getD, List.getElem?_eq_getElem hy]; rfl)
        simp only [if_pos hy] at hne heq k1
        (focus (have hF := (And.intro (And.intro @e1 @e2) (And.intro @g1 @g2)); (repeat' (first | refine go1 (k:=?_) | with_reducible refine Ny.of ?_ ?_ | (refine Hyp.of ?_; intro hc; (try simp only [hc]); (try simp only [Bh] at hc)))); all_goals clear hF))
        · rw [hne hc]
          refine stCall [.int .i64 (vecAt x.vec i), .int .i64 (vecAt y.vec i)] (he := k1) (k:=?_)
          (focus (have hF := True.intro; (repeat' (first | refine go1 (k:=?_) | with_reducible refine Ny.of ?_ ?_ | (refine Hyp.of ?_; intro hc; (try simp only [hc]); (try simp only [Bh] at hc)))); all_goals clear hF))
          exact Fin.tmp' rfl rfl
        · have h := heq hc
          (refine Fin.nextW (i + 1) ?_ (have hW := (And.intro @encIs_stb @encSs_stb); stWk); (try dsimp only))
          exact ⟨⟨hlt, h⟩, by omega⟩
      · simp only [if_neg hy] at hne heq k1
        (focus (have hF := (And.intro @e1 (And.intro @e2 @g1)); (repeat' (first | refine go1 (k:=?_) | with_reducible refine Ny.of ?_ ?_ | (refine Hyp.of ?_; intro hc; (try simp only [hc]); (try simp only [Bh] at hc)))); all_goals clear hF))
        · rw [hne hc]
          refine stCall [.int .i64 (vecAt x.vec i), .int .i64 0] (he := k1) (k:=?_)
          (focus (have hF := True.intro; (repeat' (first | refine go1 (k:=?_) | with_reducible refine Ny.of ?_ ?_ | (refine Hyp.of ?_; intro hc; (try simp only [hc]); (try simp only [Bh] at hc)))); all_goals clear hF))
          exact Fin.tmp' rfl rfl
        · have h := heq hc
          (refine Fin.nextW (i + 1) ?_ (have hW := (And.intro @encIs_stb @encSs_stb); stWk); (try dsimp only))
          exact ⟨⟨hlt, h⟩, by omega⟩
    · simp only [if_neg hx] at hne heq k1
      by_cases hy : i < y.vec.length
      · have g2 : (encIs y.vec)[i]? = some (.int .i64 (vecAt y.vec i)) := encIs_get (by unfold vecAt; rw [List.getD_eq_getElem?_getD, List.getElem?_eq_getElem hy]; rfl)
        simp only [if_pos hy] at hne heq k1
        (focus (have hF := (And.intro @e1 (And.intro @e2 @g2)); (repeat' (first | refine go1 (k:=?_) | with_reducible refine Ny.of ?_ ?_ | (refine Hyp.of ?_; intro hc; (try simp only [hc]); (try simp only [Bh] at hc)))); all_goals clear hF))
        · rw [hne hc]
          refine stCall [.int .i64 0, .int .i64 (vecAt y.vec i)] (he := k1) (k:=?_)
          (focus (have hF := True.intro; (repeat' (first | refine go1 (k:=?_) | with_reducible refine Ny.of ?_ ?_ | (refine Hyp.of ?_; intro hc; (try simp only [hc]); (try simp only [Bh] at hc)))); all_goals clear hF))
          exact Fin.tmp' rfl rfl
        · have h := heq hc
          (refine Fin.nextW (i + 1) ?_ (have hW := (And.intro @encIs_stb @encSs_stb); stWk); (try dsimp only))
          exact ⟨⟨hlt, h⟩, by omega⟩
      · simp only [if_neg hy] at hne heq k1
        (focus (have hF := (And.intro @e1 @e2); (repeat' (first | refine go1 (k:=?_) | with_reducible refine Ny.of ?_ ?_ | (refine Hyp.of ?_; intro hc; (try simp only [hc]); (try simp only [Bh] at hc)))); all_goals clear hF))
        have h := heq trivial
        (refine Fin.nextW (i + 1) ?_ (have hW := (And.intro @encIs_stb @encSs_stb); stWk); (try dsimp only))
        exact ⟨⟨hlt, h⟩, by omega⟩
  · have hv : vecK x = vecK y := by
      unfold vecK
      exact List.map_congr_left fun j hj => hp j (by rw [List.mem_range] at hj; omega)
    have k2 := ev_slicesCompareFunc x.cloud y.cloud (by omega) (by omega)
    have hk : lexI (keyP x) (keyP y) = cmpL x.cloud y.cloud := by
      unfold keyP
      rw [hv, lexI_app, cmpL_flat]
    rw [hk]
    (focus (have hF := (And.intro @e1 @e2); (repeat' (first | refine go1 (k:=?_) | with_reducible refine Ny.of ?_ ?_ | (refine Hyp.of ?_; intro hc; (try simp only [hc]); (try simp only [Bh] at hc)))); all_goals clear hF))
    refine stCall [.sl 3 (encSs x.cloud), .sl 3 (encSs y.cloud), .fn 116 []] (he := k2) (k:=?_)
    (focus (have hF := (And.intro @e1 @e2); (repeat' (first | refine go1 (k:=?_) | with_reducible refine Ny.of ?_ ?_ | (refine Hyp.of ?_; intro hc; (try simp only [hc]); (try simp only [Bh] at hc)))); all_goals clear hF))
    exact Fin.tmp' rfl rfl

theorem card_one {k : Int} (h1 : 1 ≤ k) (h2 : k ≤ 1000000000) : card (fun n => n = k) = 1 := by
  have h := card_run h1 (Int.le_refl k) h2
  have : card (fun n => k ≤ n ∧ n ≤ k) = card (fun n => n = k) := card_congr fun n _ _ => by omega
  omega

theorem bool_eq {a b : Bool} (h : a = true ↔ b = true) : a = b := by cases a <;> cases b <;> simp_all
theorem card_pos {q : Int → Prop} {k : Int} (h1 : 1 ≤ k) (h2 : k ≤ 1000000000) (h : q k) : 1 ≤ card q := by
  have e := card_part q (fun n => n = k)
  have : card (fun n => q n ∧ n = k) = card (fun n => n = k) := card_congr fun n _ _ => ⟨fun x => x.2, fun x => ⟨x ▸ h, x⟩⟩
  rw [this, card_one h1 h2] at e
  omega
theorem cardT_pos {q : Nat → Int → Prop} {r : Nat} {k : Int} (h1 : 1 ≤ k) (h2 : k ≤ 1000000000) (h : q r k) : ∀ {m : Nat}, r < m → 1 ≤ cardT q m
  | 0, hm => by omega
  | m + 1, hm => by
    show 1 ≤ cardT q m + card (q m)
    by_cases e : r = m
    · subst e
      have := card_pos h1 h2 h
      omega
    · have := cardT_pos h1 h2 h (m := m) (by omega)
      omega

theorem sum_le3 (f a b : Nat → Nat) (c : Nat) (h : ∀ r, f r ≤ a r + b r + c) : ∀ m, ((List.range m).map f).sum ≤ ((List.range m).map a).sum + ((List.range m).map b).sum + m * c
  | 0 => by simp
  | m + 1 => by
    have ih := sum_le3 f a b c h m
    have := h m
    rw [List.range_succ, List.map_append, List.map_append, List.map_append, List.sum_append, List.sum_append, List.sum_append, Nat.succ_mul]
    simp only [List.map_cons, List.map_nil, List.sum_cons, List.sum_nil]
    omega
theorem rows_wt (p q : Pst) (h : Nat → List Rn) (c : Nat) (hh : ∀ r, (h r).length ≤ ((openT [p]).getD r []).length + ((openT [q]).getD r []).length + c) : wt (pastT ((List.range 16).map h)) ≤ 16 + wt p + wt q + 16 * c := by
  have h1 := pastT_tot (t := (List.range 16).map h) (by simp)
  have h2 := sum_le3 (fun r => (h r).length) (fun r => ((openT [p]).getD r []).length) (fun r => ((openT [q]).getD r []).length) c hh 16
  have h3 := range_getD (openT [p])
  have h4 := range_getD (openT [q])
  have h5 := tot_openT [p]
  have h6 := tot_openT [q]
  rw [(openT_le [p]).1] at h3
  rw [(openT_le [q]).1] at h4
  simp only [List.map_cons, List.map_nil, List.sum_cons, List.sum_nil] at h5 h6
  have h7 : tot ((List.range 16).map h) = ((List.range 16).map fun r => (h r).length).sum := by
    unfold tot
    rw [List.map_map]
    rfl
  omega
theorem minusP_wt (p q : Pst) : wt (minusP p q) ≤ 32 + wt p + wt q := by
  have := rows_wt p q (minusT p q) 1 fun r => minusR_len _ _
  unfold minusP
  omega

def r_k110_1 : List SOp := [⟨some 1,.box 27 (.tmp 0),none⟩,⟨some 2,.assign (.const (.int .i64 0)),none⟩]
instance : Live r_k110_1 := ⟨[0]⟩
def r_k110_2 : List SOp := [⟨some 7,.load 27 (.tmp 1),none⟩,⟨some 8,.call ⟨.value (.func 74),#[.tmp 7],#[27]⟩,none⟩,⟨some 3,.alloc 105,none⟩,⟨none,.store 105 (.tmp 3) (.tmp 8),none⟩]
instance : Live r_k110_2 := ⟨[1]⟩
def r_k110_3 : List SOp := [⟨some 4,.assign (.const (.int .i64 0)),none⟩]
instance : Live r_k110_3 := ⟨[3]⟩
def r_k110_4 : List SOp := [⟨some 5,.assign (.const (.int .i64 0)),none⟩]
instance : Live r_k110_4 := ⟨[3,4]⟩
def r_k110_5 : List SOp := [⟨some 9,.move (.tmp 5),none⟩,⟨some 10,.binOp .lss 3 (.tmp 9) (.const (.int .i64 16)) 3,none⟩]
instance : Live r_k110_5 := ⟨[3,4,5]⟩
def r_k110_6 : List SOp := [⟨some 6,.assign (.const (.int .i64 0)),none⟩]
instance : Live r_k110_6 := ⟨[3,4,5]⟩
def r_k110_7 : List SOp := [⟨some 13,.move (.tmp 6),none⟩,⟨some 14,.binOp .add 3 (.tmp 13) (.const (.int .i64 1)) 3,none⟩,⟨some 15,.move (.tmp 5),none⟩,⟨some 16,.fieldAddr 105 (.tmp 3) 0,none⟩,⟨some 17,.indexAddr 103 (.tmp 16) (.tmp 15),none⟩,⟨some 18,.load 24 (.tmp 17),none⟩,⟨some 19,.call ⟨.builtin .len,#[.tmp 18],#[24]⟩,none⟩,⟨some 20,.binOp .lss 3 (.tmp 14) (.tmp 19) 3,none⟩]
instance : Live r_k110_7 := ⟨[3,4,5,6]⟩
def r_k110_8 : List SOp := [⟨some 23,.move (.tmp 4),none⟩,⟨some 24,.move (.tmp 5),none⟩,⟨some 25,.fieldAddr 105 (.tmp 3) 0,none⟩,⟨some 26,.indexAddr 103 (.tmp 25) (.tmp 24),none⟩,⟨some 27,.load 24 (.tmp 26),none⟩,⟨some 28,.move (.tmp 6),none⟩,⟨some 29,.binOp .add 3 (.tmp 28) (.const (.int .i64 1)) 3,none⟩,⟨some 30,.indexAddr 24 (.tmp 27) (.tmp 29),none⟩,⟨some 31,.load 3 (.tmp 30),none⟩,⟨some 32,.move (.tmp 5),none⟩,⟨some 33,.fieldAddr 105 (.tmp 3) 0,none⟩,⟨some 34,.indexAddr 103 (.tmp 33) (.tmp 32),none⟩,⟨some 35,.load 24 (.tmp 34),none⟩,⟨some 36,.move (.tmp 6),none⟩,⟨some 37,.indexAddr 24 (.tmp 35) (.tmp 36),none⟩,⟨some 38,.load 3 (.tmp 37),none⟩,⟨some 39,.binOp .sub 3 (.tmp 31) (.tmp 38) 3,none⟩,⟨some 40,.binOp .add 3 (.tmp 23) (.tmp 39) 3,none⟩,⟨some 4,.assign (.tmp 40),none⟩]
instance : Live r_k110_8 := ⟨[3,4,5,6]⟩
def r_k110_9 : List SOp := [⟨some 21,.move (.tmp 6),none⟩,⟨some 22,.binOp .add 3 (.tmp 21) (.const (.int .i64 2)) 3,none⟩,⟨some 6,.assign (.tmp 22),none⟩]
instance : Live r_k110_9 := ⟨[3,4,5,6]⟩
def r_k110_10 : List SOp := [⟨some 11,.move (.tmp 5),none⟩,⟨some 12,.binOp .add 3 (.tmp 11) (.const (.int .i64 1)) 3,none⟩,⟨some 5,.assign (.tmp 12),none⟩]
instance : Live r_k110_10 := ⟨[3,4,5]⟩
def r_k110_11 : List SOp := [⟨some 41,.move (.tmp 4),none⟩,⟨some 2,.assign (.tmp 41),none⟩]
instance : Live r_k110_11 := ⟨[4]⟩
def t_k110_l2 : SC :=
  (.seq (.seq (.ops false r_k110_7) (.cond (.tmp 20) .skip (.exit 2))) (.seq (.block 3 (.ops true r_k110_8)) (.ops false r_k110_9)))
def t_k110_l1 : SC :=
  (.seq (.seq (.ops false r_k110_5) (.cond (.tmp 10) .skip (.exit 0))) (.seq (.block 1 (.seq (.ops false r_k110_6) (.block 2 (.loop t_k110_l2)))) (.ops false r_k110_10)))
def t_k110 : SC :=
  (.seq (.ops false r_k110_1) (.seq (.ops false r_k110_2) (.seq (.ops false r_k110_3) (.seq (.seq (.ops false r_k110_4) (.block 0 (.loop t_k110_l1))) (.seq (.ops false r_k110_11) .ret)))))
theorem it_k110 : FnIs Tryz.prog 110 42 [.tmp 2] t_k110 := ⟨Tryz.f110, _, Tryz.func110, rfl, rfl, rfl, rfl, by kernel_rfl⟩

def r_k62_1 : List SOp := [⟨some 1,.box 27 (.tmp 0),none⟩,⟨some 2,.assign (.const (.bool false)),none⟩]
instance : Live r_k62_1 := ⟨[0]⟩
def r_k62_2 : List SOp := [⟨some 3,.load 27 (.tmp 1),none⟩,⟨some 4,.call ⟨.value (.func 110),#[.tmp 3],#[27]⟩,none⟩,⟨some 5,.binOp .eql 3 (.tmp 4) (.const (.int .i64 0)) 3,none⟩,⟨some 2,.assign (.tmp 5),none⟩]
instance : Live r_k62_2 := ⟨[1]⟩
def t_k62 : SC :=
  (.seq (.ops false r_k62_1) (.seq (.ops false r_k62_2) .ret))
theorem it_k62 : FnIs Tryz.prog 62 6 [.tmp 2] t_k62 := ⟨Tryz.f62, _, Tryz.func62, rfl, rfl, rfl, rfl, by kernel_rfl⟩


def r_k118_1 : List SOp := [⟨some 4,.assign (.const (.int .i64 0)),none⟩]
instance : Live r_k118_1 := ⟨[0,1]⟩
def r_k118_2 : List SOp := [⟨some 5,.move (.tmp 0),none⟩,⟨some 6,.move (.tmp 1),none⟩,⟨some 7,.binOp .lss 3 (.tmp 5) (.tmp 6) 3,none⟩]
instance : Live r_k118_2 := ⟨[0,1]⟩
def r_k118_3 : List SOp := [⟨some 4,.assign (.const (.int .i64 (-1))),none⟩]
instance : Live r_k118_3 := ⟨[]⟩
def r_k118_4 : List SOp := [⟨some 8,.move (.tmp 0),none⟩,⟨some 9,.move (.tmp 1),none⟩,⟨some 10,.binOp .gtr 3 (.tmp 8) (.tmp 9) 3,none⟩]
instance : Live r_k118_4 := ⟨[0,1]⟩
def r_k118_5 : List SOp := [⟨some 4,.assign (.const (.int .i64 1)),none⟩]
instance : Live r_k118_5 := ⟨[]⟩
def r_k118_6 : List SOp := [⟨some 4,.assign (.const (.int .i64 0)),none⟩]
instance : Live r_k118_6 := ⟨[]⟩
def t_k118 : SC :=
  (.seq (.ops false r_k118_1) (.seq (.seq (.ops false r_k118_2) (.cond (.tmp 7) (.seq (.ops false r_k118_3) .ret) .skip)) (.seq (.seq (.ops false r_k118_4) (.cond (.tmp 10) (.seq (.ops false r_k118_5) .ret) .skip)) (.seq (.ops false r_k118_6) .ret))))
theorem it_k118 : FnIs Tryz.prog 118 11 [.tmp 4] t_k118 := ⟨Tryz.f118, _, Tryz.func118, rfl, rfl, rfl, rfl, by kernel_rfl⟩

def r_k69_1 : List SOp := [⟨some 2,.box 27 (.tmp 0),none⟩,⟨some 3,.box 27 (.tmp 1),none⟩,⟨some 4,.assign (.const (.int .i64 0)),none⟩]
instance : Live r_k69_1 := ⟨[0,1]⟩
def r_k69_2 : List SOp := [⟨some 11,.load 27 (.tmp 2),none⟩,⟨some 12,.call ⟨.value (.func 61),#[.tmp 11],#[27]⟩,none⟩,⟨none,.store 27 (.tmp 2) (.tmp 12),none⟩]
instance : Live r_k69_2 := ⟨[2,3]⟩
def r_k69_3 : List SOp := [⟨some 13,.load 27 (.tmp 3),none⟩,⟨some 14,.call ⟨.value (.func 61),#[.tmp 13],#[27]⟩,none⟩,⟨none,.store 27 (.tmp 3) (.tmp 14),none⟩]
instance : Live r_k69_3 := ⟨[2,3]⟩
def r_k69_4 : List SOp := [⟨some 5,.assign (.const (.int .i64 0)),none⟩]
instance : Live r_k69_4 := ⟨[2,3]⟩
def r_k69_5 : List SOp := [⟨some 15,.move (.tmp 5),none⟩,⟨some 16,.binOp .lss 3 (.tmp 15) (.const (.int .i64 16)) 3,none⟩]
instance : Live r_k69_5 := ⟨[2,3,5]⟩
def r_k69_6 : List SOp := [⟨some 6,.assign (.const (.int .i64 0)),none⟩,⟨some 7,.assign (.const (.int .i64 0)),none⟩]
instance : Live r_k69_6 := ⟨[2,3,5]⟩
def r_k69_7 : List SOp := [⟨some 19,.move (.tmp 5),none⟩,⟨some 20,.fieldAddr 27 (.tmp 2) 0,none⟩,⟨some 21,.load 24 (.tmp 20),none⟩,⟨some 22,.call ⟨.builtin .len,#[.tmp 21],#[24]⟩,none⟩,⟨some 23,.binOp .lss 3 (.tmp 19) (.tmp 22) 3,none⟩]
instance : Live r_k69_7 := ⟨[2,3,5,6,7]⟩
def r_k69_8 : List SOp := [⟨some 24,.fieldAddr 27 (.tmp 2) 0,none⟩,⟨some 25,.load 24 (.tmp 24),none⟩,⟨some 26,.move (.tmp 5),none⟩,⟨some 27,.indexAddr 24 (.tmp 25) (.tmp 26),none⟩,⟨some 28,.load 3 (.tmp 27),none⟩,⟨some 6,.assign (.tmp 28),none⟩]
instance : Live r_k69_8 := ⟨[2,3,5,7]⟩
def r_k69_9 : List SOp := [⟨some 29,.move (.tmp 5),none⟩,⟨some 30,.fieldAddr 27 (.tmp 3) 0,none⟩,⟨some 31,.load 24 (.tmp 30),none⟩,⟨some 32,.call ⟨.builtin .len,#[.tmp 31],#[24]⟩,none⟩,⟨some 33,.binOp .lss 3 (.tmp 29) (.tmp 32) 3,none⟩]
instance : Live r_k69_9 := ⟨[2,3,5,6,7]⟩
def r_k69_10 : List SOp := [⟨some 34,.fieldAddr 27 (.tmp 3) 0,none⟩,⟨some 35,.load 24 (.tmp 34),none⟩,⟨some 36,.move (.tmp 5),none⟩,⟨some 37,.indexAddr 24 (.tmp 35) (.tmp 36),none⟩,⟨some 38,.load 3 (.tmp 37),none⟩,⟨some 7,.assign (.tmp 38),none⟩]
instance : Live r_k69_10 := ⟨[2,3,5,6]⟩
def r_k69_11 : List SOp := [⟨some 39,.move (.tmp 6),none⟩,⟨some 40,.move (.tmp 7),none⟩,⟨some 41,.binOp .neq 3 (.tmp 39) (.tmp 40) 3,none⟩]
instance : Live r_k69_11 := ⟨[2,3,5,6,7]⟩
def r_k69_12 : List SOp := [⟨some 42,.move (.tmp 6),none⟩,⟨some 43,.move (.tmp 7),none⟩,⟨some 44,.call ⟨.value (.func 118),#[.tmp 42,.tmp 43],#[3,3]⟩,none⟩,⟨some 4,.assign (.tmp 44),none⟩]
instance : Live r_k69_12 := ⟨[6,7]⟩
def r_k69_13 : List SOp := [⟨some 17,.move (.tmp 5),none⟩,⟨some 18,.binOp .add 3 (.tmp 17) (.const (.int .i64 1)) 3,none⟩,⟨some 5,.assign (.tmp 18),none⟩]
instance : Live r_k69_13 := ⟨[2,3,5]⟩
def r_k69_14 : List SOp := [⟨some 8,.assign (.const (.int .i64 0)),none⟩]
instance : Live r_k69_14 := ⟨[2,3]⟩
def r_k69_15 : List SOp := [⟨some 45,.move (.tmp 8),none⟩,⟨some 46,.fieldAddr 27 (.tmp 2) 1,none⟩,⟨some 47,.load 25 (.tmp 46),none⟩,⟨some 48,.call ⟨.builtin .len,#[.tmp 47],#[25]⟩,none⟩,⟨some 49,.binOp .lss 3 (.tmp 45) (.tmp 48) 3,none⟩,⟨some 50,.move (.tmp 49),none⟩,⟨some 51,.move (.tmp 8),some ((some 50),true)⟩,⟨some 52,.fieldAddr 27 (.tmp 3) 1,some ((some 50),true)⟩,⟨some 53,.load 25 (.tmp 52),some ((some 50),true)⟩,⟨some 54,.call ⟨.builtin .len,#[.tmp 53],#[25]⟩,some ((some 50),true)⟩,⟨some 55,.binOp .lss 3 (.tmp 51) (.tmp 54) 3,some ((some 50),true)⟩,⟨some 56,.pick (.tmp 50) (.tmp 55) (.const (.bool false)),none⟩]
instance : Live r_k69_15 := ⟨[2,3,8]⟩
def r_k69_16 : List SOp := [⟨some 59,.fieldAddr 27 (.tmp 2) 1,none⟩,⟨some 60,.load 25 (.tmp 59),none⟩,⟨some 61,.move (.tmp 8),none⟩,⟨some 62,.indexAddr 25 (.tmp 60) (.tmp 61),none⟩,⟨some 63,.load 89 (.tmp 62),none⟩,⟨some 64,.fieldAddr 27 (.tmp 3) 1,none⟩,⟨some 65,.load 25 (.tmp 64),none⟩,⟨some 66,.move (.tmp 8),none⟩,⟨some 67,.indexAddr 25 (.tmp 65) (.tmp 66),none⟩,⟨some 68,.load 89 (.tmp 67),none⟩,⟨some 9,.alloc 89,none⟩,⟨some 10,.alloc 89,none⟩,⟨none,.store 89 (.tmp 9) (.tmp 63),none⟩,⟨none,.store 89 (.tmp 10) (.tmp 68),none⟩]
instance : Live r_k69_16 := ⟨[2,3,8]⟩
instance : Rd r_k69_16 := ⟨fun j => j == 2 || j == 3⟩
def r_k69_17 : List SOp := [⟨some 69,.fieldAddr 89 (.tmp 9) 0,none⟩,⟨some 70,.load 3 (.tmp 69),none⟩,⟨some 71,.fieldAddr 89 (.tmp 10) 0,none⟩,⟨some 72,.load 3 (.tmp 71),none⟩,⟨some 73,.binOp .neq 3 (.tmp 70) (.tmp 72) 3,none⟩]
instance : Live r_k69_17 := ⟨[2,3,8,9,10]⟩
def r_k69_18 : List SOp := [⟨some 74,.fieldAddr 89 (.tmp 9) 0,none⟩,⟨some 75,.load 3 (.tmp 74),none⟩,⟨some 76,.fieldAddr 89 (.tmp 10) 0,none⟩,⟨some 77,.load 3 (.tmp 76),none⟩,⟨some 78,.call ⟨.value (.func 118),#[.tmp 75,.tmp 77],#[3,3]⟩,none⟩,⟨some 4,.assign (.tmp 78),none⟩]
instance : Live r_k69_18 := ⟨[9,10]⟩
def r_k69_19 : List SOp := [⟨some 79,.fieldAddr 89 (.tmp 9) 1,none⟩,⟨some 80,.load 3 (.tmp 79),none⟩,⟨some 81,.fieldAddr 89 (.tmp 10) 1,none⟩,⟨some 82,.load 3 (.tmp 81),none⟩,⟨some 83,.binOp .neq 3 (.tmp 80) (.tmp 82) 3,none⟩]
instance : Live r_k69_19 := ⟨[2,3,8,9,10]⟩
def r_k69_20 : List SOp := [⟨some 84,.fieldAddr 89 (.tmp 9) 1,none⟩,⟨some 85,.load 3 (.tmp 84),none⟩,⟨some 86,.fieldAddr 89 (.tmp 10) 1,none⟩,⟨some 87,.load 3 (.tmp 86),none⟩,⟨some 88,.call ⟨.value (.func 118),#[.tmp 85,.tmp 87],#[3,3]⟩,none⟩,⟨some 4,.assign (.tmp 88),none⟩]
instance : Live r_k69_20 := ⟨[9,10]⟩
def r_k69_21 : List SOp := [⟨some 89,.fieldAddr 89 (.tmp 9) 2,none⟩,⟨some 90,.load 3 (.tmp 89),none⟩,⟨some 91,.fieldAddr 89 (.tmp 10) 2,none⟩,⟨some 92,.load 3 (.tmp 91),none⟩,⟨some 93,.binOp .neq 3 (.tmp 90) (.tmp 92) 3,none⟩]
instance : Live r_k69_21 := ⟨[2,3,8,9,10]⟩
def r_k69_22 : List SOp := [⟨some 94,.fieldAddr 89 (.tmp 9) 2,none⟩,⟨some 95,.load 3 (.tmp 94),none⟩,⟨some 96,.fieldAddr 89 (.tmp 10) 2,none⟩,⟨some 97,.load 3 (.tmp 96),none⟩,⟨some 98,.call ⟨.value (.func 118),#[.tmp 95,.tmp 97],#[3,3]⟩,none⟩,⟨some 4,.assign (.tmp 98),none⟩]
instance : Live r_k69_22 := ⟨[9,10]⟩
def r_k69_23 : List SOp := [⟨some 57,.move (.tmp 8),none⟩,⟨some 58,.binOp .add 3 (.tmp 57) (.const (.int .i64 1)) 3,none⟩,⟨some 8,.assign (.tmp 58),none⟩]
instance : Live r_k69_23 := ⟨[2,3,8]⟩
def r_k69_24 : List SOp := [⟨some 99,.fieldAddr 27 (.tmp 2) 1,none⟩,⟨some 100,.load 25 (.tmp 99),none⟩,⟨some 101,.call ⟨.builtin .len,#[.tmp 100],#[25]⟩,none⟩,⟨some 102,.fieldAddr 27 (.tmp 3) 1,none⟩,⟨some 103,.load 25 (.tmp 102),none⟩,⟨some 104,.call ⟨.builtin .len,#[.tmp 103],#[25]⟩,none⟩,⟨some 105,.call ⟨.value (.func 118),#[.tmp 101,.tmp 104],#[3,3]⟩,none⟩,⟨some 4,.assign (.tmp 105),none⟩]
instance : Live r_k69_24 := ⟨[2,3]⟩
def t_k69_l1 : SC :=
  (.seq (.seq (.ops false r_k69_5) (.cond (.tmp 16) .skip (.exit 0))) (.seq (.block 1 (.seq (.ops false r_k69_6) (.seq (.seq (.ops false r_k69_7) (.cond (.tmp 23) (.ops false r_k69_8) .skip)) (.seq (.seq (.ops false r_k69_9) (.cond (.tmp 33) (.ops false r_k69_10) .skip)) (.seq (.ops false r_k69_11) (.cond (.tmp 41) (.seq (.ops false r_k69_12) .ret) .skip)))))) (.ops false r_k69_13)))
def t_k69_l2 : SC :=
  (.seq (.seq (.ops false r_k69_15) (.cond (.tmp 56) .skip (.exit 2))) (.seq (.block 3 (.seq (.opsW [] r_k69_16) (.seq (.seq (.ops false r_k69_17) (.cond (.tmp 73) (.seq (.ops false r_k69_18) .ret) .skip)) (.seq (.seq (.ops false r_k69_19) (.cond (.tmp 83) (.seq (.ops false r_k69_20) .ret) .skip)) (.seq (.ops false r_k69_21) (.cond (.tmp 93) (.seq (.ops false r_k69_22) .ret) .skip)))))) (.ops false r_k69_23)))
def t_k69 : SC :=
  (.seq (.ops false r_k69_1) (.seq (.ops false r_k69_2) (.seq (.ops false r_k69_3) (.seq (.seq (.ops false r_k69_4) (.block 0 (.loop t_k69_l1))) (.seq (.seq (.ops false r_k69_14) (.block 2 (.loop t_k69_l2))) (.seq (.ops false r_k69_24) .ret))))))
theorem it_k69 : FnIs Tryz.prog 69 106 [.tmp 4] t_k69 := ⟨Tryz.f69, _, Tryz.func69, rfl, rfl, rfl, rfl, by kernel_rfl⟩


theorem ev_k110 (p : Pst) (hw : wt p ≤ 50000000) : Ev (En Tryz.prog rfl).P 110 [encP p] (.ret (.int .i64 (sizeP p))) := by
  have c1 := ev_k74 p (by omega)
  refine Ev.of_body it_k110 (by simp) (Run.start ?_)
  unfold t_k110 encP
  have ht : TabLe (openT [p]) (wt p) := by simpa using openT_le [p]
  have hS := encSet_stb
  have hm : meanT [p] = (openT [p]).map turnsR := rfl
  have hp : sizeP p = sizeTab (openT [p]) 16 := rfl
  rw [hm] at c1
  rw [hp]
  have h16 : (encSet ((openT [p]).map turnsR)).length = 16 := by simp [encSet, ht.1]
  have hone := encSet_one ((openT [p]).map turnsR)
  have hst := encSet_stb ((openT [p]).map turnsR)
  (focus (have hF := True.intro; (repeat' (first | refine go1 (k:=?_) | with_reducible refine Ny.of ?_ ?_ | (refine Hyp.of ?_; intro hc; (try simp only [hc]); (try simp only [Bh] at hc)))); all_goals clear hF))
  refine stCall [encP p] (he := c1) (k:=?_)
  clear c1 hm hp
  generalize openT [p] = t at ht h16 hone hst ⊢
  (focus (have hF := (And.intro @h16 @hone); (repeat' (first | refine go1 (k:=?_) | with_reducible refine Ny.of ?_ ?_ | (refine Hyp.of ?_; intro hc; (try simp only [hc]); (try simp only [Bh] at hc)))); all_goals clear hF))
  refine Run.while (σ := Nat) (fun r => ⟨tms [(3, .ptr 3 0), (4, .int .i64 (sizeTab t r)), (5, .int .i64 (r : Int))], mms [(3, .cells (encSet (t.map turnsR)))]⟩)
    (fun r => r ≤ 16) (fun r => 16 - r) 0 (have hW := @hst; stWk) (Nat.zero_le _) ?_
  intro r hr
  unfold t_k110_l1
  by_cases hlt : r < 16
  · have hrt : r < t.length := by rw [ht.1]; exact hlt
    have hq := ht.2 r
    have g1 : (encSet (t.map turnsR))[r]? = some (.sl 1 (encIs (turnsC (normR (t.getD r []))))) := by
      rw [encSet_get (by rw [List.length_map]; exact hrt)]
      simp [List.getD_eq_getElem?_getD, hrt, turnsR]
    have hml := normR_len (t.getD r [])
    have hcan := normR_can (t.getD r [])
    have hb := sizeTab_bound ht r
    have hr16 : (r : Int) * (1000000000 * (wt p : Int)) ≤ 16 * (1000000000 * (wt p : Int)) := Int.mul_le_mul_of_nonneg_right (by omega) (by omega)
    have hnx := sizeTab_succ t r
    unfold sizeR at hnx
    generalize normR (t.getD r []) = m at g1 hml hcan hnx
    have g2 : (encIs (turnsC m)).length = 2 * m.length := by rw [encIs_len, turnsC_len]
    (focus (have hF := (And.intro @h16 @hone); (repeat' (first | refine go1 (k:=?_) | with_reducible refine Ny.of ?_ ?_ | (refine Hyp.of ?_; intro hc; (try simp only [hc]); (try simp only [Bh] at hc)))); all_goals clear hF))
    refine Run.while (σ := Nat) (fun c => ⟨tms [(3, .ptr 3 0), (4, .int .i64 ((m.take c).foldl sizeStep (sizeTab t r))), (5, .int .i64 (r : Int)), (6, .int .i64 ((2 * c : Nat) : Int))], mms [(3, .cells (encSet (t.map turnsR)))]⟩)
      (fun c => c ≤ m.length) (fun c => m.length - c) 0 (have hW := @hst; stWk) (Nat.zero_le _) ?_
    intro c hc
    unfold t_k110_l2
    by_cases hcl : c < m.length
    · obtain ⟨x, hx⟩ : ∃ x, m[c]? = some x := ⟨m[c], by simp [hcl]⟩
      have ⟨k1, k2⟩ := turns_at hx
      have k1' : (encIs (turnsC m))[2 * c]? = some (.int .i64 x.1) := encIs_get k1
      have k2' : (encIs (turnsC m))[2 * c + 1]? = some (.int .i64 (x.2 + 1)) := encIs_get k2
      have hxr := hcan.2 x (List.mem_of_getElem? hx)
      unfold okR at hxr
      have e8 : ((2 * c : Nat) : Int) + 1 = ((2 * c + 1 : Nat) : Int) := by omega
      have e9 : ((2 * c : Nat) : Int) + 2 = ((2 * (c + 1) : Nat) : Int) := by omega
      have hf : (m.take (c + 1)).foldl sizeStep (sizeTab t r) = (m.take c).foldl sizeStep (sizeTab t r) + (x.2 + 1 - x.1) := by
        rw [foldl_take sizeStep _ m hx]
        unfold sizeStep
        omega
      have hb2 := sizeFold_le (m := m.take c) (fun y hy => by have := hcan.2 y (List.mem_of_mem_take hy); unfold okR at this; omega) (sizeTab t r)
      have hb3 : (m.take c).length ≤ m.length := by rw [List.length_take]; omega
      generalize (m.take c).foldl sizeStep (sizeTab t r) = a at hf hb2 ⊢
      (focus (have hF := (And.intro (And.intro (And.intro @h16 @hone) (And.intro @g1 @g2)) (And.intro (And.intro @k1' @k2') (And.intro @e8 @e9))); (repeat' (first | refine go1 (k:=?_) | with_reducible refine Ny.of ?_ ?_ | (refine Hyp.of ?_; intro hc; (try simp only [hc]); (try simp only [Bh] at hc)))); all_goals clear hF))
      (refine Fin.nextW (c + 1) ?_ (have hW := (And.intro @hst @hf); stWk); (try dsimp only))
      omega
    · have hce : (m.take c).foldl sizeStep (sizeTab t r) = sizeTab t (r + 1) := by
        rw [show c = m.length by omega, List.take_length, sizeFold_shift, hnx]
      rw [hce]
      (focus (have hF := (And.intro (And.intro @h16 @hone) (And.intro @g1 @g2)); (repeat' (first | refine go1 (k:=?_) | with_reducible refine Ny.of ?_ ?_ | (refine Hyp.of ?_; intro hc; (try simp only [hc]); (try simp only [Bh] at hc)))); all_goals clear hF))
      (refine Fin.nextW (r + 1) ?_ (have hW := @hst; stWk); (try dsimp only))
      omega
  · rw [show r = 16 by omega]
    (focus (have hF := @h16; (repeat' (first | refine go1 (k:=?_) | with_reducible refine Ny.of ?_ ?_ | (refine Hyp.of ?_; intro hc; (try simp only [hc]); (try simp only [Bh] at hc)))); all_goals clear hF))
    exact Fin.tmp' rfl rfl
theorem ev_k62 (p : Pst) (hp : wt p ≤ 50000000) : Ev (En Tryz.prog rfl).P 62 [encP p] (.ret (.bool (decide (sizeP p = 0)))) := by
  refine Ev.of_body it_k62 (by simp) (Run.start ?_)
  unfold t_k62 encP
  (focus (have hF := True.intro; (repeat' (first | refine go1 (k:=?_) | with_reducible refine Ny.of ?_ ?_ | (refine Hyp.of ?_; intro hc; (try simp only [hc]); (try simp only [Bh] at hc)))); all_goals clear hF))
  refine stCall [encP p] (he := ev_k110 p hp) (k:=?_)
  (focus (have hF := True.intro; (repeat' (first | refine go1 (k:=?_) | with_reducible refine Ny.of ?_ ?_ | (refine Hyp.of ?_; intro hc; (try simp only [hc]); (try simp only [Bh] at hc)))); all_goals clear hF))
  exact Fin.tmp' rfl rfl
theorem ev_k118 (a b : Int) : Ev (En Tryz.prog rfl).P 118 [.int .i64 a, .int .i64 b] (.ret (.int .i64 (cmpI a b))) := by
  refine Ev.of_body it_k118 (by simp) (Run.start ?_)
  unfold t_k118
  by_cases h1 : a < b
  · rw [show cmpI a b = -1 from if_pos h1]
    (focus (have hF := True.intro; (repeat' (first | refine go1 (k:=?_) | with_reducible refine Ny.of ?_ ?_ | (refine Hyp.of ?_; intro hc; (try simp only [hc]); (try simp only [Bh] at hc)))); all_goals clear hF))
    exact Fin.tmp' rfl rfl
  · by_cases h2 : b < a
    · rw [show cmpI a b = 1 by unfold cmpI; rw [if_neg h1, if_pos h2]]
      (focus (have hF := True.intro; (repeat' (first | refine go1 (k:=?_) | with_reducible refine Ny.of ?_ ?_ | (refine Hyp.of ?_; intro hc; (try simp only [hc]); (try simp only [Bh] at hc)))); all_goals clear hF))
      exact Fin.tmp' rfl rfl
    · rw [show cmpI a b = 0 by unfold cmpI; rw [if_neg h1, if_neg h2]]
      (focus (have hF := True.intro; (repeat' (first | refine go1 (k:=?_) | with_reducible refine Ny.of ?_ ?_ | (refine Hyp.of ?_; intro hc; (try simp only [hc]); (try simp only [Bh] at hc)))); all_goals clear hF))
      exact Fin.tmp' rfl rfl

theorem cmpS_def (s t : Sn) : cmpS s t = if cmpI s.1 t.1 = 0 then (if cmpI s.2.1 t.2.1 = 0 then cmpI s.2.2 t.2.2 else cmpI s.2.1 t.2.1) else cmpI s.1 t.1 := by
  unfold cmpS
  simp only [orI]
  split
  · split
    · split
      · rename_i h; exact h.symm
      · rfl
    · rfl
  · rfl
theorem cmpI_zero {a b : Int} : cmpI a b = 0 ↔ a = b := by
  unfold cmpI
  split
  · constructor
    · intro h; simp at h
    · intro h; omega
  · split
    · constructor
      · intro h; simp at h
      · intro h; omega
    · constructor
      · intro _; omega
      · intro _; rfl
theorem ev_k69 (p q : Pst) (hp : wt p ≤ 30000000) (hq : wt q ≤ 30000000) : Ev (En Tryz.prog rfl).P 69 [encP p, encP q] (.ret (.int .i64 (cmpP p q))) := by
  refine Ev.of_body it_k69 (by simp) (Run.start ?_)
  unfold t_k69 encP
  have c1 := ev_k61 p (by omega)
  have c2 := ev_k61 q (by omega)
  have h1 := normP_wt p
  have h2 := normP_wt q
  have hr : cmpP p q = lexI (keyP (normP p)) (keyP (normP q)) := rfl
  rw [hr]
  (focus (have hF := True.intro; (repeat' (first | refine go1 (k:=?_) | with_reducible refine Ny.of ?_ ?_ | (refine Hyp.of ?_; intro hc; (try simp only [hc]); (try simp only [Bh] at hc)))); all_goals clear hF))
  refine stCall [encP p] (he := c1) (k:=?_)
  unfold encP
  (focus (have hF := True.intro; (repeat' (first | refine go1 (k:=?_) | with_reducible refine Ny.of ?_ ?_ | (refine Hyp.of ?_; intro hc; (try simp only [hc]); (try simp only [Bh] at hc)))); all_goals clear hF))
  refine stCall [encP q] (he := c2) (k:=?_)
  clear c1 c2 hr
  generalize normP p = x at h1 ⊢
  generalize normP q = y at h2 ⊢
  unfold encP
  have hw1 : x.vec.length + x.cloud.length = wt x := rfl
  have hw2 : y.vec.length + y.cloud.length = wt y := rfl
  have e1 := encIs_len x.vec
  have e2 := encIs_len y.vec
  have e3 := encSs_len x.cloud
  have e4 := encSs_len y.cloud
  (focus (have hF := (And.intro @e1 @e2); (repeat' (first | refine go1 (k:=?_) | with_reducible refine Ny.of ?_ ?_ | (refine Hyp.of ?_; intro hc; (try simp only [hc]); (try simp only [Bh] at hc)))); all_goals clear hF))
  refine Run.while (σ := Nat) (fun i => ⟨tms [(2, .ptr 2 0), (3, .ptr 3 0), (5, .int .i64 (i : Int))], mms [(2, .cells [.sl 1 (encIs x.vec), .sl 3 (encSs x.cloud)]), (3, .cells [.sl 1 (encIs y.vec), .sl 3 (encSs y.cloud)])]⟩) (fun i => i ≤ 16 ∧ ∀ j, j < i → vv x j = vv y j) (fun i => 16 - i) 0 (have hW := (And.intro @encIs_stb @encSs_stb); stWk) ⟨Nat.zero_le _, fun j hj => absurd hj (Nat.not_lt_zero _)⟩ ?_
  rintro i ⟨hi, hp⟩
  unfold t_k69_l1
  by_cases hlt : i < 16
  · have hne : vv x i ≠ vv y i → lexI (keyP x) (keyP y) = cmpI (vv x i) (vv y i) := fun hn =>
      lexI_at (vecK x) (vecK y) i _ _ _ _ (vecK_get x hlt) (vecK_get y hlt) (fun j hj => by rw [vecK_get x (by omega), vecK_get y (by omega), hp j hj]) hn
    have heq : vv x i = vv y i → ∀ j, j < i + 1 → vv x j = vv y j := fun he j hj => by
      by_cases e : j = i
      · rw [e]; exact he
      · exact hp j (by omega)
    have k1 := ev_k118 (vv x i) (vv y i)
    unfold vv at hne heq k1
    by_cases hx : i < x.vec.length
    · have g1 : (encIs x.vec)[i]? = some (.int .i64 (vecAt x.vec i)) := encIs_get (by unfold vecAt; rw [List.getD_eq_getElem?_getD, List.getElem?_eq_getElem hx]; rfl)
      simp only [if_pos hx] at hne heq k1
      by_cases hy : i < y.vec.length
      · have g2 : (encIs y.vec)[i]? = some (.int .i64 (vecAt y.vec i)) := encIs_get (by unfold vecAt; rw [List.getD_eq_getElem?_getD, List.getElem?_eq_getElem hy]; rfl)
        simp only [if_pos hy] at hne heq k1
        (focus (have hF := (And.intro (And.intro @e1 @e2) (And.intro @g1 @g2)); (repeat' (first | refine go1 (k:=?_) | with_reducible refine Ny.of ?_ ?_ | (refine Hyp.of ?_; intro hc; (try simp only [hc]); (try simp only [Bh] at hc)))); all_goals clear hF))
        · rw [hne hc]
          refine stCall [.int .i64 (vecAt x.vec i), .int .i64 (vecAt y.vec i)] (he := k1) (k:=?_)
          (focus (have hF := True.intro; (repeat' (first | refine go1 (k:=?_) | with_reducible refine Ny.of ?_ ?_ | (refine Hyp.of ?_; intro hc; (try simp only [hc]); (try simp only [Bh] at hc)))); all_goals clear hF))
          exact Fin.tmp' rfl rfl
        · have h := heq hc
          (refine Fin.nextW (i + 1) ?_ (have hW := (And.intro @encIs_stb @encSs_stb); stWk); (try dsimp only))
          exact ⟨⟨hlt, h⟩, by omega⟩
      · simp only [if_neg hy] at hne heq k1
        (focus (have hF := (And.intro @e1 (And.intro @e2 @g1)); (repeat' (first | refine go1 (k:=?_) | with_reducible refine Ny.of ?_ ?_ | (refine Hyp.of ?_; intro hc; (try simp only [hc]); (try simp only [Bh] at hc)))); all_goals clear hF))
        · rw [hne hc]
          refine stCall [.int .i64 (vecAt x.vec i), .int .i64 0] (he := k1) (k:=?_)
          (focus (have hF := True.intro; (repeat' (first | refine go1 (k:=?_) | with_reducible refine Ny.of ?_ ?_ | (refine Hyp.of ?_; intro hc; (try simp only [hc]); (try simp only [Bh] at hc)))); all_goals clear hF))
          exact Fin.tmp' rfl rfl
        · have h := heq hc
          (refine Fin.nextW (i + 1) ?_ (have hW := (And.intro @encIs_stb @encSs_stb); stWk); (try dsimp only))
          exact ⟨⟨hlt, h⟩, by omega⟩
    · simp only [if_neg hx] at hne heq k1
      by_cases hy : i < y.vec.length
      · have g2 : (encIs y.vec)[i]? = some (.int .i64 (vecAt y.vec i)) := encIs_get (by unfold vecAt; rw [List.getD_eq_getElem?_getD, List.getElem?_eq_getElem hy]; rfl)
        simp only [if_pos hy] at hne heq k1
        (focus (have hF := (And.intro @e1 (And.intro @e2 @g2)); (repeat' (first | refine go1 (k:=?_) | with_reducible refine Ny.of ?_ ?_ | (refine Hyp.of ?_; intro hc; (try simp only [hc]); (try simp only [Bh] at hc)))); all_goals clear hF))
        · rw [hne hc]
          refine stCall [.int .i64 0, .int .i64 (vecAt y.vec i)] (he := k1) (k:=?_)
          (focus (have hF := True.intro; (repeat' (first | refine go1 (k:=?_) | with_reducible refine Ny.of ?_ ?_ | (refine Hyp.of ?_; intro hc; (try simp only [hc]); (try simp only [Bh] at hc)))); all_goals clear hF))
          exact Fin.tmp' rfl rfl
        · have h := heq hc
          (refine Fin.nextW (i + 1) ?_ (have hW := (And.intro @encIs_stb @encSs_stb); stWk); (try dsimp only))
          exact ⟨⟨hlt, h⟩, by omega⟩
      · simp only [if_neg hy] at hne heq k1
        (focus (have hF := (And.intro @e1 @e2); (repeat' (first | refine go1 (k:=?_) | with_reducible refine Ny.of ?_ ?_ | (refine Hyp.of ?_; intro hc; (try simp only [hc]); (try simp only [Bh] at hc)))); all_goals clear hF))
        have h := heq trivial
        (refine Fin.nextW (i + 1) ?_ (have hW := (And.intro @encIs_stb @encSs_stb); stWk); (try dsimp only))
        exact ⟨⟨hlt, h⟩, by omega⟩
  · have hv : vecK x = vecK y := by
      unfold vecK
      exact List.map_congr_left fun j hj => hp j (by rw [List.mem_range] at hj; omega)
    have hk : lexI (keyP x) (keyP y) = cmpL x.cloud y.cloud := by
      unfold keyP
      rw [hv, lexI_app, cmpL_flat]
    rw [hk]
    (focus (have hF := (And.intro @e1 @e2); (repeat' (first | refine go1 (k:=?_) | with_reducible refine Ny.of ?_ ?_ | (refine Hyp.of ?_; intro hc; (try simp only [hc]); (try simp only [Bh] at hc)))); all_goals clear hF))
    refine Run.while (σ := Nat) (fun i => ⟨tms [(2, .ptr 2 0), (3, .ptr 3 0), (8, .int .i64 (i : Int))], mms [(2, .cells [.sl 1 (encIs x.vec), .sl 3 (encSs x.cloud)]), (3, .cells [.sl 1 (encIs y.vec), .sl 3 (encSs y.cloud)])]⟩) (fun i => i ≤ x.cloud.length ∧ i ≤ y.cloud.length ∧ cmpL (x.cloud.drop i) (y.cloud.drop i) = cmpL x.cloud y.cloud) (fun i => x.cloud.length - i) 0 (have hW := (And.intro @encIs_stb @encSs_stb); stWk) ⟨Nat.zero_le _, Nat.zero_le _, by rw [List.drop_zero, List.drop_zero]⟩ ?_
    clear hlt hi hp
    rintro i ⟨hi, hi2, hp⟩
    unfold t_k69_l2
    by_cases hlt : i < x.cloud.length ∧ i < y.cloud.length
    · obtain ⟨hla, hlb⟩ := hlt
      obtain ⟨s, hs⟩ : ∃ s, x.cloud[i]? = some s := ⟨x.cloud[i], by simp [hla]⟩
      obtain ⟨t, ht⟩ : ∃ t, y.cloud[i]? = some t := ⟨y.cloud[i], by simp [hlb]⟩
      have g1 := encSs_get hs
      have g2 := encSs_get ht
      obtain ⟨_, hxa⟩ := List.getElem?_eq_some_iff.1 hs
      obtain ⟨_, hyb⟩ := List.getElem?_eq_some_iff.1 ht
      have hd : cmpL x.cloud y.cloud = if cmpS s t = 0 then cmpL (x.cloud.drop (i + 1)) (y.cloud.drop (i + 1)) else cmpS s t := by
        rw [← hp, List.drop_eq_getElem_cons hla, List.drop_eq_getElem_cons hlb, hxa, hyb]
        rfl
      rw [cmpS_def] at hd
      have k1 := ev_k118 s.1 t.1
      have k2 := ev_k118 s.2.1 t.2.1
      have k3 := ev_k118 s.2.2 t.2.2
      unfold encS at g1 g2
      by_cases q1 : s.1 = t.1
      · rw [if_pos (cmpI_zero.2 q1)] at hd
        by_cases q2 : s.2.1 = t.2.1
        · rw [if_pos (cmpI_zero.2 q2)] at hd
          by_cases q3 : s.2.2 = t.2.2
          · rw [if_pos (cmpI_zero.2 q3)] at hd
            (focus (have hF := (And.intro (And.intro (And.intro @e1 @e2) (And.intro @e3 @e4)) (And.intro (And.intro @g1 @g2) (And.intro @q1 (And.intro @q2 @q3)))); (repeat' (first | refine go2 (k:=?_) | with_reducible refine Ny.of ?_ ?_ | (refine Hyp.of ?_; intro hc; (try simp only [hc]); (try simp only [Bh] at hc)))); all_goals clear hF))
            (refine Fin.nextW (i + 1) ?_ (have hW := (And.intro @encIs_stb @encSs_stb); stWk); (try dsimp only))
            exact ⟨⟨hla, hlb, hd.symm⟩, by omega⟩
          · rw [if_neg (fun h => q3 (cmpI_zero.1 h))] at hd
            rw [hd]
            (focus (have hF := (And.intro (And.intro (And.intro @e1 @e2) (And.intro @e3 @e4)) (And.intro (And.intro @g1 @g2) (And.intro @q1 (And.intro @q2 @q3)))); (repeat' (first | refine go2 (k:=?_) | with_reducible refine Ny.of ?_ ?_ | (refine Hyp.of ?_; intro hc; (try simp only [hc]); (try simp only [Bh] at hc)))); all_goals clear hF))
            refine stCall [.int .i64 s.2.2, .int .i64 t.2.2] (he := k3) (k:=?_)
            (focus (have hF := True.intro; (repeat' (first | refine go1 (k:=?_) | with_reducible refine Ny.of ?_ ?_ | (refine Hyp.of ?_; intro hc; (try simp only [hc]); (try simp only [Bh] at hc)))); all_goals clear hF))
            exact Fin.tmp' rfl rfl
        · have hd2 : ¬ cmpI s.2.1 t.2.1 = 0 := fun h => q2 (cmpI_zero.1 h)
          rw [if_neg hd2, if_neg hd2] at hd
          rw [hd]
          (focus (have hF := (And.intro (And.intro (And.intro @e1 @e2) (And.intro @e3 @e4)) (And.intro (And.intro @g1 @g2) (And.intro @q1 @q2))); (repeat' (first | refine go2 (k:=?_) | with_reducible refine Ny.of ?_ ?_ | (refine Hyp.of ?_; intro hc; (try simp only [hc]); (try simp only [Bh] at hc)))); all_goals clear hF))
          refine stCall [.int .i64 s.2.1, .int .i64 t.2.1] (he := k2) (k:=?_)
          (focus (have hF := True.intro; (repeat' (first | refine go1 (k:=?_) | with_reducible refine Ny.of ?_ ?_ | (refine Hyp.of ?_; intro hc; (try simp only [hc]); (try simp only [Bh] at hc)))); all_goals clear hF))
          exact Fin.tmp' rfl rfl
      · have hd2 : ¬ cmpI s.1 t.1 = 0 := fun h => q1 (cmpI_zero.1 h)
        rw [if_neg hd2, if_neg hd2] at hd
        rw [hd]
        (focus (have hF := (And.intro (And.intro @e1 (And.intro @e2 @e3)) (And.intro (And.intro @e4 @g1) (And.intro @g2 @q1))); (repeat' (first | refine go2 (k:=?_) | with_reducible refine Ny.of ?_ ?_ | (refine Hyp.of ?_; intro hc; (try simp only [hc]); (try simp only [Bh] at hc)))); all_goals clear hF))
        refine stCall [.int .i64 s.1, .int .i64 t.1] (he := k1) (k:=?_)
        (focus (have hF := True.intro; (repeat' (first | refine go1 (k:=?_) | with_reducible refine Ny.of ?_ ?_ | (refine Hyp.of ?_; intro hc; (try simp only [hc]); (try simp only [Bh] at hc)))); all_goals clear hF))
        exact Fin.tmp' rfl rfl
    · have hd : cmpL x.cloud y.cloud = cmpI (x.cloud.length : Int) (y.cloud.length : Int) := by
        rw [← hp]
        by_cases ha : i < x.cloud.length
        · have hb : ¬ i < y.cloud.length := fun h => hlt ⟨ha, h⟩
          rw [List.drop_eq_getElem_cons ha, List.drop_eq_nil_of_le (show y.cloud.length ≤ i by omega)]
          unfold cmpI
          rw [if_neg (by omega), if_pos (by omega)]
          rfl
        · by_cases hb : i < y.cloud.length
          · rw [List.drop_eq_nil_of_le (show x.cloud.length ≤ i by omega), List.drop_eq_getElem_cons hb]
            unfold cmpI
            rw [if_pos (by omega)]
            rfl
          · rw [List.drop_eq_nil_of_le (show x.cloud.length ≤ i by omega), List.drop_eq_nil_of_le (show y.cloud.length ≤ i by omega)]
            unfold cmpI
            rw [if_neg (by omega), if_neg (by omega)]
            rfl
      rw [hd]
      have k1 := ev_k118 (x.cloud.length : Int) (y.cloud.length : Int)
      by_cases ha : i < x.cloud.length
      · have hb : ¬ i < y.cloud.length := fun h => hlt ⟨ha, h⟩
        (focus (have hF := (And.intro (And.intro @e1 @e2) (And.intro @e3 @e4)); (repeat' (first | refine go1 (k:=?_) | with_reducible refine Ny.of ?_ ?_ | (refine Hyp.of ?_; intro hc; (try simp only [hc]); (try simp only [Bh] at hc)))); all_goals clear hF))
        refine stCall [.int .i64 (x.cloud.length : Int), .int .i64 (y.cloud.length : Int)] (he := k1) (k:=?_)
        (focus (have hF := True.intro; (repeat' (first | refine go1 (k:=?_) | with_reducible refine Ny.of ?_ ?_ | (refine Hyp.of ?_; intro hc; (try simp only [hc]); (try simp only [Bh] at hc)))); all_goals clear hF))
        exact Fin.tmp' rfl rfl
      · (focus (have hF := (And.intro (And.intro @e1 @e2) (And.intro @e3 @e4)); (repeat' (first | refine go1 (k:=?_) | with_reducible refine Ny.of ?_ ?_ | (refine Hyp.of ?_; intro hc; (try simp only [hc]); (try simp only [Bh] at hc)))); all_goals clear hF))
        refine stCall [.int .i64 (x.cloud.length : Int), .int .i64 (y.cloud.length : Int)] (he := k1) (k:=?_)
        (focus (have hF := True.intro; (repeat' (first | refine go1 (k:=?_) | with_reducible refine Ny.of ?_ ?_ | (refine Hyp.of ?_; intro hc; (try simp only [hc]); (try simp only [Bh] at hc)))); all_goals clear hF))
        exact Fin.tmp' rfl rfl

def r_k113_1 : List SOp := [⟨some 4,.assign (.const (.int .i64 0)),none⟩]
instance : Live r_k113_1 := ⟨[0,1]⟩
def r_k113_2 : List SOp := [⟨some 5,.move (.tmp 0),none⟩,⟨some 6,.move (.tmp 1),none⟩,⟨some 7,.call ⟨.value (.func 155),#[.tmp 5,.tmp 6],#[9,9]⟩,none⟩,⟨some 4,.assign (.tmp 7),none⟩]
instance : Live r_k113_2 := ⟨[0,1]⟩
def t_k113 : SC :=
  (.seq (.ops false r_k113_1) (.seq (.ops false r_k113_2) .ret))
theorem it_k113 : FnIs Tryz.prog 113 8 [.tmp 4] t_k113 := ⟨Tryz.f113, _, Tryz.func113, rfl, rfl, rfl, rfl, by kernel_rfl⟩

def r_k67_1 : List SOp := [⟨some 4,.assign (.const (.int .i64 0)),none⟩]
instance : Live r_k67_1 := ⟨[0,1]⟩
def r_k67_2 : List SOp := [⟨some 5,.move (.tmp 0),none⟩,⟨some 6,.move (.tmp 1),none⟩,⟨some 7,.call ⟨.value (.func 113),#[.tmp 5,.tmp 6],#[9,9]⟩,none⟩,⟨some 4,.assign (.tmp 7),none⟩]
instance : Live r_k67_2 := ⟨[0,1]⟩
def t_k67 : SC :=
  (.seq (.ops false r_k67_1) (.seq (.ops false r_k67_2) .ret))
theorem it_k67 : FnIs Tryz.prog 67 8 [.tmp 4] t_k67 := ⟨Tryz.f67, _, Tryz.func67, rfl, rfl, rfl, rfl, by kernel_rfl⟩

def r_k19_1 : List SOp := [⟨some 2,.box 39 (.tmp 0),none⟩,⟨some 3,.box 39 (.tmp 1),none⟩,⟨some 4,.assign (.const (.int .i64 0)),none⟩]
instance : Live r_k19_1 := ⟨[0,1]⟩
def r_k19_2 : List SOp := [⟨some 6,.fieldAddr 39 (.tmp 2) 0,none⟩,⟨some 7,.load 9 (.tmp 6),none⟩,⟨some 8,.fieldAddr 39 (.tmp 3) 0,none⟩,⟨some 9,.load 9 (.tmp 8),none⟩,⟨some 10,.call ⟨.value (.func 67),#[.tmp 7,.tmp 9],#[9,9]⟩,none⟩,⟨some 5,.assign (.tmp 10),none⟩]
instance : Live r_k19_2 := ⟨[2,3]⟩
def r_k19_3 : List SOp := [⟨some 11,.move (.tmp 5),none⟩,⟨some 12,.binOp .neq 3 (.tmp 11) (.const (.int .i64 0)) 3,none⟩]
instance : Live r_k19_3 := ⟨[2,3,5]⟩
def r_k19_4 : List SOp := [⟨some 13,.move (.tmp 5),none⟩,⟨some 4,.assign (.tmp 13),none⟩]
instance : Live r_k19_4 := ⟨[5]⟩
def r_k19_5 : List SOp := [⟨some 14,.fieldAddr 39 (.tmp 2) 1,none⟩,⟨some 15,.load 27 (.tmp 14),none⟩,⟨some 16,.fieldAddr 39 (.tmp 3) 1,none⟩,⟨some 17,.load 27 (.tmp 16),none⟩,⟨some 18,.call ⟨.value (.func 68),#[.tmp 15,.tmp 17],#[27,27]⟩,none⟩,⟨some 4,.assign (.tmp 18),none⟩]
instance : Live r_k19_5 := ⟨[2,3]⟩
def t_k19 : SC :=
  (.seq (.ops false r_k19_1) (.seq (.seq (.ops false r_k19_2) (.seq (.ops false r_k19_3) (.cond (.tmp 12) (.seq (.ops false r_k19_4) .ret) .skip))) (.seq (.ops false r_k19_5) .ret)))
theorem it_k19 : FnIs Tryz.prog 19 19 [.tmp 4] t_k19 := ⟨Tryz.f19, _, Tryz.func19, rfl, rfl, rfl, rfl, by kernel_rfl⟩

def r_k20_1 : List SOp := [⟨some 2,.box 39 (.tmp 0),none⟩,⟨some 3,.box 39 (.tmp 1),none⟩,⟨some 4,.assign (.const (.int .i64 0)),none⟩]
instance : Live r_k20_1 := ⟨[0,1]⟩
def r_k20_2 : List SOp := [⟨some 5,.fieldAddr 39 (.tmp 2) 0,none⟩,⟨some 6,.load 9 (.tmp 5),none⟩,⟨some 7,.fieldAddr 39 (.tmp 3) 0,none⟩,⟨some 8,.load 9 (.tmp 7),none⟩,⟨some 9,.binOp .lss 9 (.tmp 6) (.tmp 8) 9,none⟩]
instance : Live r_k20_2 := ⟨[2,3]⟩
def r_k20_3 : List SOp := [⟨some 4,.assign (.const (.int .i64 (-1))),none⟩]
instance : Live r_k20_3 := ⟨[]⟩
def r_k20_4 : List SOp := [⟨some 10,.fieldAddr 39 (.tmp 2) 0,none⟩,⟨some 11,.load 9 (.tmp 10),none⟩,⟨some 12,.fieldAddr 39 (.tmp 3) 0,none⟩,⟨some 13,.load 9 (.tmp 12),none⟩,⟨some 14,.binOp .gtr 9 (.tmp 11) (.tmp 13) 9,none⟩]
instance : Live r_k20_4 := ⟨[2,3]⟩
def r_k20_5 : List SOp := [⟨some 4,.assign (.const (.int .i64 1)),none⟩]
instance : Live r_k20_5 := ⟨[]⟩
def r_k20_6 : List SOp := [⟨some 15,.fieldAddr 39 (.tmp 2) 1,none⟩,⟨some 16,.load 27 (.tmp 15),none⟩,⟨some 17,.fieldAddr 39 (.tmp 3) 1,none⟩,⟨some 18,.load 27 (.tmp 17),none⟩,⟨some 19,.call ⟨.value (.func 69),#[.tmp 16,.tmp 18],#[27,27]⟩,none⟩,⟨some 4,.assign (.tmp 19),none⟩]
instance : Live r_k20_6 := ⟨[2,3]⟩
def t_k20 : SC :=
  (.seq (.ops false r_k20_1) (.seq (.seq (.ops false r_k20_2) (.cond (.tmp 9) (.seq (.ops false r_k20_3) .ret) .skip)) (.seq (.seq (.ops false r_k20_4) (.cond (.tmp 14) (.seq (.ops false r_k20_5) .ret) .skip)) (.seq (.ops false r_k20_6) .ret))))
theorem it_k20 : FnIs Tryz.prog 20 20 [.tmp 4] t_k20 := ⟨Tryz.f20, _, Tryz.func20, rfl, rfl, rfl, rfl, by kernel_rfl⟩

def r_k17_1 : List SOp := [⟨some 1,.box 39 (.tmp 0),none⟩,⟨some 2,.assign (.const (.int .i64 0)),none⟩]
instance : Live r_k17_1 := ⟨[0]⟩
def r_k17_2 : List SOp := [⟨some 3,.fieldAddr 39 (.tmp 1) 0,none⟩,⟨some 4,.load 9 (.tmp 3),none⟩,⟨some 5,.binOp .neq 9 (.tmp 4) (.const (.string ⟨#[]⟩)) 9,none⟩,⟨some 6,.move (.tmp 5),none⟩,⟨some 7,.fieldAddr 39 (.tmp 1) 0,some ((some 6),true)⟩,⟨some 8,.load 9 (.tmp 7),some ((some 6),true)⟩,⟨some 9,.call ⟨.value (.func 54),#[.tmp 8],#[9]⟩,some ((some 6),true)⟩,⟨some 10,.unOp .not 4 (.tmp 9),some ((some 6),true)⟩,⟨some 11,.pick (.tmp 6) (.tmp 10) (.const (.bool false)),none⟩]
instance : Live r_k17_2 := ⟨[1]⟩
def r_k17_3 : List SOp := [⟨some 2,.assign (.const (.int .i64 5)),none⟩]
instance : Live r_k17_3 := ⟨[]⟩
def r_k17_4 : List SOp := [⟨some 12,.fieldAddr 39 (.tmp 1) 1,none⟩,⟨some 13,.load 27 (.tmp 12),none⟩,⟨some 14,.call ⟨.value (.func 65),#[.tmp 13],#[27]⟩,none⟩,⟨some 15,.unOp .not 4 (.tmp 14),none⟩,⟨some 16,.move (.tmp 15),none⟩,⟨some 17,.fieldAddr 39 (.tmp 1) 1,some ((some 16),false)⟩,⟨some 18,.load 27 (.tmp 17),some ((some 16),false)⟩,⟨some 19,.call ⟨.value (.func 55),#[.tmp 18],#[27]⟩,some ((some 16),false)⟩,⟨some 20,.pick (.tmp 16) (.const (.bool true)) (.tmp 19),none⟩]
instance : Live r_k17_4 := ⟨[1]⟩
def r_k17_5 : List SOp := [⟨some 2,.assign (.const (.int .i64 1)),none⟩]
instance : Live r_k17_5 := ⟨[]⟩
def r_k17_6 : List SOp := [⟨some 2,.assign (.const (.int .i64 0)),none⟩]
instance : Live r_k17_6 := ⟨[]⟩
def t_k17 : SC :=
  (.seq (.ops false r_k17_1) (.seq (.seq (.ops false r_k17_2) (.cond (.tmp 11) (.seq (.ops false r_k17_3) .ret) .skip)) (.seq (.seq (.ops false r_k17_4) (.cond (.tmp 20) (.seq (.ops false r_k17_5) .ret) .skip)) (.seq (.ops false r_k17_6) .ret))))
theorem it_k17 : FnIs Tryz.prog 17 21 [.tmp 2] t_k17 := ⟨Tryz.f17, _, Tryz.func17, rfl, rfl, rfl, rfl, by kernel_rfl⟩

def r_k18_1 : List SOp := [⟨some 1,.box 39 (.tmp 0),none⟩,⟨some 2,.assign (.const (.int .i64 0)),none⟩]
instance : Live r_k18_1 := ⟨[0]⟩
def r_k18_2 : List SOp := [⟨some 3,.fieldAddr 39 (.tmp 1) 0,none⟩,⟨some 4,.load 9 (.tmp 3),none⟩,⟨some 5,.binOp .neq 9 (.tmp 4) (.const (.string ⟨#[]⟩)) 9,none⟩,⟨some 6,.move (.tmp 5),none⟩,⟨some 7,.fieldAddr 39 (.tmp 1) 0,some ((some 6),true)⟩,⟨some 8,.load 9 (.tmp 7),some ((some 6),true)⟩,⟨some 9,.call ⟨.value (.func 60),#[.tmp 8],#[9]⟩,some ((some 6),true)⟩,⟨some 10,.unOp .not 4 (.tmp 9),some ((some 6),true)⟩,⟨some 11,.pick (.tmp 6) (.tmp 10) (.const (.bool false)),none⟩]
instance : Live r_k18_2 := ⟨[1]⟩
def r_k18_3 : List SOp := [⟨some 2,.assign (.const (.int .i64 5)),none⟩]
instance : Live r_k18_3 := ⟨[]⟩
def r_k18_4 : List SOp := [⟨some 12,.fieldAddr 39 (.tmp 1) 1,none⟩,⟨some 13,.load 27 (.tmp 12),none⟩,⟨some 14,.call ⟨.value (.func 66),#[.tmp 13],#[27]⟩,none⟩,⟨some 15,.unOp .not 4 (.tmp 14),none⟩,⟨some 16,.move (.tmp 15),none⟩,⟨some 17,.fieldAddr 39 (.tmp 1) 1,some ((some 16),false)⟩,⟨some 18,.load 27 (.tmp 17),some ((some 16),false)⟩,⟨some 19,.call ⟨.value (.func 62),#[.tmp 18],#[27]⟩,some ((some 16),false)⟩,⟨some 20,.pick (.tmp 16) (.const (.bool true)) (.tmp 19),none⟩]
instance : Live r_k18_4 := ⟨[1]⟩
def r_k18_5 : List SOp := [⟨some 2,.assign (.const (.int .i64 1)),none⟩]
instance : Live r_k18_5 := ⟨[]⟩
def r_k18_6 : List SOp := [⟨some 2,.assign (.const (.int .i64 0)),none⟩]
instance : Live r_k18_6 := ⟨[]⟩
def t_k18 : SC :=
  (.seq (.ops false r_k18_1) (.seq (.seq (.ops false r_k18_2) (.cond (.tmp 11) (.seq (.ops false r_k18_3) .ret) .skip)) (.seq (.seq (.ops false r_k18_4) (.cond (.tmp 20) (.seq (.ops false r_k18_5) .ret) .skip)) (.seq (.ops false r_k18_6) .ret))))
theorem it_k18 : FnIs Tryz.prog 18 21 [.tmp 2] t_k18 := ⟨Tryz.f18, _, Tryz.func18, rfl, rfl, rfl, rfl, by kernel_rfl⟩

def r_k14_1 : List SOp := [⟨some 2,.assign (.const (.int .i64 0)),none⟩]
instance : Live r_k14_1 := ⟨[0]⟩
def r_k14_2 : List SOp := [⟨some 5,.move (.tmp 0),none⟩,⟨some 6,.call ⟨.builtin .len,#[.tmp 5],#[22]⟩,none⟩,⟨some 7,.move (.const (.int .i64 0)),none⟩]
instance : Live r_k14_2 := ⟨[0]⟩
def r_k14_3 : List SOp := [⟨some 8,.binOp .lss 3 (.tmp 7) (.tmp 6) 3,none⟩]
instance : Live r_k14_3 := ⟨[0,5,6,7]⟩
def r_k14_4 : List SOp := [⟨some 9,.move (.tmp 7),none⟩,⟨some 10,.indexAddr 22 (.tmp 5) (.tmp 7),none⟩,⟨some 11,.load 39 (.tmp 10),none⟩,⟨some 4,.alloc 39,none⟩,⟨some 3,.assign (.tmp 9),none⟩,⟨none,.store 39 (.tmp 4) (.tmp 11),none⟩]
instance : Live r_k14_4 := ⟨[0,5,6,7]⟩
def r_k14_5 : List SOp := [⟨some 12,.load 39 (.tmp 4),none⟩,⟨some 13,.call ⟨.value (.func 17),#[.tmp 12],#[39]⟩,none⟩,⟨some 14,.binOp .neq 32 (.tmp 13) (.const (.int .i64 0)) 32,none⟩,⟨some 15,.move (.tmp 14),none⟩,⟨some 16,.move (.tmp 3),some ((some 15),false)⟩,⟨some 17,.binOp .gtr 3 (.tmp 16) (.const (.int .i64 0)) 3,some ((some 15),false)⟩,⟨some 18,.move (.tmp 17),some ((some 15),false)⟩,⟨some 19,.move (.tmp 0),some ((some 18),true)⟩,⟨some 20,.move (.tmp 3),some ((some 18),true)⟩,⟨some 21,.binOp .sub 3 (.tmp 20) (.const (.int .i64 1)) 3,some ((some 18),true)⟩,⟨some 22,.indexAddr 22 (.tmp 19) (.tmp 21),some ((some 18),true)⟩,⟨some 23,.load 39 (.tmp 22),some ((some 18),true)⟩,⟨some 24,.load 39 (.tmp 4),some ((some 18),true)⟩,⟨some 25,.call ⟨.value (.func 19),#[.tmp 23,.tmp 24],#[39,39]⟩,some ((some 18),true)⟩,⟨some 26,.binOp .geq 3 (.tmp 25) (.const (.int .i64 0)) 3,some ((some 18),true)⟩,⟨some 27,.pick (.tmp 18) (.tmp 26) (.const (.bool false)),some ((some 15),false)⟩,⟨some 28,.pick (.tmp 15) (.const (.bool true)) (.tmp 27),none⟩]
instance : Live r_k14_5 := ⟨[0,3,4,5,6,7]⟩
def r_k14_6 : List SOp := [⟨some 2,.assign (.const (.int .i64 1)),none⟩]
instance : Live r_k14_6 := ⟨[]⟩
def r_k14_7 : List SOp := [⟨some 29,.binOp .add 3 (.tmp 7) (.const (.int .i64 1)) 3,none⟩,⟨some 7,.move (.tmp 29),none⟩]
instance : Live r_k14_7 := ⟨[0,5,6,7]⟩
def r_k14_8 : List SOp := [⟨some 2,.assign (.const (.int .i64 0)),none⟩]
instance : Live r_k14_8 := ⟨[]⟩
def t_k14_l1 : SC :=
  (.seq (.ops false r_k14_3) (.seq (.cond (.tmp 8) .skip (.exit 0)) (.seq (.block 1 (.seq (.ops false r_k14_4) (.seq (.ops true r_k14_5) (.cond (.tmp 28) (.seq (.ops false r_k14_6) .ret) .skip)))) (.ops false r_k14_7))))
def t_k14 : SC :=
  (.seq (.ops false r_k14_1) (.seq (.seq (.ops false r_k14_2) (.block 0 (.loop t_k14_l1))) (.seq (.ops false r_k14_8) .ret)))
theorem it_k14 : FnIs Tryz.prog 14 30 [.tmp 2] t_k14 := ⟨Tryz.f14, _, Tryz.func14, rfl, rfl, rfl, rfl, by kernel_rfl⟩

def r_k15_1 : List SOp := [⟨some 2,.assign (.const (.int .i64 0)),none⟩]
instance : Live r_k15_1 := ⟨[0]⟩
def r_k15_2 : List SOp := [⟨some 3,.assign (.const (.int .i64 0)),none⟩]
instance : Live r_k15_2 := ⟨[0]⟩
def r_k15_3 : List SOp := [⟨some 4,.move (.tmp 3),none⟩,⟨some 5,.move (.tmp 0),none⟩,⟨some 6,.call ⟨.builtin .len,#[.tmp 5],#[22]⟩,none⟩,⟨some 7,.binOp .lss 3 (.tmp 4) (.tmp 6) 3,none⟩]
instance : Live r_k15_3 := ⟨[0,3]⟩
def r_k15_4 : List SOp := [⟨some 10,.move (.tmp 0),none⟩,⟨some 11,.move (.tmp 3),none⟩,⟨some 12,.indexAddr 22 (.tmp 10) (.tmp 11),none⟩,⟨some 13,.load 39 (.tmp 12),none⟩,⟨some 14,.call ⟨.value (.func 18),#[.tmp 13],#[39]⟩,none⟩,⟨some 15,.binOp .neq 32 (.tmp 14) (.const (.int .i64 0)) 32,none⟩]
instance : Live r_k15_4 := ⟨[0,3]⟩
def r_k15_5 : List SOp := [⟨some 2,.assign (.const (.int .i64 1)),none⟩]
instance : Live r_k15_5 := ⟨[]⟩
def r_k15_6 : List SOp := [⟨some 16,.move (.tmp 3),none⟩,⟨some 17,.binOp .gtr 3 (.tmp 16) (.const (.int .i64 0)) 3,none⟩,⟨some 18,.move (.tmp 17),none⟩,⟨some 19,.move (.tmp 0),some ((some 18),true)⟩,⟨some 20,.move (.tmp 3),some ((some 18),true)⟩,⟨some 21,.binOp .sub 3 (.tmp 20) (.const (.int .i64 1)) 3,some ((some 18),true)⟩,⟨some 22,.indexAddr 22 (.tmp 19) (.tmp 21),some ((some 18),true)⟩,⟨some 23,.load 39 (.tmp 22),some ((some 18),true)⟩,⟨some 24,.move (.tmp 0),some ((some 18),true)⟩,⟨some 25,.move (.tmp 3),some ((some 18),true)⟩,⟨some 26,.indexAddr 22 (.tmp 24) (.tmp 25),some ((some 18),true)⟩,⟨some 27,.load 39 (.tmp 26),some ((some 18),true)⟩,⟨some 28,.call ⟨.value (.func 20),#[.tmp 23,.tmp 27],#[39,39]⟩,some ((some 18),true)⟩,⟨some 29,.binOp .geq 3 (.tmp 28) (.const (.int .i64 0)) 3,some ((some 18),true)⟩,⟨some 30,.pick (.tmp 18) (.tmp 29) (.const (.bool false)),none⟩]
instance : Live r_k15_6 := ⟨[0,3]⟩
def r_k15_7 : List SOp := [⟨some 2,.assign (.const (.int .i64 1)),none⟩]
instance : Live r_k15_7 := ⟨[]⟩
def r_k15_8 : List SOp := [⟨some 8,.move (.tmp 3),none⟩,⟨some 9,.binOp .add 3 (.tmp 8) (.const (.int .i64 1)) 3,none⟩,⟨some 3,.assign (.tmp 9),none⟩]
instance : Live r_k15_8 := ⟨[0,3]⟩
def r_k15_9 : List SOp := [⟨some 2,.assign (.const (.int .i64 0)),none⟩]
instance : Live r_k15_9 := ⟨[]⟩
def t_k15_l1 : SC :=
  (.seq (.seq (.ops false r_k15_3) (.cond (.tmp 7) .skip (.exit 0))) (.seq (.block 1 (.seq (.seq (.ops false r_k15_4) (.cond (.tmp 15) (.seq (.ops false r_k15_5) .ret) .skip)) (.seq (.ops true r_k15_6) (.cond (.tmp 30) (.seq (.ops false r_k15_7) .ret) .skip)))) (.ops false r_k15_8)))
def t_k15 : SC :=
  (.seq (.ops false r_k15_1) (.seq (.seq (.ops false r_k15_2) (.block 0 (.loop t_k15_l1))) (.seq (.ops false r_k15_9) .ret)))
theorem it_k15 : FnIs Tryz.prog 15 31 [.tmp 2] t_k15 := ⟨Tryz.f15, _, Tryz.func15, rfl, rfl, rfl, rfl, by kernel_rfl⟩

def r_k119_1 : List SOp := [⟨some 1,.box 49 (.tmp 0),none⟩,⟨some 2,.assign (.const (.int .i64 0)),none⟩]
instance : Live r_k119_1 := ⟨[0]⟩
def r_k119_2 : List SOp := [⟨some 4,.fieldAddr 49 (.tmp 1) 0,none⟩,⟨some 5,.fieldAddr 47 (.tmp 4) 0,none⟩,⟨some 6,.load 3 (.tmp 5),none⟩,⟨some 7,.binOp .lss 3 (.tmp 6) (.const (.int .i64 0)) 3,none⟩,⟨some 8,.move (.tmp 7),none⟩,⟨some 9,.fieldAddr 49 (.tmp 1) 0,some ((some 8),false)⟩,⟨some 10,.fieldAddr 47 (.tmp 9) 0,some ((some 8),false)⟩,⟨some 11,.load 3 (.tmp 10),some ((some 8),false)⟩,⟨some 12,.binOp .geq 3 (.tmp 11) (.const (.int .i64 16)) 3,some ((some 8),false)⟩,⟨some 13,.pick (.tmp 8) (.const (.bool true)) (.tmp 12),none⟩,⟨some 3,.assign (.tmp 13),none⟩]
instance : Live r_k119_2 := ⟨[1]⟩
def r_k119_3 : List SOp := [⟨some 2,.assign (.const (.int .i64 3)),none⟩]
instance : Live r_k119_3 := ⟨[]⟩
def r_k119_4 : List SOp := [⟨some 15,.fieldAddr 49 (.tmp 1) 0,none⟩,⟨some 16,.fieldAddr 47 (.tmp 15) 1,none⟩,⟨some 17,.load 3 (.tmp 16),none⟩,⟨some 18,.binOp .lss 3 (.tmp 17) (.const (.int .i64 1)) 3,none⟩,⟨some 19,.move (.tmp 18),none⟩,⟨some 20,.fieldAddr 49 (.tmp 1) 0,some ((some 19),false)⟩,⟨some 21,.fieldAddr 47 (.tmp 20) 1,some ((some 19),false)⟩,⟨some 22,.load 3 (.tmp 21),some ((some 19),false)⟩,⟨some 23,.binOp .gtr 3 (.tmp 22) (.const (.int .i64 1000000000)) 3,some ((some 19),false)⟩,⟨some 24,.pick (.tmp 19) (.const (.bool true)) (.tmp 23),none⟩,⟨some 14,.assign (.tmp 24),none⟩]
instance : Live r_k119_4 := ⟨[1]⟩
def r_k119_5 : List SOp := [⟨some 2,.assign (.const (.int .i64 2)),none⟩]
instance : Live r_k119_5 := ⟨[]⟩
def r_k119_6 : List SOp := [⟨some 26,.fieldAddr 49 (.tmp 1) 1,none⟩,⟨some 27,.load 9 (.tmp 26),none⟩,⟨some 28,.call ⟨.value (.func 54),#[.tmp 27],#[9]⟩,none⟩,⟨some 29,.unOp .not 4 (.tmp 28),none⟩,⟨some 25,.assign (.tmp 29),none⟩]
instance : Live r_k119_6 := ⟨[1]⟩
def r_k119_7 : List SOp := [⟨some 2,.assign (.const (.int .i64 5)),none⟩]
instance : Live r_k119_7 := ⟨[]⟩
def r_k119_8 : List SOp := [⟨some 31,.fieldAddr 49 (.tmp 1) 2,none⟩,⟨some 32,.load 3 (.tmp 31),none⟩,⟨some 33,.binOp .lss 3 (.tmp 32) (.const (.int .i64 1)) 3,none⟩,⟨some 34,.move (.tmp 33),none⟩,⟨some 35,.fieldAddr 49 (.tmp 1) 2,some ((some 34),false)⟩,⟨some 36,.load 3 (.tmp 35),some ((some 34),false)⟩,⟨some 37,.binOp .gtr 3 (.tmp 36) (.const (.int .i64 1000000)) 3,some ((some 34),false)⟩,⟨some 38,.pick (.tmp 34) (.const (.bool true)) (.tmp 37),none⟩,⟨some 30,.assign (.tmp 38),none⟩]
instance : Live r_k119_8 := ⟨[1]⟩
def r_k119_9 : List SOp := [⟨some 2,.assign (.const (.int .i64 6)),none⟩]
instance : Live r_k119_9 := ⟨[]⟩
def r_k119_10 : List SOp := [⟨some 2,.assign (.const (.int .i64 0)),none⟩]
instance : Live r_k119_10 := ⟨[]⟩
def t_k119 : SC :=
  (.seq (.ops false r_k119_1) (.seq (.block 0 (.seq (.ops false r_k119_2) (.cond (.tmp 3) (.seq (.ops false r_k119_3) .ret) (.seq (.ops false r_k119_4) (.cond (.tmp 14) (.seq (.ops false r_k119_5) .ret) (.seq (.ops false r_k119_6) (.cond (.tmp 25) (.seq (.ops false r_k119_7) .ret) (.seq (.ops false r_k119_8) (.cond (.tmp 30) (.seq (.ops false r_k119_9) .ret) .skip))))))))) (.seq (.ops false r_k119_10) .ret)))
theorem it_k119 : FnIs Tryz.prog 119 39 [.tmp 2] t_k119 := ⟨Tryz.f119, _, Tryz.func119, rfl, rfl, rfl, rfl, by kernel_rfl⟩

def r_k120_1 : List SOp := [⟨some 2,.box 47 (.tmp 0),none⟩,⟨some 3,.box 47 (.tmp 1),none⟩,⟨some 4,.assign (.const (.bool false)),none⟩]
instance : Live r_k120_1 := ⟨[0,1]⟩
def r_k120_2 : List SOp := [⟨some 5,.fieldAddr 47 (.tmp 2) 0,none⟩,⟨some 6,.load 3 (.tmp 5),none⟩,⟨some 7,.fieldAddr 47 (.tmp 3) 0,none⟩,⟨some 8,.load 3 (.tmp 7),none⟩,⟨some 9,.binOp .lss 3 (.tmp 6) (.tmp 8) 3,none⟩,⟨some 10,.move (.tmp 9),none⟩,⟨some 11,.fieldAddr 47 (.tmp 2) 0,some ((some 10),false)⟩,⟨some 12,.load 3 (.tmp 11),some ((some 10),false)⟩,⟨some 13,.fieldAddr 47 (.tmp 3) 0,some ((some 10),false)⟩,⟨some 14,.load 3 (.tmp 13),some ((some 10),false)⟩,⟨some 15,.binOp .eql 3 (.tmp 12) (.tmp 14) 3,some ((some 10),false)⟩,⟨some 16,.move (.tmp 15),some ((some 10),false)⟩,⟨some 17,.fieldAddr 47 (.tmp 2) 1,some ((some 16),true)⟩,⟨some 18,.load 3 (.tmp 17),some ((some 16),true)⟩,⟨some 19,.fieldAddr 47 (.tmp 3) 1,some ((some 16),true)⟩,⟨some 20,.load 3 (.tmp 19),some ((some 16),true)⟩,⟨some 21,.binOp .lss 3 (.tmp 18) (.tmp 20) 3,some ((some 16),true)⟩,⟨some 22,.pick (.tmp 16) (.tmp 21) (.const (.bool false)),some ((some 10),false)⟩,⟨some 23,.pick (.tmp 10) (.const (.bool true)) (.tmp 22),none⟩,⟨some 4,.assign (.tmp 23),none⟩]
instance : Live r_k120_2 := ⟨[2,3]⟩
def t_k120 : SC :=
  (.seq (.ops false r_k120_1) (.seq (.ops false r_k120_2) .ret))
theorem it_k120 : FnIs Tryz.prog 120 24 [.tmp 4] t_k120 := ⟨Tryz.f120, _, Tryz.func120, rfl, rfl, rfl, rfl, by kernel_rfl⟩

def r_k70_1 : List SOp := [⟨some 2,.assign (.const (.int .i64 0)),none⟩]
instance : Live r_k70_1 := ⟨[0]⟩
def r_k70_2 : List SOp := [⟨some 5,.move (.tmp 0),none⟩,⟨some 6,.call ⟨.builtin .len,#[.tmp 5],#[23]⟩,none⟩,⟨some 7,.move (.const (.int .i64 0)),none⟩]
instance : Live r_k70_2 := ⟨[0]⟩
def r_k70_3 : List SOp := [⟨some 8,.binOp .lss 3 (.tmp 7) (.tmp 6) 3,none⟩]
instance : Live r_k70_3 := ⟨[0,5,6,7]⟩
def r_k70_4 : List SOp := [⟨some 9,.move (.tmp 7),none⟩,⟨some 10,.indexAddr 23 (.tmp 5) (.tmp 7),none⟩,⟨some 11,.load 49 (.tmp 10),none⟩,⟨some 4,.alloc 49,none⟩,⟨some 3,.assign (.tmp 9),none⟩,⟨none,.store 49 (.tmp 4) (.tmp 11),none⟩]
instance : Live r_k70_4 := ⟨[0,5,6,7]⟩
def r_k70_5 : List SOp := [⟨some 12,.load 49 (.tmp 4),none⟩,⟨some 13,.call ⟨.value (.func 119),#[.tmp 12],#[49]⟩,none⟩,⟨some 14,.binOp .neq 32 (.tmp 13) (.const (.int .i64 0)) 32,none⟩,⟨some 15,.move (.tmp 14),none⟩,⟨some 16,.move (.tmp 3),some ((some 15),false)⟩,⟨some 17,.binOp .gtr 3 (.tmp 16) (.const (.int .i64 0)) 3,some ((some 15),false)⟩,⟨some 18,.move (.tmp 17),some ((some 15),false)⟩,⟨some 19,.move (.tmp 0),some ((some 18),true)⟩,⟨some 20,.move (.tmp 3),some ((some 18),true)⟩,⟨some 21,.binOp .sub 3 (.tmp 20) (.const (.int .i64 1)) 3,some ((some 18),true)⟩,⟨some 22,.indexAddr 23 (.tmp 19) (.tmp 21),some ((some 18),true)⟩,⟨some 23,.fieldAddr 49 (.tmp 22) 0,some ((some 18),true)⟩,⟨some 24,.load 47 (.tmp 23),some ((some 18),true)⟩,⟨some 25,.fieldAddr 49 (.tmp 4) 0,some ((some 18),true)⟩,⟨some 26,.load 47 (.tmp 25),some ((some 18),true)⟩,⟨some 27,.call ⟨.value (.func 120),#[.tmp 24,.tmp 26],#[47,47]⟩,some ((some 18),true)⟩,⟨some 28,.unOp .not 4 (.tmp 27),some ((some 18),true)⟩,⟨some 29,.pick (.tmp 18) (.tmp 28) (.const (.bool false)),some ((some 15),false)⟩,⟨some 30,.pick (.tmp 15) (.const (.bool true)) (.tmp 29),none⟩]
instance : Live r_k70_5 := ⟨[0,3,4,5,6,7]⟩
def r_k70_6 : List SOp := [⟨some 2,.assign (.const (.int .i64 1)),none⟩]
instance : Live r_k70_6 := ⟨[]⟩
def r_k70_7 : List SOp := [⟨some 31,.binOp .add 3 (.tmp 7) (.const (.int .i64 1)) 3,none⟩,⟨some 7,.move (.tmp 31),none⟩]
instance : Live r_k70_7 := ⟨[0,5,6,7]⟩
def r_k70_8 : List SOp := [⟨some 2,.assign (.const (.int .i64 0)),none⟩]
instance : Live r_k70_8 := ⟨[]⟩
def t_k70_l1 : SC :=
  (.seq (.ops false r_k70_3) (.seq (.cond (.tmp 8) .skip (.exit 0)) (.seq (.block 1 (.seq (.ops false r_k70_4) (.seq (.ops true r_k70_5) (.cond (.tmp 30) (.seq (.ops false r_k70_6) .ret) .skip)))) (.ops false r_k70_7))))
def t_k70 : SC :=
  (.seq (.ops false r_k70_1) (.seq (.seq (.ops false r_k70_2) (.block 0 (.loop t_k70_l1))) (.seq (.ops false r_k70_8) .ret)))
theorem it_k70 : FnIs Tryz.prog 70 32 [.tmp 2] t_k70 := ⟨Tryz.f70, _, Tryz.func70, rfl, rfl, rfl, rfl, by kernel_rfl⟩


def r_k66_1 : List SOp := [⟨some 1,.box 27 (.tmp 0),none⟩,⟨some 2,.assign (.const (.bool false)),none⟩]
instance : Live r_k66_1 := ⟨[0]⟩
def r_k66_2 : List SOp := [⟨some 3,.load 27 (.tmp 1),none⟩,⟨some 4,.load 27 (.tmp 1),none⟩,⟨some 5,.call ⟨.value (.func 61),#[.tmp 4],#[27]⟩,none⟩,⟨some 6,.call ⟨.value (.func 64),#[.tmp 3,.tmp 5],#[27,27]⟩,none⟩,⟨some 2,.assign (.tmp 6),none⟩]
instance : Live r_k66_2 := ⟨[1]⟩
def t_k66 : SC :=
  (.seq (.ops false r_k66_1) (.seq (.ops true r_k66_2) .ret))
theorem it_k66 : FnIs Tryz.prog 66 7 [.tmp 2] t_k66 := ⟨Tryz.f66, _, Tryz.func66, rfl, rfl, rfl, rfl, by kernel_rfl⟩



theorem hook_cmp {P : Program} {f : FuncId} {fn : Func} (hf : P.funcs[f]? = some fn) (h1 : (fn.name = "runtime.NumGoroutine") = False) (h2 : (fn.body = none) = True) (h3 : Extern.findNext fn = none) (h4 : Extern.find fn = some Extern.BytealgCompare.compare) {s : AS} {x y : Operand} {ts : Array TypeId} {a b : ByteArray} (hx : ev s.T x = .str a) (hy : ev s.T y = .str b) :
    Hook P s (.call ⟨.value (.func f), #[x, y], ts⟩) (fun v M' => M' = s.M ∧ v = .int .i64 (cmpB a b)) := by
  intro n B G act w hR o ho K Q hK
  have q1 := hR.ev x
  have q2 := hR.ev y
  rw [hx] at q1
  rw [hy] at q2
  generalize hxv : act.eval x = xv at q1
  generalize hyv : act.eval y = yv at q2
  cases q1
  cases q2
  have hrun : (execOp act.eval o).run P w = .ok (.value (.int .i64 (cmpB a b))) w := by
    unfold execOp
    rw [ho]
    have hc := Go.Lib.run_compareString (P := P) a b w
    rw [cmpBytes_lex] at hc
    have hf0 : act.eval (.func f) = .func (.func f) #[] #[] := rfl
    simp [resolve, Deferred.ofValue, invoke, callFunc, hf, hf0, h1, h2, h3, h4, hxv, hyv, hc, Result.andThen, cmpB, bs]
  unfold Oper.wp
  rw [hrun]
  exact hK (.int .i64 (cmpB a b)) _ s.M w G ⟨rfl, rfl⟩ (.refl G w) hR (.int _ _)
theorem ev_k113 (a b : ByteArray) : Ev (En Tryz.prog rfl).P 113 [.str a, .str b] (.ret (.int .i64 (cmpB a b))) := by
  refine Ev.of_body it_k113 (by simp) (Run.start ?_)
  unfold t_k113
  (focus (have hF := True.intro; (repeat' (first | refine go1 (k:=?_) | with_reducible refine Ny.of ?_ ?_ | (refine Hyp.of ?_; intro hc; (try simp only [hc]); (try simp only [Bh] at hc)))); all_goals clear hF))
  refine awp_hook (hook_cmp (f := 155) (fn := Tryz.f155) Tryz.func155 (eq_false (by decide)) (eq_true rfl) rfl rfl rfl rfl) ?_
  rintro v M' ⟨rfl, rfl⟩
  dsimp only [AS.put]
  (focus (have hF := True.intro; (repeat' (first | refine go1 (k:=?_) | with_reducible refine Ny.of ?_ ?_ | (refine Hyp.of ?_; intro hc; (try simp only [hc]); (try simp only [Bh] at hc)))); all_goals clear hF))
  exact Fin.tmp' rfl rfl
theorem ev_k67 (a b : ByteArray) : Ev (En Tryz.prog rfl).P 67 [.str a, .str b] (.ret (.int .i64 (cmpB a b))) := by
  refine Ev.of_body it_k67 (by simp) (Run.start ?_)
  unfold t_k67
  (focus (have hF := True.intro; (repeat' (first | refine go1 (k:=?_) | with_reducible refine Ny.of ?_ ?_ | (refine Hyp.of ?_; intro hc; (try simp only [hc]); (try simp only [Bh] at hc)))); all_goals clear hF))
  refine stCall [.str a, .str b] (he := ev_k113 a b) (k:=?_)
  (focus (have hF := True.intro; (repeat' (first | refine go1 (k:=?_) | with_reducible refine Ny.of ?_ ?_ | (refine Hyp.of ?_; intro hc; (try simp only [hc]); (try simp only [Bh] at hc)))); all_goals clear hF))
  exact Fin.tmp' rfl rfl
theorem ev_k19 (a b : Rec) (ha : wt a.past ≤ 50000000) (hb : wt b.past ≤ 50000000) : Ev (En Tryz.prog rfl).P 19 [encK a, encK b] (.ret (.int .i64 (cmpR a b))) := by
  refine Ev.of_body it_k19 (by simp) (Run.start ?_)
  unfold t_k19 encK cmpR
  have c1 := ev_k67 a.sku b.sku
  have c2 := ev_k68 a.past b.past ha hb
  generalize cmpB a.sku b.sku = v at c1 ⊢
  (focus (have hF := True.intro; (repeat' (first | refine go1 (k:=?_) | with_reducible refine Ny.of ?_ ?_ | (refine Hyp.of ?_; intro hc; (try simp only [hc]); (try simp only [Bh] at hc)))); all_goals clear hF))
  refine stCall [.str a.sku, .str b.sku] (he := c1) (k:=?_)
  by_cases h : v = 0
  · rw [if_pos h]
    (focus (have hF := @h; (repeat' (first | refine go1 (k:=?_) | with_reducible refine Ny.of ?_ ?_ | (refine Hyp.of ?_; intro hc; (try simp only [hc]); (try simp only [Bh] at hc)))); all_goals clear hF))
    refine stCall [encP a.past, encP b.past] (he := c2) (k:=?_)
    (focus (have hF := True.intro; (repeat' (first | refine go1 (k:=?_) | with_reducible refine Ny.of ?_ ?_ | (refine Hyp.of ?_; intro hc; (try simp only [hc]); (try simp only [Bh] at hc)))); all_goals clear hF))
    exact Fin.tmp' rfl rfl
  · rw [if_neg h]
    (focus (have hF := True.intro; (repeat' (first | refine go1 (k:=?_) | with_reducible refine Ny.of ?_ ?_ | (refine Hyp.of ?_; intro hc; (try simp only [hc]); (try simp only [Bh] at hc)))); all_goals clear hF))
    exact Fin.tmp' rfl rfl
theorem ev_k20 (a b : Rec) (ha : wt a.past ≤ 30000000) (hb : wt b.past ≤ 30000000) : Ev (En Tryz.prog rfl).P 20 [encK a, encK b] (.ret (.int .i64 (cmpR a b))) := by
  refine Ev.of_body it_k20 (by simp) (Run.start ?_)
  unfold t_k20 encK cmpR
  have c2 := ev_k69 a.past b.past ha hb
  have h1 := cmpB_less a.sku b.sku
  have hr : cmpB a.sku b.sku = -1 ∨ cmpB a.sku b.sku = 0 ∨ cmpB a.sku b.sku = 1 := lexI_range _ _
  have h0 : (a.sku = b.sku) = (cmpB a.sku b.sku = 0) := propext cmpB_zero.symm
  generalize cmpB a.sku b.sku = v at *
  rcases hr with rfl | rfl | rfl
  · rw [if_neg (by decide)]
    rw [show decide ((-1 : Int) < 0) = true by decide] at h1
    (focus (have hF := @h1; (repeat' (first | refine go1 (k:=?_) | with_reducible refine Ny.of ?_ ?_ | (refine Hyp.of ?_; intro hc; (try simp only [hc]); (try simp only [Bh] at hc)))); all_goals clear hF))
    exact Fin.tmp' rfl rfl
  · rw [if_pos rfl]
    rw [show decide ((0 : Int) < 0) = false by decide] at h1
    rw [show ((0 : Int) = 0) = True by simp] at h0
    (focus (have hF := (And.intro (And.intro @h1 (And.intro @h0 @Bool.not_true)) (And.intro @Bool.or_true (And.intro @Bool.false_or @decide_true))); (repeat' (first | refine go1 (k:=?_) | with_reducible refine Ny.of ?_ ?_ | (refine Hyp.of ?_; intro hc; (try simp only [hc]); (try simp only [Bh] at hc)))); all_goals clear hF))
    refine stCall [encP a.past, encP b.past] (he := c2) (k:=?_)
    (focus (have hF := True.intro; (repeat' (first | refine go1 (k:=?_) | with_reducible refine Ny.of ?_ ?_ | (refine Hyp.of ?_; intro hc; (try simp only [hc]); (try simp only [Bh] at hc)))); all_goals clear hF))
    exact Fin.tmp' rfl rfl
  · rw [if_neg (by decide)]
    rw [show decide ((1 : Int) < 0) = false by decide] at h1
    rw [show ((1 : Int) = 0) = False by simp] at h0
    (focus (have hF := (And.intro (And.intro @h1 @h0) (And.intro @Bool.not_false (And.intro @Bool.or_false @decide_false))); (repeat' (first | refine go1 (k:=?_) | with_reducible refine Ny.of ?_ ?_ | (refine Hyp.of ?_; intro hc; (try simp only [hc]); (try simp only [Bh] at hc)))); all_goals clear hF))
    exact Fin.tmp' rfl rfl
theorem isNormP_same (p : Pst) : sameP p (normP p) = isNormP p := by
  refine bool_eq ?_
  rw [isNormP_iff]
  constructor
  · intro h
    have : ∀ a b : Pst, a.vec = b.vec → a.cloud = b.cloud → a = b := fun a b u v => by cases a; cases b; simp at u v; rw [u, v]
    have h' := of_decide_eq_true h
    exact (this _ _ h'.1 h'.2).symm
  · intro h
    have h' : normP p = p := h
    rw [h']
    exact sameP_true ⟨rfl, rfl⟩
theorem ev_k66 (p : Pst) (hw : wt p ≤ 30000000) : Ev (En Tryz.prog rfl).P 66 [encP p] (.ret (.bool (isNormP p))) := by
  have c1 := ev_k61 p (by omega)
  have w := normP_wt p
  have c2 := ev_k64 p (normP p) (by unfold wt at *; omega) (by unfold wt at *; omega)
  rw [isNormP_same] at c2
  refine Ev.of_body it_k66 (by simp) (Run.start ?_)
  unfold t_k66 encP
  (focus (have hF := True.intro; (repeat' (first | refine go1 (k:=?_) | with_reducible refine Ny.of ?_ ?_ | (refine Hyp.of ?_; intro hc; (try simp only [hc]); (try simp only [Bh] at hc)))); all_goals clear hF))
  refine stCall [encP p] (he := c1) (k:=?_)
  (focus (have hF := True.intro; (repeat' (first | refine go1 (k:=?_) | with_reducible refine Ny.of ?_ ?_ | (refine Hyp.of ?_; intro hc; (try simp only [hc]); (try simp only [Bh] at hc)))); all_goals clear hF))
  refine stCall [encP p, encP (normP p)] (he := c2) (k:=?_)
  (focus (have hF := True.intro; (repeat' (first | refine go1 (k:=?_) | with_reducible refine Ny.of ?_ ?_ | (refine Hyp.of ?_; intro hc; (try simp only [hc]); (try simp only [Bh] at hc)))); all_goals clear hF))
  exact Fin.tmp' rfl rfl
theorem str_nil (s : ByteArray) : (s = (⟨#[]⟩ : ByteArray)) = (s.size = 0) := propext size_zero
theorem ev_k17 (r : Rec) (hw : wt r.past ≤ 40000000) : Ev (En Tryz.prog rfl).P 17 [encK r] (.ret (.int .i64 (recErr r))) := by
  refine Ev.of_body it_k17 (by simp) (Run.start ?_)
  unfold t_k17 encK recErr
  have c1 := ev_k54 r.sku
  have c2 := ev_k65 r.past hw
  have c3 := ev_k55 r.past (by omega)
  have e := str_nil r.sku
  generalize goodS r.sku = v1 at c1 ⊢
  generalize isNormP r.past = v2 at c2 ⊢
  generalize sizeP r.past = v3 at c3 ⊢
  have tail : ∀ (X : Prop), X → X := fun _ x => x
  by_cases h0 : r.sku.size = 0
  · have h0' : (r.sku.size = 0) = True := eq_true h0
    simp only [h0', not_true_eq_false, false_and, if_false]
    rw [h0'] at e
    (focus (have hF := (And.intro @e (And.intro @decide_true @Bool.not_true)); (repeat' (first | refine go1 (k:=?_) | with_reducible refine Ny.of ?_ ?_ | (refine Hyp.of ?_; intro hc; (try simp only [hc]); (try simp only [Bh] at hc)))); all_goals clear hF))
    refine stCall [encP r.past] (he := c2) (k:=?_)
    cases v2
    · (focus (have hF := True.intro; (repeat' (first | refine go1 (k:=?_) | with_reducible refine Ny.of ?_ ?_ | (refine Hyp.of ?_; intro hc; (try simp only [hc]); (try simp only [Bh] at hc)))); all_goals clear hF))
      exact Fin.tmp' rfl rfl
    · (focus (have hF := True.intro; (repeat' (first | refine go1 (k:=?_) | with_reducible refine Ny.of ?_ ?_ | (refine Hyp.of ?_; intro hc; (try simp only [hc]); (try simp only [Bh] at hc)))); all_goals clear hF))
      refine stCall [encP r.past] (he := c3) (k:=?_)
      by_cases h3 : v3 = 0
      · (focus (have hF := @h3; (repeat' (first | refine go1 (k:=?_) | with_reducible refine Ny.of ?_ ?_ | (refine Hyp.of ?_; intro hc; (try simp only [hc]); (try simp only [Bh] at hc)))); all_goals clear hF))
        simp only [h3, or_true, if_true]
        exact Fin.tmp' rfl rfl
      · (focus (have hF := @h3; (repeat' (first | refine go1 (k:=?_) | with_reducible refine Ny.of ?_ ?_ | (refine Hyp.of ?_; intro hc; (try simp only [hc]); (try simp only [Bh] at hc)))); all_goals clear hF))
        simp only [h3, reduceCtorEq, or_false, if_false]
        exact Fin.tmp' rfl rfl
  · have h0' : (r.sku.size = 0) = False := eq_false h0
    rw [h0'] at e
    simp only [h0', not_false_eq_true, true_and]
    (focus (have hF := (And.intro @e (And.intro @decide_false @Bool.not_false)); (repeat' (first | refine go1 (k:=?_) | with_reducible refine Ny.of ?_ ?_ | (refine Hyp.of ?_; intro hc; (try simp only [hc]); (try simp only [Bh] at hc)))); all_goals clear hF))
    refine stCall [.str r.sku] (he := c1) (k:=?_)
    cases v1
    · (focus (have hF := True.intro; (repeat' (first | refine go1 (k:=?_) | with_reducible refine Ny.of ?_ ?_ | (refine Hyp.of ?_; intro hc; (try simp only [hc]); (try simp only [Bh] at hc)))); all_goals clear hF))
      exact Fin.tmp' rfl rfl
    · (focus (have hF := True.intro; (repeat' (first | refine go1 (k:=?_) | with_reducible refine Ny.of ?_ ?_ | (refine Hyp.of ?_; intro hc; (try simp only [hc]); (try simp only [Bh] at hc)))); all_goals clear hF))
      refine stCall [encP r.past] (he := c2) (k:=?_)
      cases v2
      · (focus (have hF := True.intro; (repeat' (first | refine go1 (k:=?_) | with_reducible refine Ny.of ?_ ?_ | (refine Hyp.of ?_; intro hc; (try simp only [hc]); (try simp only [Bh] at hc)))); all_goals clear hF))
        exact Fin.tmp' rfl rfl
      · (focus (have hF := True.intro; (repeat' (first | refine go1 (k:=?_) | with_reducible refine Ny.of ?_ ?_ | (refine Hyp.of ?_; intro hc; (try simp only [hc]); (try simp only [Bh] at hc)))); all_goals clear hF))
        refine stCall [encP r.past] (he := c3) (k:=?_)
        by_cases h3 : v3 = 0
        · (focus (have hF := @h3; (repeat' (first | refine go1 (k:=?_) | with_reducible refine Ny.of ?_ ?_ | (refine Hyp.of ?_; intro hc; (try simp only [hc]); (try simp only [Bh] at hc)))); all_goals clear hF))
          simp only [h3, or_true, if_true, reduceCtorEq, if_false]
          exact Fin.tmp' rfl rfl
        · (focus (have hF := @h3; (repeat' (first | refine go1 (k:=?_) | with_reducible refine Ny.of ?_ ?_ | (refine Hyp.of ?_; intro hc; (try simp only [hc]); (try simp only [Bh] at hc)))); all_goals clear hF))
          simp only [h3, reduceCtorEq, or_false, if_false]
          exact Fin.tmp' rfl rfl
theorem ev_k18 (r : Rec) (hw : wt r.past ≤ 30000000) : Ev (En Tryz.prog rfl).P 18 [encK r] (.ret (.int .i64 (recErr r))) := by
  refine Ev.of_body it_k18 (by simp) (Run.start ?_)
  unfold t_k18 encK recErr
  have c1 := ev_k60 r.sku
  have c2 := ev_k66 r.past (by omega)
  have c3 := ev_k62 r.past (by omega)
  have e := str_nil r.sku
  generalize goodS r.sku = v1 at c1 ⊢
  generalize isNormP r.past = v2 at c2 ⊢
  generalize sizeP r.past = v3 at c3 ⊢
  have tail : ∀ (X : Prop), X → X := fun _ x => x
  by_cases h0 : r.sku.size = 0
  · have h0' : (r.sku.size = 0) = True := eq_true h0
    simp only [h0', not_true_eq_false, false_and, if_false]
    rw [h0'] at e
    (focus (have hF := (And.intro @e (And.intro @decide_true @Bool.not_true)); (repeat' (first | refine go1 (k:=?_) | with_reducible refine Ny.of ?_ ?_ | (refine Hyp.of ?_; intro hc; (try simp only [hc]); (try simp only [Bh] at hc)))); all_goals clear hF))
    refine stCall [encP r.past] (he := c2) (k:=?_)
    cases v2
    · (focus (have hF := True.intro; (repeat' (first | refine go1 (k:=?_) | with_reducible refine Ny.of ?_ ?_ | (refine Hyp.of ?_; intro hc; (try simp only [hc]); (try simp only [Bh] at hc)))); all_goals clear hF))
      exact Fin.tmp' rfl rfl
    · (focus (have hF := True.intro; (repeat' (first | refine go1 (k:=?_) | with_reducible refine Ny.of ?_ ?_ | (refine Hyp.of ?_; intro hc; (try simp only [hc]); (try simp only [Bh] at hc)))); all_goals clear hF))
      refine stCall [encP r.past] (he := c3) (k:=?_)
      by_cases h3 : v3 = 0
      · (focus (have hF := @h3; (repeat' (first | refine go1 (k:=?_) | with_reducible refine Ny.of ?_ ?_ | (refine Hyp.of ?_; intro hc; (try simp only [hc]); (try simp only [Bh] at hc)))); all_goals clear hF))
        simp only [h3, or_true, if_true]
        exact Fin.tmp' rfl rfl
      · (focus (have hF := @h3; (repeat' (first | refine go1 (k:=?_) | with_reducible refine Ny.of ?_ ?_ | (refine Hyp.of ?_; intro hc; (try simp only [hc]); (try simp only [Bh] at hc)))); all_goals clear hF))
        simp only [h3, reduceCtorEq, or_false, if_false]
        exact Fin.tmp' rfl rfl
  · have h0' : (r.sku.size = 0) = False := eq_false h0
    rw [h0'] at e
    simp only [h0', not_false_eq_true, true_and]
    (focus (have hF := (And.intro @e (And.intro @decide_false @Bool.not_false)); (repeat' (first | refine go1 (k:=?_) | with_reducible refine Ny.of ?_ ?_ | (refine Hyp.of ?_; intro hc; (try simp only [hc]); (try simp only [Bh] at hc)))); all_goals clear hF))
    refine stCall [.str r.sku] (he := c1) (k:=?_)
    cases v1
    · (focus (have hF := True.intro; (repeat' (first | refine go1 (k:=?_) | with_reducible refine Ny.of ?_ ?_ | (refine Hyp.of ?_; intro hc; (try simp only [hc]); (try simp only [Bh] at hc)))); all_goals clear hF))
      exact Fin.tmp' rfl rfl
    · (focus (have hF := True.intro; (repeat' (first | refine go1 (k:=?_) | with_reducible refine Ny.of ?_ ?_ | (refine Hyp.of ?_; intro hc; (try simp only [hc]); (try simp only [Bh] at hc)))); all_goals clear hF))
      refine stCall [encP r.past] (he := c2) (k:=?_)
      cases v2
      · (focus (have hF := True.intro; (repeat' (first | refine go1 (k:=?_) | with_reducible refine Ny.of ?_ ?_ | (refine Hyp.of ?_; intro hc; (try simp only [hc]); (try simp only [Bh] at hc)))); all_goals clear hF))
        exact Fin.tmp' rfl rfl
      · (focus (have hF := True.intro; (repeat' (first | refine go1 (k:=?_) | with_reducible refine Ny.of ?_ ?_ | (refine Hyp.of ?_; intro hc; (try simp only [hc]); (try simp only [Bh] at hc)))); all_goals clear hF))
        refine stCall [encP r.past] (he := c3) (k:=?_)
        by_cases h3 : v3 = 0
        · (focus (have hF := @h3; (repeat' (first | refine go1 (k:=?_) | with_reducible refine Ny.of ?_ ?_ | (refine Hyp.of ?_; intro hc; (try simp only [hc]); (try simp only [Bh] at hc)))); all_goals clear hF))
          simp only [h3, or_true, if_true, reduceCtorEq, if_false]
          exact Fin.tmp' rfl rfl
        · (focus (have hF := @h3; (repeat' (first | refine go1 (k:=?_) | with_reducible refine Ny.of ?_ ?_ | (refine Hyp.of ?_; intro hc; (try simp only [hc]); (try simp only [Bh] at hc)))); all_goals clear hF))
          simp only [h3, reduceCtorEq, or_false, if_false]
          exact Fin.tmp' rfl rfl
theorem formK_step {l : List Rec} {i : Nat} {r : Rec} (hr : l[i]? = some r) (hI : (∀ (j : Nat) q, j < i → l[j]? = some q → recErr q = 0) ∧ ∀ (j : Nat) a b, j + 1 < i → l[j]? = some a → l[j + 1]? = some b → cmpR a b < 0) (h0 : recErr r = 0)
    (h1 : ∀ q, 0 < i → l[i - 1]? = some q → cmpR q r < 0) : (∀ (j : Nat) q, j < i + 1 → l[j]? = some q → recErr q = 0) ∧ ∀ (j : Nat) a b, j + 1 < i + 1 → l[j]? = some a → l[j + 1]? = some b → cmpR a b < 0 := by
  refine ⟨fun j q hj hq => ?_, fun j a b hj ha hb => ?_⟩
  · by_cases e : j = i
    · subst e; rw [hr] at hq; cases hq; exact h0
    · exact hI.1 j q (by omega) hq
  · by_cases e : j + 1 = i
    · subst e
      rw [hr] at hb
      cases hb
      exact h1 a (by omega) (by simpa using ha)
    · exact hI.2 j a b (by omega) ha hb
theorem ev_keepCheckW (l : List Rec) (hl : l.length ≤ 1000000000) (hw : ∀ r ∈ l, wt r.past ≤ 40000000) : Ev (En Tryz.prog rfl).P 14 [.sl 3 (encKs l)] (.ret (.int .i64 (if formK l = true then 0 else 1))) := by
  refine Ev.of_body it_k14 (by simp) (Run.start ?_)
  unfold t_k14
  have e1 := encKs_len l
  have hS := stbK
  (focus (have hF := @e1; (repeat' (first | refine go1 (k:=?_) | with_reducible refine Ny.of ?_ ?_ | (refine Hyp.of ?_; intro hc; (try simp only [hc]); (try simp only [Bh] at hc)))); all_goals clear hF))
  refine Run.while (σ := Nat) (fun i => ⟨tms [(0, .sl 3 (encKs l)), (5, .sl 3 (encKs l)), (6, .int .i64 (l.length : Int)), (7, .int .i64 (i : Int))], mms []⟩)
    (fun i => i ≤ l.length ∧ (∀ (j : Nat) q, j < i → l[j]? = some q → recErr q = 0) ∧ ∀ (j : Nat) a b, j + 1 < i → l[j]? = some a → l[j + 1]? = some b → cmpR a b < 0) (fun i => l.length - i) 0 (have hW := @encKs_stb; stWk) ⟨Nat.zero_le _, fun j q hj => absurd hj (Nat.not_lt_zero _), fun j a b hj => by omega⟩ ?_
  rintro i ⟨hi, hI⟩
  unfold t_k14_l1
  by_cases hlt : i < l.length
  · obtain ⟨r, hr⟩ : ∃ r, l[i]? = some r := ⟨l[i], by simp [hlt]⟩
    have g1 := encKs_get hr
    have hwr := hw r (List.mem_of_getElem? hr)
    have c1 := ev_k17 r (by omega)
    have hst := fun h0 h1 => formK_step hr hI h0 h1
    have hbad : recErr r ≠ 0 → ¬ FormK l := fun h hf => h (hf.1 i r hr)
    generalize recErr r = v at c1 hst hbad
    (focus (have hF := (And.intro @e1 @g1); (repeat' (first | refine go1 (k:=?_) | with_reducible refine Ny.of ?_ ?_ | (refine Hyp.of ?_; intro hc; (try simp only [hc]); (try simp only [Bh] at hc)))); all_goals clear hF))
    refine stCall [encK r] (he := c1) (k:=?_)
    by_cases hv : v = 0
    · by_cases h0 : i = 0
      · have hst := hst hv (fun q hq => by omega)
        have h0' : (i : Int) = 0 := by omega
        (focus (have hF := (And.intro (And.intro @e1 @g1) (And.intro @hv @h0')); (repeat' (first | refine go1 (k:=?_) | with_reducible refine Ny.of ?_ ?_ | (refine Hyp.of ?_; intro hc; (try simp only [hc]); (try simp only [Bh] at hc)))); all_goals clear hF))
        have hi1 : ((0 : Int) + 1) = ((i + 1 : Nat) : Int) := by omega
        (refine Fin.nextW (i + 1) ?_ (have hW := (And.intro @encKs_stb @hi1); stWk); (try dsimp only))
        exact ⟨⟨hlt, hst⟩, by omega⟩
      · obtain ⟨q, hq⟩ : ∃ q, l[i - 1]? = some q := ⟨l[i - 1]'(by omega), by simp [show i - 1 < l.length by omega]⟩
        have g2 := encKs_get hq
        have hpw : IntKind.i64.wrap ((i : Int) - 1) = ((i - 1 : Nat) : Int) := by rw [wrap_ok (by omega)]; omega
        have hwq := hw q (List.mem_of_getElem? hq)
        have c2 := ev_k19 q r (by omega) (by omega)
        have hst := hst hv
        have hbad2 : ¬ cmpR q r < 0 → ¬ FormK l := fun h hf => h (hf.2 (i - 1) q r hq (by rw [show i - 1 + 1 = i by omega]; exact hr))
        have hst : cmpR q r < 0 → _ := fun h => hst (fun q' _ hq' => by rw [hq] at hq'; cases hq'; exact h)
        generalize cmpR q r = u at c2 hst hbad2
        (focus (have hF := (And.intro (And.intro @e1 @g1) (And.intro @g2 (And.intro @hv @hpw))); (repeat' (first | refine go1 (k:=?_) | with_reducible refine Ny.of ?_ ?_ | (refine Hyp.of ?_; intro hc; (try simp only [hc]); (try simp only [Bh] at hc)))); all_goals clear hF))
        refine stCall [encK q, encK r] (he := c2) (k:=?_)
        by_cases hu : u < 0
        · have hst := hst hu
          (focus (have hF := (And.intro @e1 @g1); (repeat' (first | refine go1 (k:=?_) | with_reducible refine Ny.of ?_ ?_ | (refine Hyp.of ?_; intro hc; (try simp only [hc]); (try simp only [Bh] at hc)))); all_goals clear hF))
          (refine Fin.nextW (i + 1) ?_ (have hW := @encKs_stb; stWk); (try dsimp only))
          exact ⟨⟨hlt, hst⟩, by omega⟩
        · rw [formK_false (hbad2 hu)]
          (focus (have hF := (And.intro @e1 @g1); (repeat' (first | refine go1 (k:=?_) | with_reducible refine Ny.of ?_ ?_ | (refine Hyp.of ?_; intro hc; (try simp only [hc]); (try simp only [Bh] at hc)))); all_goals clear hF))
          exact Fin.tmp' rfl rfl
    · rw [formK_false (hbad hv)]
      (focus (have hF := (And.intro @e1 (And.intro @g1 @hv)); (repeat' (first | refine go1 (k:=?_) | with_reducible refine Ny.of ?_ ?_ | (refine Hyp.of ?_; intro hc; (try simp only [hc]); (try simp only [Bh] at hc)))); all_goals clear hF))
      exact Fin.tmp' rfl rfl
  · rw [formK_true ⟨fun j q hq => hI.1 j q (by
      rcases Nat.lt_or_ge j l.length with h | h
      · omega
      · rw [List.getElem?_eq_none h] at hq; cases hq) hq, fun j a b ha hb => hI.2 j a b (by
      rcases Nat.lt_or_ge (j + 1) l.length with h | h
      · omega
      · rw [List.getElem?_eq_none h] at hb; cases hb) ha hb⟩]
    (focus (have hF := @e1; (repeat' (first | refine go1 (k:=?_) | with_reducible refine Ny.of ?_ ?_ | (refine Hyp.of ?_; intro hc; (try simp only [hc]); (try simp only [Bh] at hc)))); all_goals clear hF))
    exact Fin.tmp' rfl rfl
theorem ev_k14 (l : List Rec) (hw : wtKs l ≤ 40000000) : Ev (En Tryz.prog rfl).P 14 [.sl 3 (encKs l)] (.ret (.int .i64 (if formK l = true then 0 else 1))) := by
  have hlw := wtKs_len l
  exact ev_keepCheckW l (by omega) (fun r hr => by have := wtK_le hr; unfold wtK at this; omega)

theorem ev_ref07CheckW (l : List Rec) (hl : l.length ≤ 1000000000) (hw : ∀ r ∈ l, wt r.past ≤ 30000000) : Ev (En Tryz.prog rfl).P 15 [.sl 3 (encKs l)] (.ret (.int .i64 (if formK l = true then 0 else 1))) := by
  refine Ev.of_body it_k15 (by simp) (Run.start ?_)
  unfold t_k15
  have e1 := encKs_len l
  have hS := stbK
  (focus (have hF := @e1; (repeat' (first | refine go1 (k:=?_) | with_reducible refine Ny.of ?_ ?_ | (refine Hyp.of ?_; intro hc; (try simp only [hc]); (try simp only [Bh] at hc)))); all_goals clear hF))
  refine Run.while (σ := Nat) (fun i => ⟨tms [(0, .sl 3 (encKs l)), (3, .int .i64 (i : Int))], mms []⟩)
    (fun i => i ≤ l.length ∧ (∀ (j : Nat) q, j < i → l[j]? = some q → recErr q = 0) ∧ ∀ (j : Nat) a b, j + 1 < i → l[j]? = some a → l[j + 1]? = some b → cmpR a b < 0) (fun i => l.length - i) 0 (have hW := @encKs_stb; stWk) ⟨Nat.zero_le _, fun j q hj => absurd hj (Nat.not_lt_zero _), fun j a b hj => by omega⟩ ?_
  rintro i ⟨hi, hI⟩
  unfold t_k15_l1
  by_cases hlt : i < l.length
  · obtain ⟨r, hr⟩ : ∃ r, l[i]? = some r := ⟨l[i], by simp [hlt]⟩
    have g1 := encKs_get hr
    have hwr := hw r (List.mem_of_getElem? hr)
    have c1 := ev_k18 r (by omega)
    have hst := fun h0 h1 => formK_step hr hI h0 h1
    have hbad : recErr r ≠ 0 → ¬ FormK l := fun h hf => h (hf.1 i r hr)
    generalize recErr r = v at c1 hst hbad
    (focus (have hF := (And.intro @e1 @g1); (repeat' (first | refine go1 (k:=?_) | with_reducible refine Ny.of ?_ ?_ | (refine Hyp.of ?_; intro hc; (try simp only [hc]); (try simp only [Bh] at hc)))); all_goals clear hF))
    refine stCall [encK r] (he := c1) (k:=?_)
    by_cases hv : v = 0
    · by_cases h0 : i = 0
      · have hst := hst hv (fun q hq => by omega)
        have h0' : (i : Int) = 0 := by omega
        (focus (have hF := (And.intro (And.intro @e1 @g1) (And.intro @hv @h0')); (repeat' (first | refine go1 (k:=?_) | with_reducible refine Ny.of ?_ ?_ | (refine Hyp.of ?_; intro hc; (try simp only [hc]); (try simp only [Bh] at hc)))); all_goals clear hF))
        have hi1 : ((0 : Int) + 1) = ((i + 1 : Nat) : Int) := by omega
        (refine Fin.nextW (i + 1) ?_ (have hW := (And.intro @encKs_stb @hi1); stWk); (try dsimp only))
        exact ⟨⟨hlt, hst⟩, by omega⟩
      · obtain ⟨q, hq⟩ : ∃ q, l[i - 1]? = some q := ⟨l[i - 1]'(by omega), by simp [show i - 1 < l.length by omega]⟩
        have g2 := encKs_get hq
        have hpw : IntKind.i64.wrap ((i : Int) - 1) = ((i - 1 : Nat) : Int) := by rw [wrap_ok (by omega)]; omega
        have hwq := hw q (List.mem_of_getElem? hq)
        have c2 := ev_k20 q r (by omega) (by omega)
        have hst := hst hv
        have hbad2 : ¬ cmpR q r < 0 → ¬ FormK l := fun h hf => h (hf.2 (i - 1) q r hq (by rw [show i - 1 + 1 = i by omega]; exact hr))
        have hst : cmpR q r < 0 → _ := fun h => hst (fun q' _ hq' => by rw [hq] at hq'; cases hq'; exact h)
        generalize cmpR q r = u at c2 hst hbad2
        (focus (have hF := (And.intro (And.intro @e1 @g1) (And.intro @g2 (And.intro @hv @hpw))); (repeat' (first | refine go1 (k:=?_) | with_reducible refine Ny.of ?_ ?_ | (refine Hyp.of ?_; intro hc; (try simp only [hc]); (try simp only [Bh] at hc)))); all_goals clear hF))
        refine stCall [encK q, encK r] (he := c2) (k:=?_)
        by_cases hu : u < 0
        · have hst := hst hu
          (focus (have hF := (And.intro @e1 @g1); (repeat' (first | refine go1 (k:=?_) | with_reducible refine Ny.of ?_ ?_ | (refine Hyp.of ?_; intro hc; (try simp only [hc]); (try simp only [Bh] at hc)))); all_goals clear hF))
          (refine Fin.nextW (i + 1) ?_ (have hW := @encKs_stb; stWk); (try dsimp only))
          exact ⟨⟨hlt, hst⟩, by omega⟩
        · rw [formK_false (hbad2 hu)]
          (focus (have hF := (And.intro @e1 @g1); (repeat' (first | refine go1 (k:=?_) | with_reducible refine Ny.of ?_ ?_ | (refine Hyp.of ?_; intro hc; (try simp only [hc]); (try simp only [Bh] at hc)))); all_goals clear hF))
          exact Fin.tmp' rfl rfl
    · rw [formK_false (hbad hv)]
      (focus (have hF := (And.intro @e1 (And.intro @g1 @hv)); (repeat' (first | refine go1 (k:=?_) | with_reducible refine Ny.of ?_ ?_ | (refine Hyp.of ?_; intro hc; (try simp only [hc]); (try simp only [Bh] at hc)))); all_goals clear hF))
      exact Fin.tmp' rfl rfl
  · rw [formK_true ⟨fun j q hq => hI.1 j q (by
      rcases Nat.lt_or_ge j l.length with h | h
      · omega
      · rw [List.getElem?_eq_none h] at hq; cases hq) hq, fun j a b ha hb => hI.2 j a b (by
      rcases Nat.lt_or_ge (j + 1) l.length with h | h
      · omega
      · rw [List.getElem?_eq_none h] at hb; cases hb) ha hb⟩]
    (focus (have hF := @e1; (repeat' (first | refine go1 (k:=?_) | with_reducible refine Ny.of ?_ ?_ | (refine Hyp.of ?_; intro hc; (try simp only [hc]); (try simp only [Bh] at hc)))); all_goals clear hF))
    exact Fin.tmp' rfl rfl
theorem ev_k119 (e : Ent) : Ev (En Tryz.prog rfl).P 119 [encE e] (.ret (.int .i64 (entErr e))) := by
  refine Ev.of_body it_k119 (by simp) (Run.start ?_)
  unfold t_k119 encE entErr
  have c1 := ev_k54 e.sku
  generalize goodS e.sku = v at c1 ⊢
  by_cases h1 : e.rep < 0 ∨ 16 ≤ e.rep
  · rw [if_pos h1]
    rcases h1 with h1 | h1
    all_goals
      (focus (have hF := True.intro; (repeat' (first | refine go1 (k:=?_) | with_reducible refine Ny.of ?_ ?_ | (refine Hyp.of ?_; intro hc; (try simp only [hc]); (try simp only [Bh] at hc)))); all_goals clear hF))
    all_goals first | exact Fin.tmp' rfl rfl | (exfalso; omega)
  · rw [if_neg h1]
    by_cases h2 : e.num < 1 ∨ 1000000000 < e.num
    · rw [if_pos h2]
      rcases h2 with h2 | h2
      all_goals
        (focus (have hF := True.intro; (repeat' (first | refine go1 (k:=?_) | with_reducible refine Ny.of ?_ ?_ | (refine Hyp.of ?_; intro hc; (try simp only [hc]); (try simp only [Bh] at hc)))); all_goals clear hF))
      all_goals first | exact Fin.tmp' rfl rfl | (exfalso; omega)
    · rw [if_neg h2]
      (focus (have hF := True.intro; (repeat' (first | refine go1 (k:=?_) | with_reducible refine Ny.of ?_ ?_ | (refine Hyp.of ?_; intro hc; (try simp only [hc]); (try simp only [Bh] at hc)))); all_goals clear hF))
      all_goals
        refine stCall [.str e.sku] (he := c1) (k:=?_)
        cases v
        case' false =>
          rw [if_pos rfl]
          (focus (have hF := True.intro; (repeat' (first | refine go1 (k:=?_) | with_reducible refine Ny.of ?_ ?_ | (refine Hyp.of ?_; intro hc; (try simp only [hc]); (try simp only [Bh] at hc)))); all_goals clear hF))
          exact Fin.tmp' rfl rfl
        case' true =>
          rw [if_neg (by decide)]
          by_cases h3 : e.qty < 1 ∨ 1000000 < e.qty
          · rw [if_pos h3]
            rcases h3 with h3 | h3
            all_goals
              (focus (have hF := True.intro; (repeat' (first | refine go1 (k:=?_) | with_reducible refine Ny.of ?_ ?_ | (refine Hyp.of ?_; intro hc; (try simp only [hc]); (try simp only [Bh] at hc)))); all_goals clear hF))
            all_goals first | exact Fin.tmp' rfl rfl | (exfalso; omega)
          · rw [if_neg h3]
            (focus (have hF := True.intro; (repeat' (first | refine go1 (k:=?_) | with_reducible refine Ny.of ?_ ?_ | (refine Hyp.of ?_; intro hc; (try simp only [hc]); (try simp only [Bh] at hc)))); all_goals clear hF))
            all_goals first | exact Fin.tmp' rfl rfl | (exfalso; omega)
theorem ev_k120 (a b : Rn) : Ev (En Tryz.prog rfl).P 120 [encR a, encR b] (.ret (.bool (dotLt a b))) := by
  refine Ev.of_body it_k120 (by simp) (Run.start ?_)
  unfold t_k120 encR dotLt
  by_cases h1 : a.1 < b.1
  · rw [show (decide (a.1 < b.1) || (decide (a.1 = b.1) && decide (a.2 < b.2))) = true by simp [h1]]
    (focus (have hF := True.intro; (repeat' (first | refine go1 (k:=?_) | with_reducible refine Ny.of ?_ ?_ | (refine Hyp.of ?_; intro hc; (try simp only [hc]); (try simp only [Bh] at hc)))); all_goals clear hF))
    exact Fin.tmp' rfl rfl
  · by_cases h2 : a.1 = b.1
    · rw [show (decide (a.1 < b.1) || (decide (a.1 = b.1) && decide (a.2 < b.2))) = decide (a.2 < b.2) by simp [h1, h2]]
      (focus (have hF := True.intro; (repeat' (first | refine go1 (k:=?_) | with_reducible refine Ny.of ?_ ?_ | (refine Hyp.of ?_; intro hc; (try simp only [hc]); (try simp only [Bh] at hc)))); all_goals clear hF))
      exact Fin.tmp' rfl rfl
    · rw [show (decide (a.1 < b.1) || (decide (a.1 = b.1) && decide (a.2 < b.2))) = false by simp [h1, h2]]
      (focus (have hF := True.intro; (repeat' (first | refine go1 (k:=?_) | with_reducible refine Ny.of ?_ ?_ | (refine Hyp.of ?_; intro hc; (try simp only [hc]); (try simp only [Bh] at hc)))); all_goals clear hF))
      exact Fin.tmp' rfl rfl
theorem formE_step {l : List Ent} {i : Nat} {r : Ent} (hr : l[i]? = some r) (hI : (∀ (j : Nat) q, j < i → l[j]? = some q → entErr q = 0) ∧ ∀ (j : Nat) a b, j + 1 < i → l[j]? = some a → l[j + 1]? = some b → dotLt a.dot b.dot = true) (h0 : entErr r = 0)
    (h1 : ∀ q, 0 < i → l[i - 1]? = some q → dotLt q.dot r.dot = true) : (∀ (j : Nat) q, j < i + 1 → l[j]? = some q → entErr q = 0) ∧ ∀ (j : Nat) a b, j + 1 < i + 1 → l[j]? = some a → l[j + 1]? = some b → dotLt a.dot b.dot = true := by
  refine ⟨fun j q hj hq => ?_, fun j a b hj ha hb => ?_⟩
  · by_cases e : j = i
    · subst e; rw [hr] at hq; cases hq; exact h0
    · exact hI.1 j q (by omega) hq
  · by_cases e : j + 1 = i
    · subst e
      rw [hr] at hb
      cases hb
      exact h1 a (by omega) (by simpa using ha)
    · exact hI.2 j a b (by omega) ha hb
theorem formE_all {l : List Ent} {i : Nat} (hi : l.length ≤ i) (hI : (∀ (j : Nat) q, j < i → l[j]? = some q → entErr q = 0) ∧ ∀ (j : Nat) a b, j + 1 < i → l[j]? = some a → l[j + 1]? = some b → dotLt a.dot b.dot = true) : FormE l :=
  ⟨fun j q hq => hI.1 j q (by
      rcases Nat.lt_or_ge j l.length with h | h
      · omega
      · rw [List.getElem?_eq_none h] at hq; cases hq) hq, fun j a b ha hb => hI.2 j a b (by
      rcases Nat.lt_or_ge (j + 1) l.length with h | h
      · omega
      · rw [List.getElem?_eq_none h] at hb; cases hb) ha hb⟩
theorem ev_k70 (l : List Ent) (hl : l.length ≤ 1000000000) : Ev (En Tryz.prog rfl).P 70 [.sl 4 (encEs l)] (.ret (.int .i64 (if formE l = true then 0 else 1))) := by
  refine Ev.of_body it_k70 (by simp) (Run.start ?_)
  unfold t_k70
  have e1 := encEs_len l
  have hS := stbK
  (focus (have hF := @e1; (repeat' (first | refine go1 (k:=?_) | with_reducible refine Ny.of ?_ ?_ | (refine Hyp.of ?_; intro hc; (try simp only [hc]); (try simp only [Bh] at hc)))); all_goals clear hF))
  refine Run.while (σ := Nat) (fun i => ⟨tms [(0, .sl 4 (encEs l)), (5, .sl 4 (encEs l)), (6, .int .i64 (l.length : Int)), (7, .int .i64 (i : Int))], mms []⟩)
    (fun i => i ≤ l.length ∧ (∀ (j : Nat) q, j < i → l[j]? = some q → entErr q = 0) ∧ ∀ (j : Nat) a b, j + 1 < i → l[j]? = some a → l[j + 1]? = some b → dotLt a.dot b.dot = true) (fun i => l.length - i) 0 (have hW := @encEs_stb; stWk) ⟨Nat.zero_le _, fun j q hj => absurd hj (Nat.not_lt_zero _), fun j a b hj => by omega⟩ ?_
  rintro i ⟨hi, hI⟩
  unfold t_k70_l1
  by_cases hlt : i < l.length
  · obtain ⟨r, hr⟩ : ∃ r, l[i]? = some r := ⟨l[i], by simp [hlt]⟩
    have g1 := encEs_get hr
    have c1 := ev_k119 r
    have hst := fun h0 h1 => formE_step hr hI h0 h1
    have hbad : entErr r ≠ 0 → ¬ FormE l := fun h hf => h (hf.1 i r hr)
    generalize entErr r = v at c1 hst hbad
    (focus (have hF := (And.intro @e1 @g1); (repeat' (first | refine go1 (k:=?_) | with_reducible refine Ny.of ?_ ?_ | (refine Hyp.of ?_; intro hc; (try simp only [hc]); (try simp only [Bh] at hc)))); all_goals clear hF))
    refine stCall [encE r] (he := c1) (k:=?_)
    by_cases hv : v = 0
    · by_cases h0 : i = 0
      · have hst := hst hv (fun q hq => by omega)
        have h0' : (i : Int) = 0 := by omega
        (focus (have hF := (And.intro (And.intro @e1 @g1) (And.intro @hv @h0')); (repeat' (first | refine go1 (k:=?_) | with_reducible refine Ny.of ?_ ?_ | (refine Hyp.of ?_; intro hc; (try simp only [hc]); (try simp only [Bh] at hc)))); all_goals clear hF))
        have hi1 : ((0 : Int) + 1) = ((i + 1 : Nat) : Int) := by omega
        (refine Fin.nextW (i + 1) ?_ (have hW := (And.intro @encEs_stb @hi1); stWk); (try dsimp only))
        exact ⟨⟨hlt, hst⟩, by omega⟩
      · obtain ⟨q, hq⟩ : ∃ q, l[i - 1]? = some q := ⟨l[i - 1]'(by omega), by simp [show i - 1 < l.length by omega]⟩
        have g2 := encEs_get hq
        have hpw : IntKind.i64.wrap ((i : Int) - 1) = ((i - 1 : Nat) : Int) := by rw [wrap_ok (by omega)]; omega
        have c2 := ev_k120 q.dot r.dot
        have hst := hst hv
        have hbad2 : dotLt q.dot r.dot = false → ¬ FormE l := fun h hf => by
          have := hf.2 (i - 1) q r hq (by rw [show i - 1 + 1 = i by omega]; exact hr)
          rw [h] at this
          cases this
        have hst : dotLt q.dot r.dot = true → _ := fun h => hst (fun q' _ hq' => by rw [hq] at hq'; cases hq'; exact h)
        generalize dotLt q.dot r.dot = u at c2 hst hbad2
        (focus (have hF := (And.intro (And.intro @e1 @g1) (And.intro @g2 (And.intro @hv @hpw))); (repeat' (first | refine go1 (k:=?_) | with_reducible refine Ny.of ?_ ?_ | (refine Hyp.of ?_; intro hc; (try simp only [hc]); (try simp only [Bh] at hc)))); all_goals clear hF))
        refine stCall [encR q.dot, encR r.dot] (he := c2) (k:=?_)
        cases u
        · rw [formE_false (hbad2 rfl)]
          (focus (have hF := (And.intro @e1 @g1); (repeat' (first | refine go1 (k:=?_) | with_reducible refine Ny.of ?_ ?_ | (refine Hyp.of ?_; intro hc; (try simp only [hc]); (try simp only [Bh] at hc)))); all_goals clear hF))
          exact Fin.tmp' rfl rfl
        · have hst := hst rfl
          (focus (have hF := (And.intro @e1 @g1); (repeat' (first | refine go1 (k:=?_) | with_reducible refine Ny.of ?_ ?_ | (refine Hyp.of ?_; intro hc; (try simp only [hc]); (try simp only [Bh] at hc)))); all_goals clear hF))
          (refine Fin.nextW (i + 1) ?_ (have hW := @encEs_stb; stWk); (try dsimp only))
          exact ⟨⟨hlt, hst⟩, by omega⟩
    · rw [formE_false (hbad hv)]
      (focus (have hF := (And.intro @e1 (And.intro @g1 @hv)); (repeat' (first | refine go1 (k:=?_) | with_reducible refine Ny.of ?_ ?_ | (refine Hyp.of ?_; intro hc; (try simp only [hc]); (try simp only [Bh] at hc)))); all_goals clear hF))
      exact Fin.tmp' rfl rfl
  · rw [formE_true (formE_all (by omega) hI)]
    (focus (have hF := @e1; (repeat' (first | refine go1 (k:=?_) | with_reducible refine Ny.of ?_ ?_ | (refine Hyp.of ?_; intro hc; (try simp only [hc]); (try simp only [Bh] at hc)))); all_goals clear hF))
    exact Fin.tmp' rfl rfl


end Go.Proofs.YtpomanleabaafaaGreat.Avm
