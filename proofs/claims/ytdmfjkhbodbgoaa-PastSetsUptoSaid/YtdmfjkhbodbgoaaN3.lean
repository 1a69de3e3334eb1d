/- Part 3 of the proof: lemmas. -/
import Derived.Test.YtdmfjkhbodbgoaaN2
import Derived.Test.YtdmfjkhbodbgoaaProg
import Derived.KernelRfl
import Derived.Shelf.SlSortCmp.NoneTotal
set_option maxRecDepth 100000
set_option maxHeartbeats 4000000
set_option linter.unusedVariables false
set_option linter.unusedSimpArgs false
set_option linter.unusedSectionVars false
set_option linter.defProp false
namespace Go.Proofs.Ytdmfjkhbodbgoaa.Avm
open Go.Proofs
theorem encIs_at {l : List Int} {i : Nat} (h : i < l.length) : (encIs l)[i]? = some (.int .i64 (l.getD i 0)) := encIs_get (by simp [h])
theorem encIs_take (l : List Int) (i : Nat) : (encIs l).take i = encIs (l.take i) := by simp [encIs]
theorem encIs_drop (l : List Int) (i : Nat) : (encIs l).drop i = encIs (l.drop i) := by simp [encIs]
theorem encIs_snoc (l : List Int) (x : Int) : encIs l ++ [.int .i64 x] = encIs (l ++ [x]) := by simp [encIs, encI]
theorem encIs_nil : encIs [] = [] := rfl
def leI (x y : Int) : Bool := decide (x ≤ y)
theorem merge_left {a b : List Int} {i j : Nat} (hi : i < a.length) (h : j = b.length ∨ a.getD i 0 ≤ b.getD j 0) (hj : j ≤ b.length) : List.merge (a.drop i) (b.drop j) leI = a.getD i 0 :: List.merge (a.drop (i + 1)) (b.drop j) leI := by
  rw [List.drop_eq_getElem_cons hi]
  have e : a.getD i 0 = a[i] := by simp [hi]
  rcases Nat.lt_or_ge j b.length with h' | h'
  · rw [List.drop_eq_getElem_cons h', List.cons_merge_cons]
    have e2 : b.getD j 0 = b[j] := by simp [h']
    rw [e, e2] at h
    have h3 : a[i] ≤ b[j] := by rcases h with h | h; omega; exact h
    simp [leI, h3, e, hi]
  · rw [List.drop_of_length_le h']
    simp [List.merge, hi]
theorem merge_right {a b : List Int} {i j : Nat} (hj : j < b.length) (h : i = a.length ∨ ¬ a.getD i 0 ≤ b.getD j 0) (hi : i ≤ a.length) : List.merge (a.drop i) (b.drop j) leI = b.getD j 0 :: List.merge (a.drop i) (b.drop (j + 1)) leI := by
  rw [List.drop_eq_getElem_cons hj]
  have e2 : b.getD j 0 = b[j] := by simp [hj]
  rcases Nat.lt_or_ge i a.length with h' | h'
  · rw [List.drop_eq_getElem_cons h', List.cons_merge_cons]
    have e : a.getD i 0 = a[i] := by simp [h']
    rw [e, e2] at h
    have h3 : ¬ a[i] ≤ b[j] := by rcases h with h | h; omega; exact h
    simp [leI, h3, e2, hj]
  · rw [List.drop_of_length_le h']
    simp [List.merge, hj]
theorem merge_sorted {l a b : List Int} (ha : a.Perm (l.take (l.length / 2))) (hb : b.Perm (l.drop (l.length / 2))) (sa : a.Pairwise (fun x y => x ≤ y)) (sb : b.Pairwise (fun x y => x ≤ y)) : List.merge a b leI = sortI l := by
  have h1 : (List.merge a b leI).Perm l := by
    refine List.Perm.trans (List.merge_perm_append leI) ?_
    refine List.Perm.trans (ha.append hb) ?_
    rw [List.take_append_drop]
  have h2 : (List.merge a b leI).Pairwise (fun x y => leI x y = true) := List.pairwise_merge (le := leI) (fun a b c h1 h2 => by simp [leI] at *; omega) (fun a b => by simp [leI]; omega) _ _ (sa.imp fun {a b} h => by simpa [leI] using h) (sb.imp fun {a b} h => by simpa [leI] using h)
  have h3 := sortI_sorted l
  refine List.Perm.eq_of_pairwise (le := fun x y => x ≤ y) (fun a b _ _ h1 h2 => by omega) (h2.imp fun {a b} h => by simpa [leI] using h) h3 (h1.trans (sortI_perm l).symm)
theorem sortI_short {l : List Int} (h : l.length < 2) : sortI l = l := by
  have := sortI_perm l
  match l, h with
  | [], _ => exact List.Perm.eq_nil this
  | [x], _ => exact List.Perm.eq_singleton this
theorem ev_ref04sorted (l : List Int) (hl : l.length ≤ 1000000000) : Ev (En Try.prog rfl).P 108 [.sl 1 (encIs l)] (.ret (.sl 1 (encIs (sortI l)))) := by
  suffices h : ∀ n l, l.length ≤ n → l.length ≤ 1000000000 → Ev (En Try.prog rfl).P 108 [.sl 1 (encIs l)] (.ret (.sl 1 (encIs (sortI l)))) from h _ l (Nat.le_refl _) hl
  clear hl l
  intro n
  induction n with
  | zero =>
    intro l hn hl
    have : l = [] := List.length_eq_zero_iff.1 (by omega)
    subst this
    refine Ev.of_body it_ref04sorted (by simp) (Run.start ?_)
    unfold t_ref04sorted
    rw [sortI_short (by simp), encIs_nil]
    (focus (have hF := True.intro; (repeat' (first | (with_reducible refine Nx.of ?_) | ((with_reducible apply toV); refine stV (k := ?_)) | ((with_reducible apply toG); refine stG (k := ?_)) | ((with_reducible apply toG0); refine stG0 (k := ?_)) | ((with_reducible apply toC); refine stC (k := ?_)) | ((with_reducible apply toO); refine stO (k := ?_)) | ((with_reducible apply toX); refine stX (k := ?_)) | (with_reducible refine Ny.of ?_ ?_) | (refine Hyp.of ?_; intro hc; (try simp only [hc]); (try simp only [Bh] at hc)) | fail)); (all_goals clear hF)))
    exact Fin.tmp' rfl rfl
  | succ n ih =>
  intro l hn hl
  refine Ev.of_body it_ref04sorted (by simp) (Run.start ?_)
  unfold t_ref04sorted
  have e0 := encIs_len l
  have e1 : (0:Int) ≤ ((l.length / 2 : Nat) : Int) := by omega
  (focus (have hF := (And.intro (And.intro @e0 @e1) (And.intro @encIs_take @encIs_drop)); (repeat' (first | (with_reducible refine Nx.of ?_) | ((with_reducible apply toV); refine stV (k := ?_)) | ((with_reducible apply toG); refine stG (k := ?_)) | ((with_reducible apply toG0); refine stG0 (k := ?_)) | ((with_reducible apply toC); refine stC (k := ?_)) | ((with_reducible apply toO); refine stO (k := ?_)) | ((with_reducible apply toX); refine stX (k := ?_)) | (with_reducible refine Ny.of ?_ ?_) | (refine Hyp.of ?_; intro hc; (try simp only [hc]); (try simp only [Bh] at hc)) | fail)); (all_goals clear hF)))
  · refine Fin.tmp' ?_ (encIs_stb _)
    rw [sortI_short (by omega)]
    rfl
  · have c1 := ih (l.take (l.length / 2)) (by rw [List.length_take]; omega) (by rw [List.length_take]; omega)
    have c2 := ih (l.drop (l.length / 2)) (by rw [List.length_drop]; omega) (by rw [List.length_drop]; omega)
    have l1 : (sortI (l.take (l.length / 2))).length = l.length / 2 := by rw [sortI_len, List.length_take]; omega
    have l2 : (sortI (l.drop (l.length / 2))).length = l.length - l.length / 2 := by rw [sortI_len, List.length_drop]
    have hm := merge_sorted (sortI_perm (l.take (l.length / 2))) (sortI_perm (l.drop (l.length / 2))) (sortI_sorted _) (sortI_sorted _)
    generalize sortI (l.take (l.length / 2)) = a at c1 l1 hm
    generalize sortI (l.drop (l.length / 2)) = b at c2 l2 hm
    refine stCall [.sl 1 (encIs (l.take (l.length / 2)))] (he := c1) (k := ?_)
    (focus (have hF := (And.intro (And.intro @e0 @e1) (And.intro @encIs_take @encIs_drop)); (repeat' (first | (with_reducible refine Nx.of ?_) | ((with_reducible apply toV); refine stV (k := ?_)) | ((with_reducible apply toG); refine stG (k := ?_)) | ((with_reducible apply toG0); refine stG0 (k := ?_)) | ((with_reducible apply toC); refine stC (k := ?_)) | ((with_reducible apply toO); refine stO (k := ?_)) | ((with_reducible apply toX); refine stX (k := ?_)) | (with_reducible refine Ny.of ?_ ?_) | (refine Hyp.of ?_; intro hc; (try simp only [hc]); (try simp only [Bh] at hc)) | fail)); (all_goals clear hF)))
    refine stCall [.sl 1 (encIs (l.drop (l.length / 2)))] (he := c2) (k := ?_)
    (focus (have hF := (And.intro (And.intro @e0 @e1) (And.intro @encIs_take @encIs_drop)); (repeat' (first | (with_reducible refine Nx.of ?_) | ((with_reducible apply toV); refine stV (k := ?_)) | ((with_reducible apply toG); refine stG (k := ?_)) | ((with_reducible apply toG0); refine stG0 (k := ?_)) | ((with_reducible apply toC); refine stC (k := ?_)) | ((with_reducible apply toO); refine stO (k := ?_)) | ((with_reducible apply toX); refine stX (k := ?_)) | (with_reducible refine Ny.of ?_ ?_) | (refine Hyp.of ?_; intro hc; (try simp only [hc]); (try simp only [Bh] at hc)) | fail)); (all_goals clear hF)))
    refine Run.while (σ := List Int × Nat × Nat) (fun q => ⟨tms [(3, .sl 1 (encIs a)), (4, .sl 1 (encIs b)), (5, .os 28 q.1.length), (6, .int .i64 q.2.1), (7, .int .i64 q.2.2)], mms [(28, .arr q.1.length 1 (encIs q.1))]⟩)
      (fun q => q.1.length = q.2.1 + q.2.2 ∧ q.2.1 ≤ a.length ∧ q.2.2 ≤ b.length ∧ q.1 ++ List.merge (a.drop q.2.1) (b.drop q.2.2) leI = List.merge a b leI) (fun q => a.length + b.length - q.1.length) ([], 0, 0) (have hW := True.intro; stWk) ⟨rfl, Nat.zero_le _, Nat.zero_le _, by simp⟩ ?_
    rintro ⟨s, i, j⟩ ⟨h1, h2, h3, h4⟩
    dsimp only at h1 h2 h3 h4
    unfold t_ref04sorted_l1
    have f1 := encIs_len a
    have f2 := encIs_len b
    have f3 := encIs_len s
    (focus (have hF := (And.intro (And.intro @f1 (And.intro @f2 @f3)) (And.intro @encIs_at (And.intro @encIs_snoc @Int.natCast_inj))); (repeat' (first | (with_reducible refine Nx.of ?_) | ((with_reducible apply toV); refine stV (k := ?_)) | ((with_reducible apply toG); refine stG (k := ?_)) | ((with_reducible apply toG0); refine stG0 (k := ?_)) | ((with_reducible apply toC); refine stC (k := ?_)) | ((with_reducible apply toO); refine stO (k := ?_)) | ((with_reducible apply toX); refine stX (k := ?_)) | (with_reducible refine Ny.of ?_ ?_) | (refine Hyp.of ?_; intro hc; (try simp only [hc]); (try simp only [Bh] at hc)) | fail)); (all_goals clear hF)))
    · (refine Fin.nextW (s ++ [a.getD i 0], i + 1, j) ?_ (have hW := True.intro; stWk); (try dsimp only))
      refine ⟨⟨(by first | omega | (simp only [List.length_append, List.length_cons, List.length_nil]; omega)), (by first | omega | (simp only [List.length_append, List.length_cons, List.length_nil]; omega)), h3, ?_⟩, (by first | omega | (simp only [List.length_append, List.length_cons, List.length_nil]; omega))⟩
      rw [← h4, merge_left (i := i) (j := j) (by omega) (.inl hc) h3]; simp
    · (refine Fin.nextW (s ++ [a.getD i 0], i + 1, j) ?_ (have hW := True.intro; stWk); (try dsimp only))
      refine ⟨⟨(by first | omega | (simp only [List.length_append, List.length_cons, List.length_nil]; omega)), (by first | omega | (simp only [List.length_append, List.length_cons, List.length_nil]; omega)), h3, ?_⟩, (by first | omega | (simp only [List.length_append, List.length_cons, List.length_nil]; omega))⟩
      rw [← h4, merge_left (i := i) (j := j) (by omega) (.inr hc) h3]; simp
    · (refine Fin.nextW (s ++ [b.getD j 0], i, j + 1) ?_ (have hW := True.intro; stWk); (try dsimp only))
      refine ⟨⟨(by first | omega | (simp only [List.length_append, List.length_cons, List.length_nil]; omega)), h2, (by first | omega | (simp only [List.length_append, List.length_cons, List.length_nil]; omega)), ?_⟩, (by first | omega | (simp only [List.length_append, List.length_cons, List.length_nil]; omega))⟩
      rw [← h4, merge_right (i := i) (j := j) (by omega) (.inr hc) h2]; simp
    · (refine Fin.nextW (s ++ [b.getD j 0], i, j + 1) ?_ (have hW := True.intro; stWk); (try dsimp only))
      refine ⟨⟨(by first | omega | (simp only [List.length_append, List.length_cons, List.length_nil]; omega)), h2, (by first | omega | (simp only [List.length_append, List.length_cons, List.length_nil]; omega)), ?_⟩, (by first | omega | (simp only [List.length_append, List.length_cons, List.length_nil]; omega))⟩
      rw [← h4, merge_right (i := i) (j := j) (by omega) (.inl (by omega)) h2]; simp
    · have hs : s = sortI l := by
        rw [← hm, ← h4, show i = a.length by omega, show j = b.length by omega, List.drop_length, List.drop_length]
        simp [List.merge]
      rw [← hs]
      exact stRet (.sl 1 (encIs s))
end Go.Proofs.Ytdmfjkhbodbgoaa.Avm

namespace Go.Proofs.Ytdmfjkhbodbgoaa.Avm
open Go.Proofs
def r_ref04turns_1 : List SOp :=
  [⟨(some 4), (.assign (.const (.slice none 0 0))), none⟩]
instance : Live r_ref04turns_1 := ⟨[0, 1]⟩
def r_ref04turns_2 : List SOp :=
  [⟨(some 5), (.assign (.const (.slice none 0 0))), none⟩, ⟨(some 6), (.assign (.const (.slice none 0 0))), none⟩]
instance : Live r_ref04turns_2 := ⟨[0, 1]⟩
def r_ref04turns_3 : List SOp :=
  [⟨(some 7), (.assign (.const (.int .i64 0))), none⟩]
instance : Live r_ref04turns_3 := ⟨[0, 1, 5, 6]⟩
def r_ref04turns_4 : List SOp :=
  [⟨(some 14), (.move (.tmp 7)), none⟩, ⟨(some 15), (.move (.tmp 0)), none⟩, ⟨(some 16), (.call ⟨.builtin .len, #[.tmp 15], #[22]⟩), none⟩, ⟨(some 17), (.binOp .lss 3 (.tmp 14) (.tmp 16) 3), none⟩]
instance : Live r_ref04turns_4 := ⟨[0, 1, 5, 6, 7]⟩
def r_ref04turns_5 : List SOp :=
  [⟨(some 20), (.move (.tmp 0)), none⟩, ⟨(some 21), (.move (.tmp 7)), none⟩, ⟨(some 22), (.indexAddr 22 (.tmp 20) (.tmp 21)), none⟩, ⟨(some 23), (.load 3 (.tmp 22)), none⟩, ⟨(some 24), (.call ⟨.builtin .max, #[.tmp 23, .const (.int .i64 1)], #[3, 3]⟩), none⟩, ⟨(some 25), (.move (.tmp 1)), none⟩, ⟨(some 26), (.move (.tmp 7)), none⟩, ⟨(some 27), (.indexAddr 22 (.tmp 25) (.tmp 26)), none⟩, ⟨(some 28), (.load 3 (.tmp 27)), none⟩, ⟨(some 29), (.call ⟨.builtin .min, #[.tmp 28, .const (.int .i64 1000000000)], #[3, 3]⟩), none⟩, ⟨(some 8), (.assign (.tmp 24)), none⟩, ⟨(some 9), (.assign (.tmp 29)), none⟩]
instance : Live r_ref04turns_5 := ⟨[0, 1, 5, 6, 7]⟩
def r_ref04turns_6 : List SOp :=
  [⟨(some 30), (.move (.tmp 8)), none⟩, ⟨(some 31), (.move (.tmp 9)), none⟩, ⟨(some 32), (.binOp .leq 3 (.tmp 30) (.tmp 31) 3), none⟩]
instance : Live r_ref04turns_6 := ⟨[0, 1, 5, 6, 7, 8, 9]⟩
def r_ref04turns_7 : List SOp :=
  [⟨(some 33), (.move (.tmp 5)), none⟩, ⟨(some 34), (.move (.tmp 8)), none⟩, ⟨(some 35), (.buildSlice 22 1 #[(0, .tmp 34)]), none⟩, ⟨(some 36), (.call ⟨.builtin .append, #[.tmp 33, .tmp 35], #[22, 22]⟩), none⟩, ⟨(some 5), (.assign (.tmp 36)), none⟩]
instance : Live r_ref04turns_7 := ⟨[0, 1, 5, 6, 7, 8, 9]⟩
def r_ref04turns_8 : List SOp :=
  [⟨(some 37), (.move (.tmp 6)), none⟩, ⟨(some 38), (.move (.tmp 9)), none⟩, ⟨(some 39), (.binOp .add 3 (.tmp 38) (.const (.int .i64 1)) 3), none⟩, ⟨(some 40), (.buildSlice 22 1 #[(0, .tmp 39)]), none⟩, ⟨(some 41), (.call ⟨.builtin .append, #[.tmp 37, .tmp 40], #[22, 22]⟩), none⟩, ⟨(some 6), (.assign (.tmp 41)), none⟩]
instance : Live r_ref04turns_8 := ⟨[0, 1, 5, 6, 7, 9]⟩
def r_ref04turns_9 : List SOp :=
  [⟨(some 18), (.move (.tmp 7)), none⟩, ⟨(some 19), (.binOp .add 3 (.tmp 18) (.const (.int .i64 1)) 3), none⟩, ⟨(some 7), (.assign (.tmp 19)), none⟩]
instance : Live r_ref04turns_9 := ⟨[0, 1, 5, 6, 7]⟩
def r_ref04turns_10 : List SOp :=
  [⟨(some 42), (.move (.tmp 5)), none⟩, ⟨(some 43), (.call ⟨.value (.func 108), #[.tmp 42], #[22]⟩), none⟩, ⟨(some 5), (.assign (.tmp 43)), none⟩]
instance : Live r_ref04turns_10 := ⟨[5, 6]⟩
def r_ref04turns_11 : List SOp :=
  [⟨(some 44), (.move (.tmp 6)), none⟩, ⟨(some 45), (.call ⟨.value (.func 108), #[.tmp 44], #[22]⟩), none⟩, ⟨(some 6), (.assign (.tmp 45)), none⟩]
instance : Live r_ref04turns_11 := ⟨[5, 6]⟩
def r_ref04turns_12 : List SOp :=
  [⟨(some 10), (.assign (.const (.slice none 0 0))), none⟩]
instance : Live r_ref04turns_12 := ⟨[5, 6]⟩
def r_ref04turns_13 : List SOp :=
  [⟨(some 11), (.assign (.const (.int .i64 0))), none⟩, ⟨(some 12), (.assign (.const (.int .i64 0))), none⟩]
instance : Live r_ref04turns_13 := ⟨[5, 6, 10]⟩
def r_ref04turns_14 : List SOp :=
  [⟨(some 13), (.assign (.const (.int .i64 0))), none⟩]
instance : Live r_ref04turns_14 := ⟨[5, 6, 10, 11, 12]⟩
def r_ref04turns_15 : List SOp :=
  [⟨(some 46), (.move (.tmp 13)), none⟩, ⟨(some 47), (.move (.tmp 5)), none⟩, ⟨(some 48), (.call ⟨.builtin .len, #[.tmp 47], #[22]⟩), none⟩, ⟨(some 49), (.binOp .lss 3 (.tmp 46) (.tmp 48) 3), none⟩, ⟨(some 50), (.move (.tmp 49)), none⟩, ⟨(some 51), (.move (.tmp 12)), (some ((some 50), false))⟩, ⟨(some 52), (.move (.tmp 6)), (some ((some 50), false))⟩, ⟨(some 53), (.call ⟨.builtin .len, #[.tmp 52], #[22]⟩), (some ((some 50), false))⟩, ⟨(some 54), (.binOp .lss 3 (.tmp 51) (.tmp 53) 3), (some ((some 50), false))⟩, ⟨(some 55), (.pick (.tmp 50) (.const (.bool true)) (.tmp 54)), none⟩]
instance : Live r_ref04turns_15 := ⟨[5, 6, 10, 11, 12, 13]⟩
def r_ref04turns_16 : List SOp :=
  [⟨(some 56), (.move (.tmp 13)), none⟩, ⟨(some 57), (.move (.tmp 5)), none⟩, ⟨(some 58), (.call ⟨.builtin .len, #[.tmp 57], #[22]⟩), none⟩, ⟨(some 59), (.binOp .lss 3 (.tmp 56) (.tmp 58) 3), none⟩, ⟨(some 60), (.move (.tmp 59)), none⟩, ⟨(some 61), (.move (.tmp 5)), (some ((some 60), true))⟩, ⟨(some 62), (.move (.tmp 13)), (some ((some 60), true))⟩, ⟨(some 63), (.indexAddr 22 (.tmp 61) (.tmp 62)), (some ((some 60), true))⟩, ⟨(some 64), (.load 3 (.tmp 63)), (some ((some 60), true))⟩, ⟨(some 65), (.move (.tmp 6)), (some ((some 60), true))⟩, ⟨(some 66), (.move (.tmp 12)), (some ((some 60), true))⟩, ⟨(some 67), (.indexAddr 22 (.tmp 65) (.tmp 66)), (some ((some 60), true))⟩, ⟨(some 68), (.load 3 (.tmp 67)), (some ((some 60), true))⟩, ⟨(some 69), (.binOp .leq 3 (.tmp 64) (.tmp 68) 3), (some ((some 60), true))⟩, ⟨(some 70), (.pick (.tmp 60) (.tmp 69) (.const (.bool false))), none⟩]
instance : Live r_ref04turns_16 := ⟨[5, 6, 10, 11, 12, 13]⟩
def r_ref04turns_17 : List SOp :=
  [⟨(some 71), (.move (.tmp 11)), none⟩, ⟨(some 72), (.binOp .eql 3 (.tmp 71) (.const (.int .i64 0)) 3), none⟩]
instance : Live r_ref04turns_17 := ⟨[5, 6, 10, 11, 12, 13]⟩
def r_ref04turns_18 : List SOp :=
  [⟨(some 73), (.move (.tmp 10)), none⟩, ⟨(some 74), (.move (.tmp 5)), none⟩, ⟨(some 75), (.move (.tmp 13)), none⟩, ⟨(some 76), (.indexAddr 22 (.tmp 74) (.tmp 75)), none⟩, ⟨(some 77), (.load 3 (.tmp 76)), none⟩, ⟨(some 78), (.buildSlice 22 1 #[(0, .tmp 77)]), none⟩, ⟨(some 79), (.call ⟨.builtin .append, #[.tmp 73, .tmp 78], #[22, 22]⟩), none⟩, ⟨(some 10), (.assign (.tmp 79)), none⟩]
instance : Live r_ref04turns_18 := ⟨[5, 6, 10, 11, 12, 13]⟩
def r_ref04turns_19 : List SOp :=
  [⟨(some 80), (.move (.tmp 11)), none⟩, ⟨(some 81), (.binOp .add 3 (.tmp 80) (.const (.int .i64 1)) 3), none⟩, ⟨(some 11), (.assign (.tmp 81)), none⟩]
instance : Live r_ref04turns_19 := ⟨[5, 6, 10, 11, 12, 13]⟩
def r_ref04turns_20 : List SOp :=
  [⟨(some 82), (.move (.tmp 13)), none⟩, ⟨(some 83), (.binOp .add 3 (.tmp 82) (.const (.int .i64 1)) 3), none⟩, ⟨(some 13), (.assign (.tmp 83)), none⟩]
instance : Live r_ref04turns_20 := ⟨[5, 6, 10, 11, 12, 13]⟩
def r_ref04turns_21 : List SOp :=
  [⟨(some 84), (.move (.tmp 11)), none⟩, ⟨(some 85), (.binOp .sub 3 (.tmp 84) (.const (.int .i64 1)) 3), none⟩, ⟨(some 11), (.assign (.tmp 85)), none⟩]
instance : Live r_ref04turns_21 := ⟨[5, 6, 10, 11, 12, 13]⟩
def r_ref04turns_22 : List SOp :=
  [⟨(some 86), (.move (.tmp 11)), none⟩, ⟨(some 87), (.binOp .eql 3 (.tmp 86) (.const (.int .i64 0)) 3), none⟩]
instance : Live r_ref04turns_22 := ⟨[5, 6, 10, 11, 12, 13]⟩
def r_ref04turns_23 : List SOp :=
  [⟨(some 88), (.move (.tmp 10)), none⟩, ⟨(some 89), (.move (.tmp 6)), none⟩, ⟨(some 90), (.move (.tmp 12)), none⟩, ⟨(some 91), (.indexAddr 22 (.tmp 89) (.tmp 90)), none⟩, ⟨(some 92), (.load 3 (.tmp 91)), none⟩, ⟨(some 93), (.buildSlice 22 1 #[(0, .tmp 92)]), none⟩, ⟨(some 94), (.call ⟨.builtin .append, #[.tmp 88, .tmp 93], #[22, 22]⟩), none⟩, ⟨(some 10), (.assign (.tmp 94)), none⟩]
instance : Live r_ref04turns_23 := ⟨[5, 6, 10, 11, 12, 13]⟩
def r_ref04turns_24 : List SOp :=
  [⟨(some 95), (.move (.tmp 12)), none⟩, ⟨(some 96), (.binOp .add 3 (.tmp 95) (.const (.int .i64 1)) 3), none⟩, ⟨(some 12), (.assign (.tmp 96)), none⟩]
instance : Live r_ref04turns_24 := ⟨[5, 6, 10, 11, 12, 13]⟩
def r_ref04turns_25 : List SOp :=
  [⟨(some 97), (.move (.tmp 10)), none⟩, ⟨(some 4), (.assign (.tmp 97)), none⟩]
instance : Live r_ref04turns_25 := ⟨[10]⟩
def t_ref04turns_l1 : SC :=
  (.seq (.seq (.ops false r_ref04turns_4) (.cond (.tmp 17) .skip (.exit 0))) (.seq (.block 1 (.seq (.ops true r_ref04turns_5) (.seq (.ops false r_ref04turns_6) (.cond (.tmp 32) (.seq (.ops false r_ref04turns_7) (.ops false r_ref04turns_8)) .skip)))) (.ops false r_ref04turns_9)))
def t_ref04turns_l2 : SC :=
  (.seq (.seq (.ops false r_ref04turns_15) (.cond (.tmp 55) .skip (.exit 2))) (.block 3 (.seq (.ops true r_ref04turns_16) (.cond (.tmp 70) (.seq (.seq (.ops false r_ref04turns_17) (.cond (.tmp 72) (.ops false r_ref04turns_18) .skip)) (.seq (.ops false r_ref04turns_19) (.ops false r_ref04turns_20))) (.seq (.ops false r_ref04turns_21) (.seq (.seq (.ops false r_ref04turns_22) (.cond (.tmp 87) (.ops false r_ref04turns_23) .skip)) (.ops false r_ref04turns_24)))))))
def t_ref04turns : SC :=
  (.seq (.ops false r_ref04turns_1) (.seq (.ops false r_ref04turns_2) (.seq (.seq (.ops false r_ref04turns_3) (.block 0 (.loop t_ref04turns_l1))) (.seq (.ops false r_ref04turns_10) (.seq (.ops false r_ref04turns_11) (.seq (.ops false r_ref04turns_12) (.seq (.ops false r_ref04turns_13) (.seq (.seq (.ops false r_ref04turns_14) (.block 2 (.loop t_ref04turns_l2))) (.seq (.ops false r_ref04turns_25) .ret)))))))))
theorem it_ref04turns : FnIs Try.prog 96 98 [.tmp 4] t_ref04turns := ⟨Try.f96, _, Try.func96, rfl, rfl, rfl, rfl, by kernel_rfl⟩
end Go.Proofs.Ytdmfjkhbodbgoaa.Avm

namespace Go.Proofs.Ytdmfjkhbodbgoaa.Avm
open Go.Proofs
def los (l : List Rn) : List Int := l.map fun r => r.1
def his (l : List Rn) : List Int := l.map fun r => r.2
def ups1 (l : List Rn) : List Int := l.map fun r => r.2 + 1
theorem los_at {l : List Rn} {i : Nat} {r : Rn} (h : l[i]? = some r) : (encIs (los l))[i]? = some (.int .i64 r.1) := by simp [encIs, los, h, encI]
theorem his_at {l : List Rn} {i : Nat} {r : Rn} (h : l[i]? = some r) : (encIs (his l))[i]? = some (.int .i64 r.2) := by simp [encIs, his, h, encI]
theorem clips_take {l : List Rn} {i : Nat} {r : Rn} (h : l[i]? = some r) : clips (l.take (i + 1)) = clips (l.take i) ++ clips [r] := by
  rw [List.take_add_one, h, clips_append]
  rfl
theorem clips_in1 {r : Rn} (h : max r.1 1 ≤ min r.2 1000000000) : clips [r] = [(max r.1 1, min r.2 1000000000)] := by rw [clips_cons, if_pos (show (clipR r).1 ≤ (clipR r).2 from h)]; rfl
theorem clips_out1 {r : Rn} (h : ¬ max r.1 1 ≤ min r.2 1000000000) : clips [r] = [] := by rw [clips_cons, if_neg (show ¬ (clipR r).1 ≤ (clipR r).2 from h)]; rfl
theorem ev_ref04turns (l : List Rn) (hl : l.length ≤ 900000000) : Ev (En Try.prog rfl).P 96 [.sl 1 (encIs (los l)), .sl 1 (encIs (his l))] (.ret (.sl 1 (encIs (turnsR l)))) := by
  refine Ev.of_body it_ref04turns (by simp) (Run.start ?_)
  unfold t_ref04turns
  have e0 : (encIs (los l)).length = l.length := by simp [encIs, los]
  have e1 : (encIs (his l)).length = l.length := by simp [encIs, his]
  (focus (have hF := @e0; (repeat' (first | (with_reducible refine Nx.of ?_) | ((with_reducible apply toV); refine stV (k := ?_)) | ((with_reducible apply toG); refine stG (k := ?_)) | ((with_reducible apply toG0); refine stG0 (k := ?_)) | ((with_reducible apply toC); refine stC (k := ?_)) | ((with_reducible apply toO); refine stO (k := ?_)) | ((with_reducible apply toX); refine stX (k := ?_)) | (with_reducible refine Ny.of ?_ ?_) | (refine Hyp.of ?_; intro hc; (try simp only [hc]); (try simp only [Bh] at hc)) | fail)); (all_goals clear hF)))
  refine Run.wk (Wk.trans (Wk.own_nil 5 36 1 rfl rfl) (Wk.own_nil 6 41 1 rfl rfl)) ?_
  refine Run.while (σ := Nat) (fun i => ⟨tms [(0, .sl 1 (encIs (los l))), (1, .sl 1 (encIs (his l))), (5, .os 36 (clips (l.take i)).length), (6, .os 41 (clips (l.take i)).length), (7, .int .i64 i)], mms [(36, .arr (clips (l.take i)).length 1 (encIs (los (clips (l.take i))))), (41, .arr (clips (l.take i)).length 1 (encIs (ups1 (clips (l.take i)))))]⟩)
    (fun i => i ≤ l.length) (fun i => l.length - i) 0 (have hW := True.intro; stWk) (Nat.zero_le _) ?_
  intro i hi
  have hcl := clips_len (l.take i)
  have hcl2 : (l.take i).length ≤ l.length := by rw [List.length_take]; omega
  have e2 : (encIs (los (clips (l.take i)))).length = (clips (l.take i)).length := by simp [encIs, los]
  have e3 : (encIs (ups1 (clips (l.take i)))).length = (clips (l.take i)).length := by simp [encIs, ups1]
  unfold t_ref04turns_l1
  by_cases hlt : i < l.length
  · obtain ⟨r, hr⟩ : ∃ r, l[i]? = some r := ⟨l[i], by simp [hlt]⟩
    have e4 := los_at hr
    have e5 := his_at hr
    (focus (have hF := (And.intro (And.intro @e0 (And.intro @e1 @e2)) (And.intro (And.intro @e3 @e4) (And.intro @e5 @encIs_snoc))); (repeat' (first | (with_reducible refine Nx.of ?_) | ((with_reducible apply toV); refine stV (k := ?_)) | ((with_reducible apply toG); refine stG (k := ?_)) | ((with_reducible apply toG0); refine stG0 (k := ?_)) | ((with_reducible apply toC); refine stC (k := ?_)) | ((with_reducible apply toO); refine stO (k := ?_)) | ((with_reducible apply toX); refine stX (k := ?_)) | (with_reducible refine Ny.of ?_ ?_) | (refine Hyp.of ?_; intro hc; (try simp only [hc]); (try simp only [Bh] at hc)) | fail)); (all_goals clear hF)))
    · have hk := (clips_take hr).trans (by rw [clips_in1 hc])
      (refine Fin.nextW (i + 1) ?_ (Wk.toL _ _ (by repeat (first | exact trivial | refine ⟨rfl, ?_⟩ | (refine ⟨by simp [↓upd_app, ↓tms_cons', ↓mms_cons', ↓NoM', hk, los, ups1], ?_⟩))) (by repeat (first | exact trivial | refine ⟨rfl, ?_⟩ | (refine ⟨by simp [↓upd_app, ↓tms_cons', ↓mms_cons', ↓NoM', hk, los, ups1], ?_⟩))) (by repeat (first | exact trivial | (refine ⟨?_, ?_⟩; focus (first | rfl | (apply no_of_stb; simp only [stbs, AVal.stb, encIs_stb, encRs_stb, encR_stb, encSs_stb, encP_stb, encPs_stb, encL_stb, hk, los, ups1, Bool.and_true, Bool.true_and, Bool.and_self]; done))))) (by repeat (first | exact trivial | (refine ⟨?_, ?_⟩; focus (first | rfl | (apply arr_no; simp only [stbs, AVal.stb, encIs_stb, encRs_stb, encR_stb, encSs_stb, encP_stb, encPs_stb, encL_stb, hk, los, ups1, Bool.and_true, Bool.true_and, Bool.and_self]; done) | exact encT_no _ _ | exact encLo_no _ _ | exact encHi_no _ _ | (apply cells_no; simp only [stbs, AVal.stb, encIs_stb, encRs_stb, encR_stb, encSs_stb, encP_stb, encPs_stb, encL_stb, hk, los, ups1, Bool.and_true, Bool.true_and, Bool.and_self]; done) | (apply cells_ok; simp only [cellsOk, cellOk, List.all_cons, List.all_nil, stbs, AVal.stb, encIs_stb, encRs_stb, encR_stb, encSs_stb, encP_stb, encPs_stb, encL_stb, hk, los, ups1, Bool.and_true, Bool.true_and, Bool.and_self]; done) | (simp [ABlk.no, AVal.noC, AVal.no, AVal.stb, stbs, encIs_stb, encRs_stb, encR_stb, encSs_stb, encP_stb, encPs_stb, encL_stb, hk, los, ups1]; done)))))); (try dsimp only))
      omega
    · have hk := (clips_take hr).trans (by rw [clips_out1 hc, List.append_nil])
      (refine Fin.nextW (i + 1) ?_ (have hW := @hk; stWk); (try dsimp only))
      omega
  · have hil : i = l.length := by omega
    subst hil
    rw [List.take_length] at *
    (focus (have hF := (And.intro (And.intro @e0 @e1) (And.intro @e2 @e3)); (repeat' (first | (with_reducible refine Nx.of ?_) | ((with_reducible apply toV); refine stV (k := ?_)) | ((with_reducible apply toG); refine stG (k := ?_)) | ((with_reducible apply toG0); refine stG0 (k := ?_)) | ((with_reducible apply toC); refine stC (k := ?_)) | ((with_reducible apply toO); refine stO (k := ?_)) | ((with_reducible apply toX); refine stX (k := ?_)) | (with_reducible refine Ny.of ?_ ?_) | (refine Hyp.of ?_; intro hc; (try simp only [hc]); (try simp only [Bh] at hc)) | fail)); (all_goals clear hF)))
    have hin := sortI_len (los (clips l))
    have hout := sortI_len (ups1 (clips l))
    have hs : Sweep (clips l) (sortI (los (clips l))) (sortI (ups1 (clips l))) := Sweep.of l
    have hl1 : (los (clips l)).length = (clips l).length := by simp [los]
    have hl2 : (ups1 (clips l)).length = (clips l).length := by simp [ups1]
    refine stGive (fun j => j == 36) [.sl 1 (encIs (los (clips l)))] (he := ev_ref04sorted _ (by omega)) (k := ?_)
    (focus (have hF := (And.intro (And.intro @e0 @e1) (And.intro @e2 @e3)); (repeat' (first | (with_reducible refine Nx.of ?_) | ((with_reducible apply toV); refine stV (k := ?_)) | ((with_reducible apply toG); refine stG (k := ?_)) | ((with_reducible apply toG0); refine stG0 (k := ?_)) | ((with_reducible apply toC); refine stC (k := ?_)) | ((with_reducible apply toO); refine stO (k := ?_)) | ((with_reducible apply toX); refine stX (k := ?_)) | (with_reducible refine Ny.of ?_ ?_) | (refine Hyp.of ?_; intro hc; (try simp only [hc]); (try simp only [Bh] at hc)) | fail)); (all_goals clear hF)))
    refine stGive (fun j => j == 41) [.sl 1 (encIs (ups1 (clips l)))] (he := ev_ref04sorted _ (by omega)) (k := ?_)
    (focus (have hF := (And.intro (And.intro @e0 @e1) (And.intro @e2 @e3)); (repeat' (first | (with_reducible refine Nx.of ?_) | ((with_reducible apply toV); refine stV (k := ?_)) | ((with_reducible apply toG); refine stG (k := ?_)) | ((with_reducible apply toG0); refine stG0 (k := ?_)) | ((with_reducible apply toC); refine stC (k := ?_)) | ((with_reducible apply toO); refine stO (k := ?_)) | ((with_reducible apply toX); refine stX (k := ?_)) | (with_reducible refine Ny.of ?_ ?_) | (refine Hyp.of ?_; intro hc; (try simp only [hc]); (try simp only [Bh] at hc)) | fail)); (all_goals clear hF)))
    generalize sortI (los (clips l)) = ins at *
    generalize sortI (ups1 (clips l)) = outs at *
    refine Run.wk (Wk.own_nil 10 79 1 rfl rfl) ?_
    refine Run.while (σ := Sw) (fun s => ⟨tms [(5, .sl 1 (encIs ins)), (6, .sl 1 (encIs outs)), (10, .os 79 s.t.length), (11, .int .i64 s.deep), (12, .int .i64 s.j), (13, .int .i64 s.i)], mms [(79, .arr s.t.length 1 (encIs s.t))]⟩)
      (fun s => SwI ins outs s ∧ s.j ≤ outs.length ∧ s.t.length ≤ s.i + s.j) (fun s => (ins.length - s.i) + (outs.length - s.j)) ⟨[], 0, 0, 0⟩ (have hW := True.intro; stWk) ⟨SwI.start, Nat.zero_le _, Nat.zero_le _⟩ ?_
    rintro ⟨t, deep, i, j⟩ ⟨hI, hj, ht⟩
    have hd := hI.d
    have hij := hI.ij
    have hii := hI.i
    have e4 := encIs_len ins
    have e5 := encIs_len outs
    have e6 := encIs_len t
    dsimp only at hd hij hii hj ht ⊢
    have hlen := hs.len
    have stepIn := fun h => hI.stepIn hs.len (Srt.of hs.si) (Srt.of hs.so) hs.lt h
    have stepOut := fun h h' => hI.stepOut hs.len (Srt.of hs.si) (Srt.of hs.so) hs.lt h h'
    unfold swIn at stepIn
    unfold swOut at stepOut
    unfold takesIn at stepIn stepOut
    dsimp only at stepIn stepOut
    unfold t_ref04turns_l2
    (focus (have hF := (And.intro (And.intro @e4 @e5) (And.intro @e6 (And.intro @encIs_at @encIs_snoc))); (repeat' (first | (with_reducible refine Nx.of ?_) | ((with_reducible apply toV); refine stV (k := ?_)) | ((with_reducible apply toG); refine stG (k := ?_)) | ((with_reducible apply toG0); refine stG0 (k := ?_)) | ((with_reducible apply toC); refine stC (k := ?_)) | ((with_reducible apply toO); refine stO (k := ?_)) | ((with_reducible apply toX); refine stX (k := ?_)) | (with_reducible refine Ny.of ?_ ?_) | (refine Hyp.of ?_; intro hc; (try simp only [hc]); (try simp only [Bh] at hc)) | fail)); (all_goals clear hF)))
    · have q := stepIn ⟨by omega, by assumption⟩
      rw [if_pos hc] at q
      (refine Fin.nextW (⟨t ++ [ins.getD i 0], deep + 1, i + 1, j⟩) ?_ (have hW := True.intro; stWk); (try dsimp only))
      exact ⟨⟨q, hj, (by first | omega | (simp only [List.length_append, List.length_cons, List.length_nil]; omega))⟩, (by first | omega | (simp only [List.length_append, List.length_cons, List.length_nil]; omega))⟩
    · have q := stepIn ⟨by omega, by assumption⟩
      rw [if_neg hc] at q
      (refine Fin.nextW (⟨t, deep + 1, i + 1, j⟩) ?_ (have hW := True.intro; stWk); (try dsimp only))
      exact ⟨⟨q, hj, (by first | omega | (simp only [List.length_append, List.length_cons, List.length_nil]; omega))⟩, (by first | omega | (simp only [List.length_append, List.length_cons, List.length_nil]; omega))⟩
    · have q := (stepOut (by omega) (by omega)).1
      rw [if_pos hc] at q
      (refine Fin.nextW (⟨t ++ [outs.getD j 0], deep - 1, i, j + 1⟩) ?_ (have hW := True.intro; stWk); (try dsimp only))
      exact ⟨⟨q, (by first | omega | (simp only [List.length_append, List.length_cons, List.length_nil]; omega)), (by first | omega | (simp only [List.length_append, List.length_cons, List.length_nil]; omega))⟩, (by first | omega | (simp only [List.length_append, List.length_cons, List.length_nil]; omega))⟩
    · have q := (stepOut (by omega) (by omega)).1
      rw [if_neg hc] at q
      (refine Fin.nextW (⟨t, deep - 1, i, j + 1⟩) ?_ (have hW := True.intro; stWk); (try dsimp only))
      exact ⟨⟨q, (by first | omega | (simp only [List.length_append, List.length_cons, List.length_nil]; omega)), (by first | omega | (simp only [List.length_append, List.length_cons, List.length_nil]; omega))⟩, (by first | omega | (simp only [List.length_append, List.length_cons, List.length_nil]; omega))⟩
    · have q := (stepOut (by omega) (by omega)).1
      rw [if_pos hc] at q
      (refine Fin.nextW (⟨t ++ [outs.getD j 0], deep - 1, i, j + 1⟩) ?_ (have hW := True.intro; stWk); (try dsimp only))
      exact ⟨⟨q, (by first | omega | (simp only [List.length_append, List.length_cons, List.length_nil]; omega)), (by first | omega | (simp only [List.length_append, List.length_cons, List.length_nil]; omega))⟩, (by first | omega | (simp only [List.length_append, List.length_cons, List.length_nil]; omega))⟩
    · have q := (stepOut (by omega) (by omega)).1
      rw [if_neg hc] at q
      (refine Fin.nextW (⟨t, deep - 1, i, j + 1⟩) ?_ (have hW := True.intro; stWk); (try dsimp only))
      exact ⟨⟨q, (by first | omega | (simp only [List.length_append, List.length_cons, List.length_nil]; omega)), (by first | omega | (simp only [List.length_append, List.length_cons, List.length_nil]; omega))⟩, (by first | omega | (simp only [List.length_append, List.length_cons, List.length_nil]; omega))⟩
    · have hq := hs.turns hI (show i = ins.length by omega) (show j = ins.length by omega)
      have hqt : t = turnsR l := turnsR_eq hq.1
      rw [← hqt]
      exact stRet (.sl 1 (encIs t))
end Go.Proofs.Ytdmfjkhbodbgoaa.Avm

namespace Go.Proofs.Ytdmfjkhbodbgoaa.Avm
open Go.Proofs
def r_ref04combine_1 : List SOp :=
  [⟨(some 6), (.assign (.const (.slice none 0 0))), none⟩]
instance : Live r_ref04combine_1 := ⟨[0, 1, 2]⟩
def r_ref04combine_2 : List SOp :=
  [⟨(some 7), (.assign (.const (.slice none 0 0))), none⟩]
instance : Live r_ref04combine_2 := ⟨[0, 1, 2]⟩
def r_ref04combine_3 : List SOp :=
  [⟨(some 8), (.assign (.const (.int .i64 0))), none⟩, ⟨(some 9), (.assign (.const (.int .i64 0))), none⟩]
instance : Live r_ref04combine_3 := ⟨[0, 1, 2, 7]⟩
def r_ref04combine_4 : List SOp :=
  [⟨(some 10), (.assign (.const (.bool false))), none⟩]
instance : Live r_ref04combine_4 := ⟨[0, 1, 2, 7, 8, 9]⟩
def r_ref04combine_5 : List SOp :=
  [⟨(some 15), (.move (.tmp 8)), none⟩, ⟨(some 16), (.move (.tmp 0)), none⟩, ⟨(some 17), (.call ⟨.builtin .len, #[.tmp 16], #[22]⟩), none⟩, ⟨(some 18), (.binOp .lss 3 (.tmp 15) (.tmp 17) 3), none⟩, ⟨(some 19), (.move (.tmp 18)), none⟩, ⟨(some 20), (.move (.tmp 9)), (some ((some 19), false))⟩, ⟨(some 21), (.move (.tmp 1)), (some ((some 19), false))⟩, ⟨(some 22), (.call ⟨.builtin .len, #[.tmp 21], #[22]⟩), (some ((some 19), false))⟩, ⟨(some 23), (.binOp .lss 3 (.tmp 20) (.tmp 22) 3), (some ((some 19), false))⟩, ⟨(some 24), (.pick (.tmp 19) (.const (.bool true)) (.tmp 23)), none⟩]
instance : Live r_ref04combine_5 := ⟨[0, 1, 2, 7, 8, 9, 10]⟩
def r_ref04combine_6 : List SOp :=
  [⟨(some 11), (.assign (.const (.int .i64 0))), none⟩]
instance : Live r_ref04combine_6 := ⟨[0, 1, 2, 7, 8, 9, 10]⟩
def r_ref04combine_7 : List SOp :=
  [⟨(some 25), (.move (.tmp 9)), none⟩, ⟨(some 26), (.move (.tmp 1)), none⟩, ⟨(some 27), (.call ⟨.builtin .len, #[.tmp 26], #[22]⟩), none⟩, ⟨(some 28), (.binOp .eql 3 (.tmp 25) (.tmp 27) 3), none⟩, ⟨(some 29), (.move (.tmp 28)), none⟩, ⟨(some 30), (.move (.tmp 8)), (some ((some 29), false))⟩, ⟨(some 31), (.move (.tmp 0)), (some ((some 29), false))⟩, ⟨(some 32), (.call ⟨.builtin .len, #[.tmp 31], #[22]⟩), (some ((some 29), false))⟩, ⟨(some 33), (.binOp .lss 3 (.tmp 30) (.tmp 32) 3), (some ((some 29), false))⟩, ⟨(some 34), (.move (.tmp 33)), (some ((some 29), false))⟩, ⟨(some 35), (.move (.tmp 0)), (some ((some 34), true))⟩, ⟨(some 36), (.move (.tmp 8)), (some ((some 34), true))⟩, ⟨(some 37), (.indexAddr 22 (.tmp 35) (.tmp 36)), (some ((some 34), true))⟩, ⟨(some 38), (.load 3 (.tmp 37)), (some ((some 34), true))⟩, ⟨(some 39), (.move (.tmp 1)), (some ((some 34), true))⟩, ⟨(some 40), (.move (.tmp 9)), (some ((some 34), true))⟩, ⟨(some 41), (.indexAddr 22 (.tmp 39) (.tmp 40)), (some ((some 34), true))⟩, ⟨(some 42), (.load 3 (.tmp 41)), (some ((some 34), true))⟩, ⟨(some 43), (.binOp .lss 3 (.tmp 38) (.tmp 42) 3), (some ((some 34), true))⟩, ⟨(some 44), (.pick (.tmp 34) (.tmp 43) (.const (.bool false))), (some ((some 29), false))⟩, ⟨(some 45), (.pick (.tmp 29) (.const (.bool true)) (.tmp 44)), none⟩]
instance : Live r_ref04combine_7 := ⟨[0, 1, 2, 7, 8, 9, 10]⟩
def r_ref04combine_8 : List SOp :=
  [⟨(some 46), (.move (.tmp 0)), none⟩, ⟨(some 47), (.move (.tmp 8)), none⟩, ⟨(some 48), (.indexAddr 22 (.tmp 46) (.tmp 47)), none⟩, ⟨(some 49), (.load 3 (.tmp 48)), none⟩, ⟨(some 11), (.assign (.tmp 49)), none⟩]
instance : Live r_ref04combine_8 := ⟨[0, 1, 2, 7, 8, 9, 10]⟩
def r_ref04combine_9 : List SOp :=
  [⟨(some 50), (.move (.tmp 1)), none⟩, ⟨(some 51), (.move (.tmp 9)), none⟩, ⟨(some 52), (.indexAddr 22 (.tmp 50) (.tmp 51)), none⟩, ⟨(some 53), (.load 3 (.tmp 52)), none⟩, ⟨(some 11), (.assign (.tmp 53)), none⟩]
instance : Live r_ref04combine_9 := ⟨[0, 1, 2, 7, 8, 9, 10]⟩
def r_ref04combine_10 : List SOp :=
  [⟨(some 54), (.move (.tmp 8)), none⟩, ⟨(some 55), (.move (.tmp 0)), none⟩, ⟨(some 56), (.call ⟨.builtin .len, #[.tmp 55], #[22]⟩), none⟩, ⟨(some 57), (.binOp .lss 3 (.tmp 54) (.tmp 56) 3), none⟩, ⟨(some 58), (.move (.tmp 57)), none⟩, ⟨(some 59), (.move (.tmp 0)), (some ((some 58), true))⟩, ⟨(some 60), (.move (.tmp 8)), (some ((some 58), true))⟩, ⟨(some 61), (.indexAddr 22 (.tmp 59) (.tmp 60)), (some ((some 58), true))⟩, ⟨(some 62), (.load 3 (.tmp 61)), (some ((some 58), true))⟩, ⟨(some 63), (.move (.tmp 11)), (some ((some 58), true))⟩, ⟨(some 64), (.binOp .eql 3 (.tmp 62) (.tmp 63) 3), (some ((some 58), true))⟩, ⟨(some 65), (.pick (.tmp 58) (.tmp 64) (.const (.bool false))), none⟩]
instance : Live r_ref04combine_10 := ⟨[0, 1, 2, 7, 8, 9, 10, 11]⟩
def r_ref04combine_11 : List SOp :=
  [⟨(some 66), (.move (.tmp 8)), none⟩, ⟨(some 67), (.binOp .add 3 (.tmp 66) (.const (.int .i64 1)) 3), none⟩, ⟨(some 8), (.assign (.tmp 67)), none⟩]
instance : Live r_ref04combine_11 := ⟨[0, 1, 2, 7, 8, 9, 10, 11]⟩
def r_ref04combine_12 : List SOp :=
  [⟨(some 68), (.move (.tmp 9)), none⟩, ⟨(some 69), (.move (.tmp 1)), none⟩, ⟨(some 70), (.call ⟨.builtin .len, #[.tmp 69], #[22]⟩), none⟩, ⟨(some 71), (.binOp .lss 3 (.tmp 68) (.tmp 70) 3), none⟩, ⟨(some 72), (.move (.tmp 71)), none⟩, ⟨(some 73), (.move (.tmp 1)), (some ((some 72), true))⟩, ⟨(some 74), (.move (.tmp 9)), (some ((some 72), true))⟩, ⟨(some 75), (.indexAddr 22 (.tmp 73) (.tmp 74)), (some ((some 72), true))⟩, ⟨(some 76), (.load 3 (.tmp 75)), (some ((some 72), true))⟩, ⟨(some 77), (.move (.tmp 11)), (some ((some 72), true))⟩, ⟨(some 78), (.binOp .eql 3 (.tmp 76) (.tmp 77) 3), (some ((some 72), true))⟩, ⟨(some 79), (.pick (.tmp 72) (.tmp 78) (.const (.bool false))), none⟩]
instance : Live r_ref04combine_12 := ⟨[0, 1, 2, 7, 8, 9, 10, 11]⟩
def r_ref04combine_13 : List SOp :=
  [⟨(some 80), (.move (.tmp 9)), none⟩, ⟨(some 81), (.binOp .add 3 (.tmp 80) (.const (.int .i64 1)) 3), none⟩, ⟨(some 9), (.assign (.tmp 81)), none⟩]
instance : Live r_ref04combine_13 := ⟨[0, 1, 2, 7, 8, 9, 10, 11]⟩
def r_ref04combine_14 : List SOp :=
  [⟨(some 82), (.move (.tmp 8)), none⟩, ⟨(some 83), (.binOp .rem 3 (.tmp 82) (.const (.int .i64 2)) 3), none⟩, ⟨(some 84), (.binOp .eql 3 (.tmp 83) (.const (.int .i64 1)) 3), none⟩, ⟨(some 85), (.move (.tmp 9)), none⟩, ⟨(some 86), (.binOp .rem 3 (.tmp 85) (.const (.int .i64 2)) 3), none⟩, ⟨(some 87), (.binOp .eql 3 (.tmp 86) (.const (.int .i64 1)) 3), none⟩, ⟨(some 12), (.assign (.tmp 84)), none⟩, ⟨(some 13), (.assign (.tmp 87)), none⟩]
instance : Live r_ref04combine_14 := ⟨[0, 1, 2, 7, 8, 9, 10, 11]⟩
def r_ref04combine_15 : List SOp :=
  [⟨(some 88), (.move (.tmp 2)), none⟩, ⟨(some 89), (.binOp .eql 3 (.tmp 88) (.const (.int .i64 1)) 3), none⟩, ⟨(some 90), (.move (.tmp 89)), none⟩, ⟨(some 91), (.move (.tmp 12)), (some ((some 90), true))⟩, ⟨(some 92), (.pick (.tmp 90) (.tmp 91) (.const (.bool false))), none⟩, ⟨(some 93), (.move (.tmp 92)), none⟩, ⟨(some 94), (.move (.tmp 13)), (some ((some 93), true))⟩, ⟨(some 95), (.pick (.tmp 93) (.tmp 94) (.const (.bool false))), none⟩, ⟨(some 96), (.move (.tmp 95)), none⟩, ⟨(some 97), (.move (.tmp 2)), (some ((some 96), false))⟩, ⟨(some 98), (.binOp .eql 3 (.tmp 97) (.const (.int .i64 2)) 3), (some ((some 96), false))⟩, ⟨(some 99), (.move (.tmp 98)), (some ((some 96), false))⟩, ⟨(some 100), (.move (.tmp 12)), (some ((some 99), true))⟩, ⟨(some 101), (.pick (.tmp 99) (.tmp 100) (.const (.bool false))), (some ((some 96), false))⟩, ⟨(some 102), (.move (.tmp 101)), (some ((some 96), false))⟩, ⟨(some 103), (.move (.tmp 13)), (some ((some 102), true))⟩, ⟨(some 104), (.unOp .not 4 (.tmp 103)), (some ((some 102), true))⟩, ⟨(some 105), (.pick (.tmp 102) (.tmp 104) (.const (.bool false))), (some ((some 96), false))⟩, ⟨(some 106), (.pick (.tmp 96) (.const (.bool true)) (.tmp 105)), none⟩, ⟨(some 14), (.assign (.tmp 106)), none⟩]
instance : Live r_ref04combine_15 := ⟨[0, 1, 2, 7, 8, 9, 10, 11, 12, 13]⟩
def r_ref04combine_16 : List SOp :=
  [⟨(some 107), (.move (.tmp 14)), none⟩, ⟨(some 108), (.move (.tmp 10)), none⟩, ⟨(some 109), (.binOp .neq 4 (.tmp 107) (.tmp 108) 4), none⟩]
instance : Live r_ref04combine_16 := ⟨[0, 1, 2, 7, 8, 9, 10, 11, 14]⟩
def r_ref04combine_17 : List SOp :=
  [⟨(some 110), (.move (.tmp 7)), none⟩, ⟨(some 111), (.move (.tmp 11)), none⟩, ⟨(some 112), (.buildSlice 22 1 #[(0, .tmp 111)]), none⟩, ⟨(some 113), (.call ⟨.builtin .append, #[.tmp 110, .tmp 112], #[22, 22]⟩), none⟩, ⟨(some 7), (.assign (.tmp 113)), none⟩]
instance : Live r_ref04combine_17 := ⟨[0, 1, 2, 7, 8, 9, 11, 14]⟩
def r_ref04combine_18 : List SOp :=
  [⟨(some 114), (.move (.tmp 14)), none⟩, ⟨(some 10), (.assign (.tmp 114)), none⟩]
instance : Live r_ref04combine_18 := ⟨[0, 1, 2, 7, 8, 9, 14]⟩
def r_ref04combine_19 : List SOp :=
  [⟨(some 115), (.move (.tmp 7)), none⟩, ⟨(some 6), (.assign (.tmp 115)), none⟩]
instance : Live r_ref04combine_19 := ⟨[7]⟩
def t_ref04combine_l1 : SC :=
  (.seq (.seq (.ops false r_ref04combine_5) (.cond (.tmp 24) .skip (.exit 0))) (.block 1 (.seq (.ops false r_ref04combine_6) (.seq (.seq (.ops true r_ref04combine_7) (.cond (.tmp 45) (.ops false r_ref04combine_8) (.ops false r_ref04combine_9))) (.seq (.seq (.ops false r_ref04combine_10) (.cond (.tmp 65) (.ops false r_ref04combine_11) .skip)) (.seq (.seq (.ops false r_ref04combine_12) (.cond (.tmp 79) (.ops false r_ref04combine_13) .skip)) (.seq (.ops false r_ref04combine_14) (.seq (.ops false r_ref04combine_15) (.seq (.ops false r_ref04combine_16) (.cond (.tmp 109) (.seq (.ops false r_ref04combine_17) (.ops false r_ref04combine_18)) .skip))))))))))
def t_ref04combine : SC :=
  (.seq (.ops false r_ref04combine_1) (.seq (.ops false r_ref04combine_2) (.seq (.ops false r_ref04combine_3) (.seq (.ops false r_ref04combine_4) (.seq (.block 0 (.loop t_ref04combine_l1)) (.seq (.ops false r_ref04combine_19) .ret))))))
theorem it_ref04combine : FnIs Try.prog 97 116 [.tmp 6] t_ref04combine := ⟨Try.f97, _, Try.func97, rfl, rfl, rfl, rfl, by kernel_rfl⟩
end Go.Proofs.Ytdmfjkhbodbgoaa.Avm

namespace Go.Proofs.Ytdmfjkhbodbgoaa.Avm
open Go.Proofs
def p1_ref04combine_l1 : SC := (.seq (.seq (.ops false r_ref04combine_12) (.cond (.tmp 79) (.ops false r_ref04combine_13) .skip)) (.seq (.ops false r_ref04combine_14) (.seq (.ops false r_ref04combine_15) (.seq (.ops false r_ref04combine_16) (.cond (.tmp 109) (.seq (.ops false r_ref04combine_17) (.ops false r_ref04combine_18)) .skip)))))
def p2_ref04combine_l1 : SC := (.seq (.seq (.ops false r_ref04combine_10) (.cond (.tmp 65) (.ops false r_ref04combine_11) .skip)) p1_ref04combine_l1)
def p3_ref04combine_l1 : SC := (.seq (.seq (.ops true r_ref04combine_7) (.cond (.tmp 45) (.ops false r_ref04combine_8) (.ops false r_ref04combine_9))) p2_ref04combine_l1)
def c_ref04combine_l1 : SC := (.seq (.seq (.ops false r_ref04combine_5) (.cond (.tmp 24) .skip (.exit 0))) (.block 1 (.seq (.ops false r_ref04combine_6) p3_ref04combine_l1)))
theorem cut_ref04combine_l1 : t_ref04combine_l1 = c_ref04combine_l1 := rfl
def c_ref04combine : SC := (.seq (.ops false r_ref04combine_1) (.seq (.ops false r_ref04combine_2) (.seq (.ops false r_ref04combine_3) (.seq (.ops false r_ref04combine_4) (.seq (.block 0 (.loop t_ref04combine_l1)) (.seq (.ops false r_ref04combine_19) .ret))))))
theorem cut_ref04combine : t_ref04combine = c_ref04combine := rfl
end Go.Proofs.Ytdmfjkhbodbgoaa.Avm

namespace Go.Proofs.Ytdmfjkhbodbgoaa.Avm
open Go.Proofs
structure CbS where
  i : Nat
  j : Nat
  v : Bool
  t : List Int
theorem tmod_two (i : Nat) : ((i : Int)).tmod 2 = ((i % 2 : Nat) : Int) := by rw [Int.ofNat_tmod]; rfl
theorem odd_dec (i : Nat) : decide (((i % 2 : Nat) : Int) = 1) = odd i := by
  unfold odd
  rw [decide_eq_decide]
  omega
theorem getD_at {l : List Int} {i : Nat} (h : i < l.length) : l[i]? = some (l.getD i 0) := by simp [h]
theorem drop_above {l : List Int} (hr : l.Pairwise (fun x y => x < y)) {i : Nat} {x : Int} (h : i < l.length → x < l.getD i 0) : ∀ y ∈ l.drop i, x < y := by
  intro y hy
  rcases Nat.lt_or_ge i l.length with hi | hi
  · rw [List.drop_eq_getElem_cons hi] at hy
    have hp := hr.drop (i := i)
    rw [List.drop_eq_getElem_cons hi] at hp
    have e : l.getD i 0 = l[i] := by simp [hi]
    have h1 := h hi
    rw [e] at h1
    rcases List.mem_cons.1 hy with rfl | hy
    · exact h1
    · have := (List.pairwise_cons.1 hp).1 y hy
      omega
  · rw [List.drop_eq_nil_of_le hi] at hy
    cases hy
theorem ev_ref04combine {a b t : List Int} {p q r : Int → Prop} (ha : Turns p a) (hb : Turns q b) (ht : Turns r t) (hla : a.length ≤ 400000000) (hlb : b.length ≤ 400000000) (rule : Int) (f : Bool → Bool → Bool)
    (hrf : (rule = 1 ∧ f = fun x y => x && y) ∨ (rule = 2 ∧ f = fun x y => x && !y)) (hr : ∀ m, r m ↔ f (odd (cnt a m)) (odd (cnt b m)) = true) :
    Ev (En Try.prog rfl).P 97 [.sl 1 (encIs a), .sl 1 (encIs b), .int .i64 rule] (.ret (.sl 1 (encIs t))) := by
  refine Ev.of_body it_ref04combine (by simp) (Run.start ?_)
  unfold t_ref04combine
  have e1 := encIs_len a
  have e2 := encIs_len b
  have hf : f false false = false := by rcases hrf with ⟨_, rfl⟩ | ⟨_, rfl⟩ <;> rfl
  (focus (have hF := (And.intro @e1 @e2); (repeat' (first | (with_reducible refine Nx.of ?_) | ((with_reducible apply toV); refine stV (k := ?_)) | ((with_reducible apply toG); refine stG (k := ?_)) | ((with_reducible apply toG0); refine stG0 (k := ?_)) | ((with_reducible apply toC); refine stC (k := ?_)) | ((with_reducible apply toO); refine stO (k := ?_)) | ((with_reducible apply toX); refine stX (k := ?_)) | (with_reducible refine Ny.of ?_ ?_) | (refine Hyp.of ?_; intro hc; (try simp only [hc]); (try simp only [Bh] at hc)) | fail)); (all_goals clear hF)))
  refine Run.wk (Wk.own_nil 7 113 1 rfl rfl) ?_
  refine Run.while (σ := CbS) (fun z => ⟨tms [(0, .sl 1 (encIs a)), (1, .sl 1 (encIs b)), (2, .int .i64 rule), (7, .os 113 z.t.length), (8, .int .i64 (z.i : Int)), (9, .int .i64 (z.j : Int)), (10, .bool z.v)], mms [(113, .arr z.t.length 1 (encIs z.t))]⟩)
    (fun z => CbI a b f z.i z.j z.v z.t) (fun z => (a.length - z.i) + (b.length - z.j)) ⟨0, 0, false, []⟩ (have hW := @encIs_stb; stWk) (CbI.start hf) ?_
  rintro ⟨i, j, v, u⟩ h
  dsimp only at h ⊢
  have hi := h.hi
  have hj := h.hj
  have hle := h.le
  have e3 := encIs_len u
  rw [cut_ref04combine_l1]
  unfold c_ref04combine_l1
  refine Run.mid (σ := Unit) (fun _ => ⟨tms [(0, .sl 1 (encIs a)), (1, .sl 1 (encIs b)), (2, .int .i64 rule), (7, .os 113 u.length), (8, .int .i64 (i : Int)), (9, .int .i64 (j : Int)), (10, .bool v)], mms [(113, .arr u.length 1 (encIs u))]⟩) (fun _ => i < a.length ∨ j < b.length) ?_ ?_
  · (focus (have hF := (And.intro @e1 (And.intro @e2 @e3)); (repeat' (first | (with_reducible refine Nx.of ?_) | ((with_reducible apply toV); refine stV (k := ?_)) | ((with_reducible apply toG); refine stG (k := ?_)) | ((with_reducible apply toG0); refine stG0 (k := ?_)) | ((with_reducible apply toC); refine stC (k := ?_)) | ((with_reducible apply toO); refine stO (k := ?_)) | ((with_reducible apply toX); refine stX (k := ?_)) | (with_reducible refine Ny.of ?_ ?_) | (refine Hyp.of ?_; intro hc; (try simp only [hc]); (try simp only [Bh] at hc)) | fail)); (all_goals clear hF)))
    · (refine Fin.nextW (()) ?_ (have hW := True.intro; stWk); (try dsimp only))
      exact .inl (by omega)
    · (refine Fin.nextW (()) ?_ (have hW := True.intro; stWk); (try dsimp only))
      exact .inr (by omega)
    · rw [show i = a.length by omega, show j = b.length by omega] at h
      rw [← (h.done hf ha hb r hr).uniq ht]
      exact stRet (.sl 1 (encIs u))
  intro _ hin
  (focus (have hF := (And.intro @e1 (And.intro @e2 @e3)); (repeat' (first | (with_reducible refine Nx.of ?_) | ((with_reducible apply toV); refine stV (k := ?_)) | ((with_reducible apply toG); refine stG (k := ?_)) | ((with_reducible apply toG0); refine stG0 (k := ?_)) | ((with_reducible apply toC); refine stC (k := ?_)) | ((with_reducible apply toO); refine stO (k := ?_)) | ((with_reducible apply toX); refine stX (k := ?_)) | (with_reducible refine Ny.of ?_ ?_) | (refine Hyp.of ?_; intro hc; (try simp only [hc]); (try simp only [Bh] at hc)) | fail)); (all_goals clear hF)))
  unfold p3_ref04combine_l1
  refine Run.mid (σ := Int) (fun x => ⟨tms [(0, .sl 1 (encIs a)), (1, .sl 1 (encIs b)), (2, .int .i64 rule), (7, .os 113 u.length), (8, .int .i64 (i : Int)), (9, .int .i64 (j : Int)), (10, .bool v), (11, .int .i64 x)], mms [(113, .arr u.length 1 (encIs u))]⟩)
    (fun x => (i < a.length → x ≤ a.getD i 0) ∧ (j < b.length → x ≤ b.getD j 0) ∧ ((i < a.length ∧ a.getD i 0 = x) ∨ (j < b.length ∧ b.getD j 0 = x))) ?_ ?_
  · (focus (have hF := (And.intro (And.intro @e1 @e2) (And.intro @e3 @encIs_at)); (repeat' (first | (with_reducible refine Nx.of ?_) | ((with_reducible apply toV); refine stV (k := ?_)) | ((with_reducible apply toG); refine stG (k := ?_)) | ((with_reducible apply toG0); refine stG0 (k := ?_)) | ((with_reducible apply toC); refine stC (k := ?_)) | ((with_reducible apply toO); refine stO (k := ?_)) | ((with_reducible apply toX); refine stX (k := ?_)) | (with_reducible refine Ny.of ?_ ?_) | (refine Hyp.of ?_; intro hc; (try simp only [hc]); (try simp only [Bh] at hc)) | fail)); (all_goals clear hF)))
    all_goals first
      | ((refine Fin.nextW (a.getD i 0) ?_ (have hW := True.intro; stWk); (try dsimp only))
         exact ⟨fun _ => Int.le_refl _, fun _ => by omega, .inl ⟨by omega, rfl⟩⟩)
      | ((refine Fin.nextW (b.getD j 0) ?_ (have hW := True.intro; stWk); (try dsimp only))
         exact ⟨fun _ => by omega, fun _ => Int.le_refl _, .inr ⟨by omega, rfl⟩⟩)
  rintro x ⟨x1, x2, x3⟩
  unfold p2_ref04combine_l1
  refine Run.mid (σ := Nat) (fun i' => ⟨tms [(0, .sl 1 (encIs a)), (1, .sl 1 (encIs b)), (2, .int .i64 rule), (7, .os 113 u.length), (8, .int .i64 (i' : Int)), (9, .int .i64 (j : Int)), (10, .bool v), (11, .int .i64 x)], mms [(113, .arr u.length 1 (encIs u))]⟩)
    (fun i' => (i' = i + 1 ∧ i < a.length ∧ a.getD i 0 = x) ∨ (i' = i ∧ (i < a.length → x < a.getD i 0))) ?_ ?_
  · (focus (have hF := (And.intro (And.intro @e1 @e2) (And.intro @e3 @encIs_at)); (repeat' (first | (with_reducible refine Nx.of ?_) | ((with_reducible apply toV); refine stV (k := ?_)) | ((with_reducible apply toG); refine stG (k := ?_)) | ((with_reducible apply toG0); refine stG0 (k := ?_)) | ((with_reducible apply toC); refine stC (k := ?_)) | ((with_reducible apply toO); refine stO (k := ?_)) | ((with_reducible apply toX); refine stX (k := ?_)) | (with_reducible refine Ny.of ?_ ?_) | (refine Hyp.of ?_; intro hc; (try simp only [hc]); (try simp only [Bh] at hc)) | fail)); (all_goals clear hF)))
    all_goals first
      | ((refine Fin.nextW (i + 1) ?_ (have hW := True.intro; stWk); (try dsimp only))
         exact .inl ⟨rfl, by omega, by omega⟩)
      | ((refine Fin.nextW (i) ?_ (have hW := True.intro; stWk); (try dsimp only))
         exact .inr ⟨rfl, fun h => by have := x1 h; omega⟩)
  intro i' hi'
  unfold p1_ref04combine_l1
  refine Run.mid (σ := Nat) (fun j' => ⟨tms [(0, .sl 1 (encIs a)), (1, .sl 1 (encIs b)), (2, .int .i64 rule), (7, .os 113 u.length), (8, .int .i64 (i' : Int)), (9, .int .i64 (j' : Int)), (10, .bool v), (11, .int .i64 x)], mms [(113, .arr u.length 1 (encIs u))]⟩)
    (fun j' => (j' = j + 1 ∧ j < b.length ∧ b.getD j 0 = x) ∨ (j' = j ∧ (j < b.length → x < b.getD j 0))) ?_ ?_
  · (focus (have hF := (And.intro (And.intro @e1 @e2) (And.intro @e3 @encIs_at)); (repeat' (first | (with_reducible refine Nx.of ?_) | ((with_reducible apply toV); refine stV (k := ?_)) | ((with_reducible apply toG); refine stG (k := ?_)) | ((with_reducible apply toG0); refine stG0 (k := ?_)) | ((with_reducible apply toC); refine stC (k := ?_)) | ((with_reducible apply toO); refine stO (k := ?_)) | ((with_reducible apply toX); refine stX (k := ?_)) | (with_reducible refine Ny.of ?_ ?_) | (refine Hyp.of ?_; intro hc; (try simp only [hc]); (try simp only [Bh] at hc)) | fail)); (all_goals clear hF)))
    all_goals first
      | ((refine Fin.nextW (j + 1) ?_ (have hW := True.intro; stWk); (try dsimp only))
         exact .inl ⟨rfl, by omega, by omega⟩)
      | ((refine Fin.nextW (j) ?_ (have hW := True.intro; stWk); (try dsimp only))
         exact .inr ⟨rfl, fun h => by have := x2 h; omega⟩)
  intro j' hj'
  have st := h.step ha.rise hb.rise (x := x) (i' := i') (j' := j') (hi'.imp (fun q => ⟨q.1, by rw [getD_at q.2.1, q.2.2]⟩) (fun q => ⟨q.1, drop_above ha.rise q.2⟩)) (hj'.imp (fun q => ⟨q.1, by rw [getD_at q.2.1, q.2.2]⟩) (fun q => ⟨q.1, drop_above hb.rise q.2⟩)) (by
    rcases x3 with q | q
    · rcases hi' with w | w
      · exact .inl w.1
      · have := w.2 q.1; omega
    · rcases hj' with w | w
      · exact .inr w.1
      · have := w.2 q.1; omega)
  have st1 := st.hi
  have st2 := st.hj
  have st3 : (a.length - i') + (b.length - j') < (a.length - i) + (b.length - j) := by omega
  have hub : u.length ≤ 800000000 := by omega
  have m1 := tmod_two i'
  have m2 := tmod_two j'
  have m3 := odd_dec i'
  have m4 := odd_dec j'
  have hlu : (u ++ [x]).length = u.length + 1 := by simp
  clear hi' hj' x1 x2 x3 hi hj
  generalize odd i' = o1 at st m3
  generalize odd j' = o2 at st m4
  rcases hrf with ⟨rfl, rfl⟩ | ⟨rfl, rfl⟩ <;> cases o1 <;> cases o2 <;> cases v <;> simp only [Bool.and_true, Bool.and_false, Bool.true_and, Bool.false_and, Bool.not_true, Bool.not_false, if_true, reduceCtorEq, if_false] at st
  all_goals
    (focus (have hF := (And.intro (And.intro (And.intro @e1 @e2) (And.intro @e3 @m1)) (And.intro (And.intro @m2 @m3) (And.intro @m4 @encIs_snoc))); (repeat' (first | (with_reducible refine Nx.of ?_) | ((with_reducible apply toV); refine stV (k := ?_)) | ((with_reducible apply toG); refine stG (k := ?_)) | ((with_reducible apply toG0); refine stG0 (k := ?_)) | ((with_reducible apply toC); refine stC (k := ?_)) | ((with_reducible apply toO); refine stO (k := ?_)) | ((with_reducible apply toX); refine stX (k := ?_)) | (with_reducible refine Ny.of ?_ ?_) | (refine Hyp.of ?_; intro hc; (try simp only [hc]); (try simp only [Bh] at hc)) | fail)); (all_goals clear hF)))
    first
      | (have st' : CbI a b _ i' j' true u := st
         (refine Fin.nextW (⟨i', j', true, u⟩) ?_ (have hW := @encIs_stb; stWk); (try dsimp only))
         exact ⟨st', st3⟩)
      | (have st' : CbI a b _ i' j' false u := st
         (refine Fin.nextW (⟨i', j', false, u⟩) ?_ (have hW := @encIs_stb; stWk); (try dsimp only))
         exact ⟨st', st3⟩)
      | (have st' : CbI a b _ i' j' true (u ++ [x]) := st
         (refine Fin.nextW (⟨i', j', true, u ++ [x]⟩) ?_ (have hW := (And.intro @encIs_stb @hlu); stWk); (try dsimp only))
         exact ⟨st', st3⟩)
      | (have st' : CbI a b _ i' j' false (u ++ [x]) := st
         (refine Fin.nextW (⟨i', j', false, u ++ [x]⟩) ?_ (have hW := (And.intro @encIs_stb @hlu); stWk); (try dsimp only))
         exact ⟨st', st3⟩)
end Go.Proofs.Ytdmfjkhbodbgoaa.Avm

namespace Go.Proofs.Ytdmfjkhbodbgoaa.Avm
open Go.Shelf Go.RowKit Go.Lib Go.Sort
def con : AVal → Value
  | .int k n => .int k n
  | .bool b => .bool b
  | .str s => .string s
  | _ => undef
def AVal.isCon : AVal → Bool
  | .int _ _ => true
  | .bool _ => true
  | .str _ => true
  | _ => false
theorem con_VR {D : Nat → Nat → Prop} {G : Gh} {B : Nat → Prop} {w : World} {x : AVal} (h : x.isCon = true) : VR D G B w x (con x) := by
  cases x <;> simp only [AVal.isCon, Bool.false_eq_true] at h
  · exact .int _ _
  · exact .bool _
  · exact .str _
theorem con_of {D : Nat → Nat → Prop} {G : Gh} {B : Nat → Prop} {w : World} {x : AVal} {v : Value} (h : x.isCon = true) (hv : VR D G B w x v) : v = con x := by
  cases x <;> simp only [AVal.isCon, Bool.false_eq_true] at h <;> cases hv <;> rfl
theorem con_one {x : AVal} (h : x.isCon = true) : (con x).oneCell' = true := by
  cases x <;> simp only [AVal.isCon, Bool.false_eq_true] at h <;> rfl
theorem con_AOne {x : AVal} (h : x.isCon = true) : x.one = true := by
  cases x <;> simp only [AVal.isCon, Bool.false_eq_true] at h <;> rfl
theorem Adv.grown {G G' : Gh} {w w' : World} (h : Adv G w G' w') (hG : ∀ b, G.ow b = none) : ∃ q os, w' = grow (w.drewN q) os := by
  refine ⟨w'.drawn - w.drawn, w'.heap.extract w.heap.size w'.heap.size, ?_⟩
  have hh : w'.heap = w.heap ++ w'.heap.extract w.heap.size w'.heap.size := by
    apply Array.ext_getElem?
    intro i
    rcases Nat.lt_or_ge i w.heap.size with hi | hi
    · rw [Array.getElem?_append_left hi]
      exact (h.keep i hi (hG i)).1
    · rw [Array.getElem?_append_right hi, Array.getElem?_extract]
      rw [show w.heap.size + (i - w.heap.size) = i by omega]
      split
      · rfl
      · exact Array.getElem?_eq_none (by omega)
  have h1 := h.os
  have h2 := h.tape
  have h3 := h.output
  cases w; cases w'
  simp only [grow, World.drewN] at *
  congr 1
  · omega
  · exact h1.1
theorem flat_aggs {τ : Type} {c : τ → List AVal} (l : List τ) : flat (l.map fun x => .agg (c x)) = l.flatMap c := by
  induction l with
  | nil => rfl
  | cons x l ih => simp only [List.map_cons, flat_cons, ih, List.flatMap_cons]; rfl
theorem flatMap_at {τ : Type} {c : τ → List AVal} {k : Nat} (hk : ∀ x, (c x).length = k) {l : List τ} {i j : Nat} {x : τ} (hi : l[i]? = some x) (hj : j < k) : (l.flatMap c)[i * k + j]? = (c x)[j]? := by
  rw [← flat_aggs]
  rw [flat_at (sz := k) (x := .agg (c x)) (i := i) (j := j) (fun y hy => ?_) (by simp [hi]) hj]
  · rfl
  · obtain ⟨z, _, rfl⟩ := List.mem_map.1 hy
    exact hk z
section
variable {P : Program} {ρ : Ren} {τ : Type} [Inhabited τ]
theorem sortOwn (L : SlLaysF0.n6 P ρ) (hc6 : Callable P (ρ.f 6)) (k : Nat) (h0k : 0 < k) (aE : ∀ w, (isAgg (ρ.t 24)).run P w = .ok true w) (zE : ∀ w, (Go.sizeOf (ρ.t 24)).run P w = .ok k w)
    (c : τ → List AVal) (hk : ∀ x, (c x).length = k) (hcon : ∀ x, ∀ y ∈ c x, y.isCon = true) (cf : τ → τ → Int) (hO : SWO (ltOf cf)) (g : FuncId) (hcmp : ∀ x y : τ, Ev P g [.agg (c x), .agg (c y)] (.ret (.int .i64 (cf x y)))) (l : List τ) (hl : l.length < 4611686018427387904) :
    ∃ s : List τ, s.Perm l ∧ s.Pairwise (fun x y => ltOf cf y x = false) ∧ EvOwn P (ρ.f 6) [.undef, .fn g []] 0 k (l.map fun x => .agg (c x)) false (.tup []) (s.map fun x => .agg (c x)) := by
  let d : Array τ := l.toArray
  let d' := pdq (ltOf cf) d 0 d.size (Lib.bitLen d.size) true true
  have hds : d.size = l.length := by simp [d]
  obtain ⟨hp, hsrt⟩ := pdq_sorts (ltOf cf) hO d 0 d.size (Lib.bitLen d.size) true true (Nat.zero_le _) (Nat.le_refl _) (Or.inl rfl)
  have hsz' : d'.size = d.size := hp.1
  have hperm : d'.toList.Perm l := by
    have := hp.2.2
    have e : ∀ (x : Array τ) (n : Nat), x.size = n → x.extract 0 n = x := by rintro x n rfl; exact Array.extract_size
    rw [e d _ rfl, e _ _ hsz'] at this
    simpa [d] using this
  have hpw : d'.toList.Pairwise (fun x y => ltOf cf y x = false) := by
    rw [List.pairwise_iff_getElem]
    intro i j hi hj hij
    have h1 : i < d'.size := by simpa using hi
    have h2 : j < d'.size := by simpa using hj
    have := hsrt i j (Nat.zero_le _) hij (by rw [← hsz']; exact h2)
    rw [show (pdq (ltOf cf) d 0 d.size (Lib.bitLen d.size) true true) = d' from rfl, getElem!_pos d' i h1, getElem!_pos d' j h2] at this
    simpa using this
  refine ⟨d'.toList, hperm, hpw, hc6, fun B w vs G hkey hvs hv hown hB hol => ?_⟩
  obtain ⟨v0, hv0, hown⟩ := hown
  obtain ⟨v1, hv1⟩ : ∃ v, vs[1]? = some v := ⟨vs[1]'(by rw [hvs]; simp), by simp [hvs]⟩
  have hfn := hv 1 (.fn g []) v1 (by decide) rfl hv1
  have hf1 : v1 = .func (.func g) #[] #[] := by
    cases hfn with
    | fn _ _ ws hl0 _ =>
      have : ws = #[] := Array.eq_empty_of_size_eq_zero (by simpa using hl0)
      rw [this]
  have hvs' : vs = #[v0, v1] := by
    have h2 : vs.size = 2 := hvs
    apply Array.ext_getElem?
    intro i
    match i with
    | 0 => simpa using hv0
    | 1 => simpa using hv1
    | i + 2 => rw [Array.getElem?_eq_none (by omega)]; simp
  rw [hvs', hf1]
  rcases hown with ⟨rfl, hnil⟩ | ⟨b, off, cap, cc, el, hb1, hb2, hb3, hb4, hb5, hb6, hb7, hb8, hb9⟩
  · have hl0 : l = [] := by simpa using hnil
    have hd0 : d'.toList = [] := by rw [hl0] at hperm; exact hperm.eq_nil
    refine (AnyF.slices_SortFunc_none L none 0 (.func (.func g) #[] #[]) w).mono ?_
    rintro e w' ⟨rfl, rfl⟩
    refine ⟨G, .tuple #[], .slice none 0 0, rfl, hkey, hol, .refl G _, .inl ⟨rfl, by rw [hd0]; rfl⟩, fun h => (by cases h), fun _ => ⟨by simp, .tup [] #[] rfl fun n x v hx => by simp at hx⟩⟩
  · rw [flat_aggs] at hb8 hb9
    have hblk : b < w.heap.size := by
      rcases Nat.lt_or_ge b w.heap.size with h | h
      · exact h
      · rw [Array.getElem?_eq_none h] at hb5; cases hb5
    have hlen : (l.map fun x => AVal.agg (c x)).length = l.length := by simp
    rw [hlen] at hb1 hb2
    have hroom : off + l.length * k ≤ cc.size := by
      have := Nat.mul_le_mul_right k hb2
      omega
    let enc : τ → List Value := fun x => (c x).map con
    have hek : ∀ x, (enc x).length = k := fun x => by simp [enc, hk]
    have he1 : ∀ x, ∀ v ∈ enc x, v.oneCell' = true := fun x v hv => by
      obtain ⟨y, hy, rfl⟩ := List.mem_map.1 hv
      exact con_one (hcon x y hy)
    have cellv : ∀ (m : Array τ) (t : Nat), t < m.size * k → ∃ (x : τ) (y : AVal), m.toList[t / k]? = some x ∧ (c x)[t % k]? = some y ∧ (m.toList.flatMap c)[t]? = some y ∧ (flatK enc k m)[t]! = con y := by
      intro m t ht
      have h1 : t / k < m.size := Nat.div_lt_of_lt_mul (by rw [Nat.mul_comm]; exact ht)
      have h2 : t % k < k := Nat.mod_lt _ h0k
      have hx : m.toList[t / k]? = some m[t / k] := by simp [h1]
      have hy : (c m[t / k])[t % k]? = some ((c m[t / k])[t % k]'(by rw [hk]; exact h2)) := by simp [hk, h2]
      refine ⟨m[t / k], _, hx, hy, ?_, ?_⟩
      · rw [← hy, ← flatMap_at hk hx h2, Nat.mul_comm, Nat.div_add_mod]
      · rw [get_flatK _ _ _ _ ht, getElem!_pos m _ h1, getElem!_pos (enc m[t / k]) _ (by rw [hek]; exact h2)]
        simp [enc]
    have hH : HoldsK enc k w b off d := by
      intro t ht
      rw [size_flatK, hds] at ht
      obtain ⟨x, y, e1, e2, e3, e4⟩ := cellv d t (by rw [hds]; exact ht)
      obtain ⟨u, hu, hr⟩ := hb9 t y (by simpa [d] using e3)
      have hx := hcon x y (List.mem_of_getElem? e2)
      refine ⟨?_, ?_⟩
      · rw [cell_at hb5, hu, con_of hx hr, e4]; rfl
      · simp [World.frozen?, hb5]
    have hlays : CmpLays P g #[] enc k cf b off d.size w := by
      intro m os dk hdk x y
      have hE := (hcmp x y).2 (fun _ => False) (sortWorldK enc k w b off m dk os) #[.agg (enc x).toArray, .agg (enc y).toArray] { G with ow := fun _ => none } (fun _ => rfl) rfl (fun i z v hz hv => ?_) (fun _ h => h.elim)
      · refine hE.mono ?_
        rintro e w' ⟨G', v', hG', hA, he, hr⟩
        cases hr
        exact ⟨he, hA.grown (fun _ => rfl)⟩
      · have hone : ∀ x : τ, VR (Dm NoM) { G with ow := fun _ => none } (fun _ => False) (sortWorldK enc k w b off m dk os) (.agg (c x)) (.agg (enc x).toArray) := fun x => by
          refine .agg _ _ (by simp [enc]) fun n z v hz hv => ?_
          simp only [enc, List.getElem?_toArray, List.getElem?_map, hz, Option.map_some, Option.some.injEq] at hv
          subst hv
          exact con_VR (hcon x z (List.mem_of_getElem? hz))
        match i with
        | 0 => simp at hz hv; subst hz; subst hv; exact hone x
        | 1 => simp at hz hv; subst hz; subst hv; exact hone y
        | i + 2 => simp at hz
    have eg : ∀ args w, (callFunc g args).run P w = .ok (.enter g args) w := fun args w => by
      obtain ⟨fn, hfn, hnm, hbd⟩ := (hcmp default default).1.ok
      have e1 : (fn.name = "runtime.NumGoroutine") = False := by simpa using hnm
      have e2 : (fn.body = none) = False := by simp only [eq_iff_iff, iff_false]; intro hn; rw [hn] at hbd; simp at hbd
      simp [callFunc, hfn, e1, e2]
    have hmain := AnyQ.slices_SortFunc_eq L k aE zE enc hek he1 cf hO g #[] b off cap d w eg hlays hH hblk (by rw [hds]; exact hl)
    rw [hb1, show l.length = d.size by rw [hds]]
    refine hmain.mono ?_
    rintro e w' ⟨rfl, n, os, hw'⟩
    have hw0 : ∀ b', b' < w.heap.size → w'.heap[b']? = if b' = b then some (.cells (putCells id off (flatK enc k d') cc) el (0, 0)) else w.heap[b']? := by
      intro b' hb'
      rw [hw']
      simp only [sortWorldK, grow, putRowK, putRow, mapBlock, Sort.ahead]
      rw [Array.getElem?_append_left (by simpa using hb'), Array.getElem?_modify]
      by_cases hbb : b = b'
      · subst hbb
        rw [if_pos rfl, if_pos rfl, hb5]
        rfl
      · rw [if_neg hbb, if_neg (Ne.symm hbb)]
    have hsize : w.heap.size ≤ w'.heap.size := by
      rw [hw']
      simp [sortWorldK, grow, putRowK, putRow, mapBlock, Sort.ahead]
    have hkeep : ∀ b', b' < w.heap.size → G.ow b' = none → w'.heap[b']? = w.heap[b']? ∧ G.ow b' = none := fun b' hb' ho => by
      refine ⟨?_, ho⟩
      rw [hw0 b' hb', if_neg]
      rintro rfl
      rw [hb3] at ho; cases ho
    have hA : Adv G w G w' := ⟨by rw [hw']; exact ⟨rfl, Nat.le_add_right _ _⟩, by rw [hw']; rfl, by rw [hw']; rfl, hsize, hkeep⟩
    refine ⟨G, .tuple #[], v0, rfl, hkey, fun b' hb' => Nat.lt_of_lt_of_le (hol b' hb') hsize, hA, .inr ⟨b, off, cap, putCells id off (flatK enc k d') cc, el, ?_, ?_, hb3, hb4, ?_, ?_, ?_, ?_, ?_⟩, fun h => (by cases h), fun _ => ⟨by simp [hb1, hds], .tup [] #[] rfl fun n x v hx => by simp at hx⟩⟩
    · rw [hb1]; simp [hsz', hds]
    · simp only [List.length_map, Array.length_toList, hsz', hds]; exact hb2
    · rw [hw0 b hblk, if_pos rfl]
    · simp only [putCells, Array.size_mapIdx]; exact hb6
    · intro x hx
      obtain ⟨z, _, rfl⟩ := List.mem_map.1 hx
      exact hk z
    · intro x hx
      rw [flat_aggs] at hx
      obtain ⟨z, _, hz⟩ := List.mem_flatMap.1 hx
      exact con_AOne (hcon z x hz)
    · intro t x hx
      rw [flat_aggs] at hx
      have htl : t < d'.size * k := by
        have h1 : t < (d'.toList.flatMap c).length := by
          rcases Nat.lt_or_ge t (d'.toList.flatMap c).length with h | h
          · exact h
          · rw [List.getElem?_eq_none h] at hx; cases hx
        rwa [← flat_aggs, flat_length (sz := k) (fun y hy => by obtain ⟨z, _, rfl⟩ := List.mem_map.1 hy; exact hk z), List.length_map, Array.length_toList] at h1
      obtain ⟨z, y, e1, e2, e3, e4⟩ := cellv d' t htl
      rw [hx] at e3
      cases e3
      have hlt : off + t < cc.size := by rw [hsz', hds] at htl; omega
      refine ⟨con x, ?_, con_VR (hcon z x (List.mem_of_getElem? e2))⟩
      simp only [putCells, Array.getElem?_mapIdx, Array.getElem?_eq_getElem hlt, Option.map_some]
      rw [if_pos ⟨by omega, by rw [size_flatK]; omega⟩, show off + t - off = t by omega, e4]
      rfl
end
end Go.Proofs.Ytdmfjkhbodbgoaa.Avm

namespace Go.Proofs.Ytdmfjkhbodbgoaa.Avm
theorem noC_of_stb {K : Nat → Bool} {x : AVal} (h : x.stb = true) : x.noC K = true := by
  have h' := no_of_stb (K := K) h
  cases x <;> first | exact h' | exact absurd h (by simp [AVal.stb])
theorem cells_no (K : Nat → Bool) {cs : List AVal} (h : stbs cs = true) : (ABlk.cells cs).no K = true := by
  simp only [ABlk.no, List.all_eq_true]
  exact fun x hx => noC_of_stb (stbs_mem h x hx)
def cellOk : AVal → Bool
  | .own _ xs => stbs xs
  | .hole => true
  | x => x.stb
def cellsOk (cs : List AVal) : Bool := cs.all cellOk
theorem cells_ok (K : Nat → Bool) {cs : List AVal} (h : cellsOk cs = true) : (ABlk.cells cs).no K = true := by
  simp only [ABlk.no, List.all_eq_true]
  intro x hx
  have := List.all_eq_true.1 h x hx
  cases x <;> first | exact noC_of_stb this | rfl | skip
  case own sz xs =>
    simp only [AVal.noC, List.all_eq_true]
    exact fun y hy => no_of_stb (stbs_flat this y hy)
def frz : AVal → AVal
  | .own sz xs => .sl sz xs
  | .hole => .undef
  | x => x
def cellOf (k : Nat) : OKey → Bool
  | .cell k' _ => k' == k
  | _ => false
theorem Wk.freeze {n : Nat} {T : Tmps} {M : Mem} {k : Nat} {cs : List AVal} (hk : M k = some (.cells cs)) : Wk n ⟨T, M⟩ ⟨T, upd M k (some (.cells (cs.map frz)))⟩ := by
  intro B G a w hR
  obtain ⟨c, el, b1, b2, b3, b4, b5⟩ := hR.mem k _ hk
  let G' : Gh := { G with ow := fun b => match G.ow b with | some key => if cellOf k key = true then none else some key | none => none }
  have g0 : ∀ b, G.ow b = none → G'.ow b = none := fun b hb => by simp [G', hb]
  have hA : Adv G w G' w := ⟨⟨rfl, Nat.le_refl _⟩, rfl, rfl, Nat.le_refl _, fun b _ ho => ⟨rfl, g0 b ho⟩⟩
  have hD : ∀ j e, Dm M j e → Dm (upd M k (some (.cells (cs.map frz)))) j e := fun j e => Dm_upd (by rw [hk]; trivial)
  have hw : ∀ b, b < w.heap.size → ¬ B b → G.ow b = none → w.heap[b]? = w.heap[b]? ∧ ¬ B b ∧ G'.ow b = none := fun b _ hn ho => ⟨rfl, hn, g0 b ho⟩
  refine ⟨G', hR.update hA k (.cells (cs.map frz)) (by show Succ (M k) _; rw [hk]; trivial) (fun _ _ _ => ⟨rfl, rfl⟩) (fun b key _ _ ho hne => ⟨rfl, ?_⟩) (fun b hb => hR.ol b fun hn => hb (g0 b hn)) ?_, hA⟩
  · have : cellOf k key = false := by cases key <;> simp_all [cellOf, OKey.of]
    simp [G', ho, this]
  · refine ⟨c, el, by simp [G', b1, cellOf], b2, b3, by simp [b4], fun i y hy => ?_⟩
    rw [List.getElem?_map] at hy
    cases hx : cs[i]? with
    | none => simp [hx] at hy
    | some x =>
      simp only [hx, Option.map_some, Option.some.injEq] at hy
      subst hy
      obtain ⟨u, hu, hr⟩ := b5 i x hx
      refine ⟨u, hu, ?_⟩
      cases x with
      | own sz xs =>
        show VR _ G' B w (.sl sz xs) u
        rcases hr with ⟨rfl, rfl⟩ | ⟨b, o, cap, cc, ell, h1, h2, h3, h4, h5, h6, h7, h7', h8⟩
        · exact .slnil sz
        · rw [h1]
          refine .sl sz xs b o cap (fun m => cc.getD (o + m) undef) h2 (fun _ => ⟨h4, by simp [G', h3, cellOf]⟩) h7' h7 (fun m x hx => ?_) (fun m x hx => ?_)
          · obtain ⟨v, hv, _⟩ := h8 m x hx
            rw [cell_at h5, hv]
            simp [hv]
          · obtain ⟨v, hv, hvr⟩ := h8 m x hx
            have : cc.getD (o + m) undef = v := by simp [hv]
            simp only [this]
            exact VR.mono (G := G) (G' := G') (w := w) (w' := w) (B := B) hD (fun _ _ _ => ⟨rfl, rfl⟩) hw hvr
      | hole => exact .undef _
      | _ => exact VR.mono (G := G) (G' := G') (w := w) (w' := w) (B := B) hD (fun _ _ _ => ⟨rfl, rfl⟩) hw hr
end Go.Proofs.Ytdmfjkhbodbgoaa.Avm

namespace Go.Proofs.Ytdmfjkhbodbgoaa.Avm
open Go.Proofs
def r_spanNorm_1 : List SOp :=
  [⟨(some 2), (.assign (.const (.slice none 0 0))), none⟩]
instance : Live r_spanNorm_1 := ⟨[0]⟩
def r_spanNorm_2 : List SOp :=
  [⟨(some 3), (.move (.tmp 0)), none⟩, ⟨(some 4), (.buildSlice 116 1 #[(0, .tmp 3)]), none⟩, ⟨(some 5), (.call ⟨.value (.func 106), #[.tmp 4], #[116]⟩), none⟩, ⟨(some 2), (.assign (.tmp 5)), none⟩]
instance : Live r_spanNorm_2 := ⟨[0]⟩
def t_spanNorm : SC :=
  (.seq (.ops false r_spanNorm_1) (.seq (.ops false r_spanNorm_2) .ret))
theorem it_spanNorm : FnIs Try.prog 92 6 [.tmp 2] t_spanNorm := ⟨Try.f92, _, Try.func92, rfl, rfl, rfl, rfl, by kernel_rfl⟩
end Go.Proofs.Ytdmfjkhbodbgoaa.Avm

namespace Go.Proofs.Ytdmfjkhbodbgoaa.Avm
open Go.Proofs
theorem ev_spanNorm_of (l m : List Rn) (hU : Ev (En Try.prog rfl).P 106 [.sl 1 [.sl 2 (encRs l)]] (.ret (.sl 2 (encRs m)))) : Ev (En Try.prog rfl).P 92 [.sl 2 (encRs l)] (.ret (.sl 2 (encRs m))) := by
  refine Ev.of_body it_spanNorm (by simp) (Run.start ?_)
  unfold t_spanNorm
  (focus (have hF := True.intro; (repeat' (first | (with_reducible refine Nx.of ?_) | ((with_reducible apply toV); refine stV (k := ?_)) | ((with_reducible apply toG); refine stG (k := ?_); (with_reducible refine Nx.of ?_)) | ((with_reducible apply toG0); refine stG0 (k := ?_); (with_reducible refine Nx.of ?_)) | ((with_reducible apply toC); refine stC (k := ?_); (with_reducible refine Nx.of ?_)) | ((with_reducible apply toO); refine stO (k := ?_)) | ((with_reducible apply toX); refine stX (k := ?_)) | fail)); (all_goals clear hF)))
  refine awp_pure (l := [.sl 1 [.sl 2 (encRs l)]]) rfl rfl (by simp [stbs, AVal.stb, encRs_stb]) hU ?_
  (focus (have hF := True.intro; (repeat' (first | (with_reducible refine Nx.of ?_) | ((with_reducible apply toV); refine stV (k := ?_)) | ((with_reducible apply toG); refine stG (k := ?_); (with_reducible refine Nx.of ?_)) | ((with_reducible apply toG0); refine stG0 (k := ?_); (with_reducible refine Nx.of ?_)) | ((with_reducible apply toC); refine stC (k := ?_); (with_reducible refine Nx.of ?_)) | ((with_reducible apply toO); refine stO (k := ?_)) | ((with_reducible apply toX); refine stX (k := ?_)) | fail)); (all_goals clear hF)))
  exact Fin.tmp' rfl (encRs_stb m)
end Go.Proofs.Ytdmfjkhbodbgoaa.Avm

namespace Go.Proofs.Ytdmfjkhbodbgoaa.Avm
open Go.Proofs
def r_spanUnion_1 : List SOp :=
  [⟨(some 2), (.assign (.const (.slice none 0 0))), none⟩]
instance : Live r_spanUnion_1 := ⟨[0]⟩
def r_spanUnion_2 : List SOp :=
  [⟨(some 3), (.assign (.const (.slice none 0 0))), none⟩]
instance : Live r_spanUnion_2 := ⟨[0]⟩
def r_spanUnion_3 : List SOp :=
  [⟨(some 13), (.move (.tmp 0)), none⟩, ⟨(some 14), (.call ⟨.builtin .len, #[.tmp 13], #[116]⟩), none⟩, ⟨(some 15), (.move (.const (.int .i64 0))), none⟩]
instance : Live r_spanUnion_3 := ⟨[0, 3]⟩
def r_spanUnion_4 : List SOp :=
  [⟨(some 16), (.binOp .lss 3 (.tmp 15) (.tmp 14) 3), none⟩]
instance : Live r_spanUnion_4 := ⟨[3, 13, 14, 15]⟩
def r_spanUnion_5 : List SOp :=
  [⟨(some 17), (.indexAddr 116 (.tmp 13) (.tmp 15)), none⟩, ⟨(some 18), (.load 58 (.tmp 17)), none⟩, ⟨(some 5), (.assign (.tmp 18)), none⟩]
instance : Live r_spanUnion_5 := ⟨[3, 13, 14, 15]⟩
def r_spanUnion_6 : List SOp :=
  [⟨(some 19), (.move (.tmp 5)), none⟩, ⟨(some 20), (.call ⟨.builtin .len, #[.tmp 19], #[58]⟩), none⟩, ⟨(some 21), (.move (.const (.int .i64 0))), none⟩]
instance : Live r_spanUnion_6 := ⟨[3, 5, 13, 14, 15]⟩
def r_spanUnion_7 : List SOp :=
  [⟨(some 22), (.binOp .lss 3 (.tmp 21) (.tmp 20) 3), none⟩]
instance : Live r_spanUnion_7 := ⟨[3, 13, 14, 15, 19, 20, 21]⟩
def r_spanUnion_8 : List SOp :=
  [⟨(some 23), (.indexAddr 58 (.tmp 19) (.tmp 21)), none⟩, ⟨(some 24), (.load 73 (.tmp 23)), none⟩, ⟨(some 7), (.alloc 73), none⟩, ⟨none, (.store 73 (.tmp 7) (.tmp 24)), none⟩]
instance : Live r_spanUnion_8 := ⟨[3, 13, 14, 15, 19, 20, 21]⟩
def r_spanUnion_9 : List SOp :=
  [⟨(some 26), (.load 73 (.tmp 7)), none⟩, ⟨(some 27), (.call ⟨.value (.func 88), #[.tmp 26], #[73]⟩), none⟩, ⟨(some 25), (.move (.tmp 27)), none⟩, ⟨(some 28), (.extract (.tmp 25) 0), none⟩, ⟨(some 29), (.extract (.tmp 25) 1), none⟩, ⟨(some 8), (.alloc 73), none⟩, ⟨none, (.store 73 (.tmp 8) (.tmp 28)), none⟩, ⟨(some 9), (.assign (.tmp 29)), none⟩]
instance : Live r_spanUnion_9 := ⟨[3, 7, 13, 14, 15, 19, 20, 21]⟩
def r_spanUnion_10 : List SOp :=
  [⟨(some 30), (.move (.tmp 9)), none⟩]
instance : Live r_spanUnion_10 := ⟨[3, 8, 9, 13, 14, 15, 19, 20, 21]⟩
def r_spanUnion_11 : List SOp :=
  [⟨(some 31), (.move (.tmp 3)), none⟩, ⟨(some 32), (.load 73 (.tmp 8)), none⟩, ⟨(some 33), (.buildSlice 58 1 #[(0, .tmp 32)]), none⟩, ⟨(some 34), (.call ⟨.builtin .append, #[.tmp 31, .tmp 33], #[58, 58]⟩), none⟩, ⟨(some 3), (.assign (.tmp 34)), none⟩]
instance : Live r_spanUnion_11 := ⟨[3, 8, 13, 14, 15, 19, 20, 21]⟩
def r_spanUnion_12 : List SOp :=
  [⟨(some 35), (.binOp .add 3 (.tmp 21) (.const (.int .i64 1)) 3), none⟩, ⟨(some 21), (.move (.tmp 35)), none⟩]
instance : Live r_spanUnion_12 := ⟨[3, 13, 14, 15, 19, 20, 21]⟩
def r_spanUnion_13 : List SOp :=
  [⟨(some 36), (.binOp .add 3 (.tmp 15) (.const (.int .i64 1)) 3), none⟩, ⟨(some 15), (.move (.tmp 36)), none⟩]
instance : Live r_spanUnion_13 := ⟨[3, 13, 14, 15]⟩
def r_spanUnion_14 : List SOp :=
  [⟨(some 37), (.move (.tmp 3)), none⟩, ⟨(some 38), (.call ⟨.value (.func 109), #[.tmp 37, .func 110], #[58, 118]⟩), none⟩]
instance : Live r_spanUnion_14 := ⟨[3]⟩
def r_spanUnion_15 : List SOp :=
  [⟨(some 10), (.assign (.const (.slice none 0 0))), none⟩]
instance : Live r_spanUnion_15 := ⟨[3]⟩
def r_spanUnion_16 : List SOp :=
  [⟨(some 39), (.move (.tmp 3)), none⟩, ⟨(some 40), (.call ⟨.builtin .len, #[.tmp 39], #[58]⟩), none⟩, ⟨(some 41), (.move (.const (.int .i64 0))), none⟩]
instance : Live r_spanUnion_16 := ⟨[3, 10]⟩
def r_spanUnion_17 : List SOp :=
  [⟨(some 42), (.binOp .lss 3 (.tmp 41) (.tmp 40) 3), none⟩]
instance : Live r_spanUnion_17 := ⟨[10, 39, 40, 41]⟩
def r_spanUnion_18 : List SOp :=
  [⟨(some 43), (.indexAddr 58 (.tmp 39) (.tmp 41)), none⟩, ⟨(some 44), (.load 73 (.tmp 43)), none⟩, ⟨(some 12), (.alloc 73), none⟩, ⟨none, (.store 73 (.tmp 12) (.tmp 44)), none⟩]
instance : Live r_spanUnion_18 := ⟨[10, 39, 40, 41]⟩
def r_spanUnion_19 : List SOp :=
  [⟨(some 45), (.move (.tmp 10)), none⟩, ⟨(some 46), (.load 73 (.tmp 12)), none⟩, ⟨(some 47), (.call ⟨.value (.func 111), #[.tmp 45, .tmp 46], #[58, 73]⟩), none⟩, ⟨(some 10), (.assign (.tmp 47)), none⟩]
instance : Live r_spanUnion_19 := ⟨[10, 12, 39, 40, 41]⟩
def r_spanUnion_20 : List SOp :=
  [⟨(some 48), (.binOp .add 3 (.tmp 41) (.const (.int .i64 1)) 3), none⟩, ⟨(some 41), (.move (.tmp 48)), none⟩]
instance : Live r_spanUnion_20 := ⟨[10, 39, 40, 41]⟩
def r_spanUnion_21 : List SOp :=
  [⟨(some 49), (.move (.tmp 10)), none⟩, ⟨(some 2), (.assign (.tmp 49)), none⟩]
instance : Live r_spanUnion_21 := ⟨[10]⟩
def t_spanUnion_l2 : SC :=
  (.seq (.ops false r_spanUnion_7) (.seq (.cond (.tmp 22) .skip (.exit 2)) (.seq (.block 3 (.seq (.ops false r_spanUnion_8) (.seq (.ops false r_spanUnion_9) (.seq (.ops false r_spanUnion_10) (.cond (.tmp 30) (.ops false r_spanUnion_11) .skip))))) (.ops false r_spanUnion_12))))
def t_spanUnion_l1 : SC :=
  (.seq (.ops false r_spanUnion_4) (.seq (.cond (.tmp 16) .skip (.exit 0)) (.seq (.block 1 (.seq (.ops false r_spanUnion_5) (.seq (.ops false r_spanUnion_6) (.block 2 (.loop t_spanUnion_l2))))) (.ops false r_spanUnion_13))))
def t_spanUnion_l3 : SC :=
  (.seq (.ops false r_spanUnion_17) (.seq (.cond (.tmp 42) .skip (.exit 4)) (.seq (.block 5 (.seq (.ops false r_spanUnion_18) (.ops false r_spanUnion_19))) (.ops false r_spanUnion_20))))
def t_spanUnion : SC :=
  (.seq (.ops false r_spanUnion_1) (.seq (.ops false r_spanUnion_2) (.seq (.seq (.ops false r_spanUnion_3) (.block 0 (.loop t_spanUnion_l1))) (.seq (.ops false r_spanUnion_14) (.seq (.ops false r_spanUnion_15) (.seq (.seq (.ops false r_spanUnion_16) (.block 4 (.loop t_spanUnion_l3))) (.seq (.ops false r_spanUnion_21) .ret)))))))
theorem it_spanUnion : FnIs Try.prog 106 50 [.tmp 2] t_spanUnion := ⟨Try.f106, _, Try.func106, rfl, rfl, rfl, rfl, by kernel_rfl⟩
end Go.Proofs.Ytdmfjkhbodbgoaa.Avm

namespace Go.Proofs.Ytdmfjkhbodbgoaa.Avm
open Go.Proofs
def r_slicesSortFuncapiRunapiRun_1 : List SOp :=
  [⟨(some 5), (.move (.tmp 0)), none⟩, ⟨(some 6), (.call ⟨.builtin .len, #[.tmp 5], #[58]⟩), none⟩, ⟨(some 4), (.assign (.tmp 6)), none⟩]
instance : Live r_slicesSortFuncapiRunapiRun_1 := ⟨[0, 1]⟩
def r_slicesSortFuncapiRunapiRun_2 : List SOp :=
  [⟨(some 7), (.move (.tmp 0)), none⟩, ⟨(some 8), (.move (.tmp 4)), none⟩, ⟨(some 9), (.move (.tmp 4)), none⟩, ⟨(some 10), (.convert 3 122 (.tmp 9)), none⟩, ⟨(some 11), (.call ⟨.value (.func 113), #[.tmp 10], #[122]⟩), none⟩, ⟨(some 12), (.move (.tmp 1)), none⟩, ⟨(some 13), (.call ⟨.value (.func 112), #[.tmp 7, .const (.int .i64 0), .tmp 8, .tmp 11, .tmp 12], #[58, 3, 3, 3, 118]⟩), none⟩]
instance : Live r_slicesSortFuncapiRunapiRun_2 := ⟨[0, 1, 4]⟩
def t_slicesSortFuncapiRunapiRun : SC :=
  (.seq (.ops false r_slicesSortFuncapiRunapiRun_1) (.ops false r_slicesSortFuncapiRunapiRun_2))
theorem it_slicesSortFuncapiRunapiRun : FnIs Try.prog 109 14 [] t_slicesSortFuncapiRunapiRun := ⟨Try.f109, _, Try.func109, rfl, rfl, rfl, rfl, by kernel_rfl⟩
end Go.Proofs.Ytdmfjkhbodbgoaa.Avm

namespace Go.Proofs.Ytdmfjkhbodbgoaa.Avm
open Go.Proofs Go.Shelf Go.RowKit Go.Lib Go.Sort
def lay_sortRun_ren : Go.Shelf.Ren := ⟨fun | 6 => 109 | 15 => 113 | 14 => 112 | 28 => 122 | 29 => 123 | 20 => 114 | 21 => 115 | 22 => 116 | 23 => 117 | 24 => 118 | 25 => 119 | 26 => 120 | 27 => 121 | 46 => 124 | 47 => 125 | 48 => 126 | 49 => 127 | 50 => 128 | 57 => 129 | n => n, fun | 22 => 58 | 24 => 73 | 25 => 118 | 3 => 3 | 39 => 122 | 0 => 0 | 53 => 132 | 55 => 134 | 4 => 4 | 46 => 125 | 45 => 124 | 50 => 129 | 5 => 5 | 9 => 9 | 66 => 135 | 70 => 139 | 76 => 141 | 77 => 142 | n => n, fun | n => n⟩
theorem lay_sortRun : Go.Proofs.SlLaysF0.n6 Try.prog lay_sortRun_ren where
  mixed := by kernel_rfl
  f6 := ⟨Try.f109.name, by decide, Try.func109.trans (congrArg some (by kernel_rfl))⟩
  f14 := ⟨Try.f112.name, by decide, Try.func112.trans (congrArg some (by kernel_rfl))⟩
  f15 := Try.func113.trans (congrArg some (by kernel_rfl))
  f20 := ⟨Try.f114.name, by decide, Try.func114.trans (congrArg some (by kernel_rfl))⟩
  f21 := ⟨Try.f115.name, by decide, Try.func115.trans (congrArg some (by kernel_rfl))⟩
  f22 := ⟨Try.f116.name, by decide, Try.func116.trans (congrArg some (by kernel_rfl))⟩
  f23 := ⟨Try.f117.name, by decide, Try.func117.trans (congrArg some (by kernel_rfl))⟩
  f24 := ⟨Try.f118.name, by decide, Try.func118.trans (congrArg some (by kernel_rfl))⟩
  f25 := ⟨Try.f119.name, by decide, Try.func119.trans (congrArg some (by kernel_rfl))⟩
  f26 := ⟨Try.f120.name, by decide, Try.func120.trans (congrArg some (by kernel_rfl))⟩
  f27 := ⟨Try.f121.name, by decide, Try.func121.trans (congrArg some (by kernel_rfl))⟩
  f28 := Try.func122.trans (congrArg some (by kernel_rfl))
  f29 := Try.func123.trans (congrArg some (by kernel_rfl))
  f46 := ⟨Try.f124.name, by decide, Try.func124.trans (congrArg some (by kernel_rfl))⟩
  f47 := Try.func125.trans (congrArg some (by kernel_rfl))
  f48 := Try.func126.trans (congrArg some (by kernel_rfl))
  f49 := ⟨Try.f127.name, by decide, Try.func127.trans (congrArg some (by kernel_rfl))⟩
  f50 := ⟨Try.f128.name, by decide, Try.func128.trans (congrArg some (by kernel_rfl))⟩
  f57 := ⟨Try.f129.name, by decide, Try.func129.trans (congrArg some (by kernel_rfl))⟩
  t0 := Try.underlying0
  a0 := Try.isAgg0
  z0 := Try.sizeOf0
  v0 := Try.zeroValue0
  t3 := Try.underlying3
  a3 := Try.isAgg3
  z3 := Try.sizeOf3
  v3 := Try.zeroValue3
  t4 := Try.underlying4
  a4 := Try.isAgg4
  z4 := Try.sizeOf4
  v4 := Try.zeroValue4
  t5 := Try.underlying5
  a5 := Try.isAgg5
  z5 := Try.sizeOf5
  v5 := Try.zeroValue5
  t9 := Try.underlying9
  a9 := Try.isAgg9
  z9 := Try.sizeOf9
  v9 := Try.zeroValue9
  t22 := Try.underlying58
  a22 := Try.isAgg58
  z22 := Try.sizeOf58
  v22 := Try.zeroValue58
  t25 := Try.underlying118
  a25 := Try.isAgg118
  z25 := Try.sizeOf118
  v25 := Try.zeroValue118
  t39 := Try.underlying122
  a39 := Try.isAgg122
  z39 := Try.sizeOf122
  v39 := Try.zeroValue122
  t45 := Try.underlying124
  a45 := Try.isAgg124
  z45 := Try.sizeOf124
  v45 := Try.zeroValue124
  t46 := Try.underlying125
  a46 := Try.isAgg125
  z46 := Try.sizeOf125
  v46 := Try.zeroValue125
  t50 := Try.underlying129
  a50 := Try.isAgg129
  z50 := Try.sizeOf129
  v50 := Try.zeroValue129
  t53 := Try.underlying132
  a53 := Try.isAgg132
  z53 := Try.sizeOf132
  v53 := Try.zeroValue132
  t55 := Try.underlying134
  a55 := Try.isAgg134
  z55 := Try.sizeOf134
  v55 := Try.zeroValue134
  t66 := Try.underlying135
  a66 := Try.isAgg135
  z66 := Try.sizeOf135
  v66 := Try.zeroValue135
  t70 := Try.underlying139
  a70 := Try.isAgg139
  z70 := Try.sizeOf139
  v70 := Try.zeroValue139
  t76 := Try.underlying141
  a76 := Try.isAgg141
  z76 := Try.sizeOf141
  v76 := Try.zeroValue141
  t77 := Try.underlying142
  a77 := Try.isAgg142
  z77 := Try.sizeOf142
  v77 := Try.zeroValue142
end Go.Proofs.Ytdmfjkhbodbgoaa.Avm

namespace Go.Proofs.Ytdmfjkhbodbgoaa.Avm
open Go.Proofs Go.Shelf Go.RowKit Go.Lib Go.Sort
abbrev RnOk := { r : Rn // okR r }
instance : Inhabited RnOk := ⟨⟨(1, 1), by unfold okR; decide⟩⟩
theorem FnIs.callable {P : Program} {f : FuncId} {n : Nat} {rs : List ResultVar} {sc : SC} (h : FnIs P f n rs sc) : Callable P f := by
  obtain ⟨fn, c, h1, h2, h3, _⟩ := h
  exact ⟨⟨fn, h1, h2, by simp [h3]⟩⟩
theorem ev_sortRuns (l : List Rn) (hok : ∀ r ∈ l, okR r) (hl : l.length ≤ 1000000000) :
    ∃ s : List Rn, s.Perm l ∧ s.Pairwise leLo ∧ EvOwn (En Try.prog rfl).P 109 [.undef, .fn 110 []] 0 2 (encRs l) false (.tup []) (encRs s) := by
  have hlt : ∀ x y : RnOk, ltOf (fun x y : RnOk => x.1.1 - y.1.1) x y = decide (x.1.1 < y.1.1) := fun x y => by
    unfold ltOf
    simp only [decide_eq_decide]
    omega
  obtain ⟨s, h1, h2, h3⟩ := sortOwn (τ := RnOk) lay_sortRun (FnIs.callable it_slicesSortFuncapiRunapiRun) 2 (by decide) Try.isAgg73 Try.sizeOf73 (fun x => [.int .i64 x.1.1, .int .i64 x.1.2]) (fun _ => rfl)
    (fun x y hy => by simp at hy; rcases hy with rfl | rfl <;> rfl) (fun x y => x.1.1 - y.1.1)
    ⟨fun x => by rw [hlt]; simp, fun x y z h1 h2 => by rw [hlt] at *; simp at *; omega, fun x y z h1 h2 => by rw [hlt] at *; simp at *; omega⟩
    110 (fun x y => ev_spanUnion1 x.1 y.1 (by have := x.2; unfold okR at this; omega) (by have := y.2; unfold okR at this; omega)) (l.attachWith okR hok) (by simp; omega)
  refine ⟨s.map (·.1), ?_, ?_, ?_⟩
  · have := h1.map (·.1)
    have e0 : (l.attachWith okR hok).map (·.1) = l := List.ext_getElem (by simp) (by simp)
    rw [e0] at this
    exact this
  · rw [List.pairwise_map]
    refine h2.imp fun {a b} h => ?_
    rw [hlt] at h
    simp at h
    exact h
  · have e1 : (l.attachWith okR hok).map (fun x => AVal.agg [.int .i64 x.1.1, .int .i64 x.1.2]) = encRs l := by
      have : (l.attachWith okR hok).map (fun x => AVal.agg [.int .i64 x.1.1, .int .i64 x.1.2]) = ((l.attachWith okR hok).map (·.1)).map encR := by rw [List.map_map]; rfl
      rw [this]
      simp [encRs]
    have e2 : s.map (fun x => AVal.agg [.int .i64 x.1.1, .int .i64 x.1.2]) = encRs (s.map (·.1)) := by
      rw [encRs, List.map_map]; rfl
    rw [e1, e2] at h3
    exact h3
theorem ev_spanclip' (r : Rn) : Ev (En Try.prog rfl).P 88 [encR r] (.ret (.tup [.agg [.int .i64 (max r.1 1), .int .i64 (min r.2 1000000000)], .bool (decide (max r.1 1 ≤ min r.2 1000000000))])) := ev_spanclip r
def encSets (ss : List (List Rn)) : List AVal := ss.map fun l => .sl 2 (encRs l)
theorem encSets_stb (ss : List (List Rn)) : stbs (encSets ss) = true := stbs_map fun l => encRs_stb l
theorem encSets_len (ss : List (List Rn)) : (encSets ss).length = ss.length := by simp [encSets]
theorem encRs_snoc (l : List Rn) (a b : Int) : encRs l ++ [.agg [.int .i64 a, .int .i64 b]] = encRs (l ++ [(a, b)]) := by simp [encRs, encR]
theorem clips_take1 {l : List Rn} {i : Nat} {r : Rn} (h : l[i]? = some r) : clips (l.take (i + 1)) = clips (l.take i) ++ clips [r] := by
  rw [List.take_add_one, h, clips_append]
  rfl
theorem clips_yes {r : Rn} (h : max r.1 1 ≤ min r.2 1000000000) : clips [r] = [(max r.1 1, min r.2 1000000000)] := by rw [clips_cons, if_pos (show (clipR r).1 ≤ (clipR r).2 from h)]; rfl
theorem clips_no {r : Rn} (h : ¬ max r.1 1 ≤ min r.2 1000000000) : clips [r] = [] := by rw [clips_cons, if_neg (show ¬ (clipR r).1 ≤ (clipR r).2 from h)]; rfl
theorem flatten_take {α : Type} {ss : List (List α)} {i : Nat} {l : List α} (h : ss[i]? = some l) : (ss.take (i + 1)).flatten = (ss.take i).flatten ++ l := by
  rw [List.take_add_one, h]
  simp
theorem addFold_ok2 {s : List Rn} (hs : s.Pairwise leLo) (hok : ∀ r ∈ s, okR r) (i : Nat) : Can ((s.take i).foldl addR []) :=
  (addFold_ok (out := []) (hs.sublist (List.take_sublist i s)) (fun r hr => hok r (List.mem_of_mem_take hr)) Can.nil (fun x hx => by cases hx)).1
theorem ev_spanUnion (ss : List (List Rn)) (hl : ss.length ≤ 900000000) (hw : ss.flatten.length ≤ 900000000) : Ev (En Try.prog rfl).P 106 [.sl 1 (encSets ss)] (.ret (.sl 2 (encRs (normR ss.flatten)))) := by
  refine Ev.of_body it_spanUnion (by simp) (Run.start ?_)
  unfold t_spanUnion
  have e0 := encSets_len ss
  (focus (have hF := @e0; (repeat' (first | (with_reducible refine Nx.of ?_) | ((with_reducible apply toV); refine stV (k := ?_)) | ((with_reducible apply toG); refine stG (k := ?_)) | ((with_reducible apply toG0); refine stG0 (k := ?_)) | ((with_reducible apply toC); refine stC (k := ?_)) | ((with_reducible apply toO); refine stO (k := ?_)) | ((with_reducible apply toX); refine stX (k := ?_)) | (with_reducible refine Ny.of ?_ ?_) | (refine Hyp.of ?_; intro hc; (try simp only [hc]); (try simp only [Bh] at hc)) | fail)); (all_goals clear hF)))
  refine Run.wk (Wk.own_nil 3 34 2 rfl rfl) ?_
  refine Run.while (σ := Nat) (fun i => ⟨tms [(3, .os 34 (clips (ss.take i).flatten).length), (13, .sl 1 (encSets ss)), (14, .int .i64 ss.length), (15, .int .i64 i)], mms [(34, .arr (clips (ss.take i).flatten).length 2 (encRs (clips (ss.take i).flatten)))]⟩)
    (fun i => i ≤ ss.length) (fun i => ss.length - i) 0 (have hW := @encSets_stb; stWk) (Nat.zero_le _) ?_
  intro i hi
  unfold t_spanUnion_l1
  by_cases hlt : i < ss.length
  · obtain ⟨row, hrow⟩ : ∃ row, ss[i]? = some row := ⟨ss[i], by simp [hlt]⟩
    have e1 : (encSets ss)[i]? = some (.sl 2 (encRs row)) := by simp [encSets, hrow]
    have e2 := encRs_len row
    have hft := flatten_take hrow
    have hrl : (ss.take (i + 1)).flatten.length ≤ ss.flatten.length := by
      have h := List.take_append_drop (i + 1) ss
      have h2 : ss.flatten = (ss.take (i + 1)).flatten ++ (ss.drop (i + 1)).flatten := by rw [← List.flatten_append, h]
      rw [h2]; simp
    have hrl2 : row.length ≤ ss.flatten.length := by rw [hft] at hrl; simp only [List.length_append] at hrl; omega
    generalize (ss.take i).flatten = acc at hft ⊢
    (focus (have hF := (And.intro @e0 (And.intro @e1 @e2)); (repeat' (first | (with_reducible refine Nx.of ?_) | ((with_reducible apply toV); refine stV (k := ?_)) | ((with_reducible apply toG); refine stG (k := ?_)) | ((with_reducible apply toG0); refine stG0 (k := ?_)) | ((with_reducible apply toC); refine stC (k := ?_)) | ((with_reducible apply toO); refine stO (k := ?_)) | ((with_reducible apply toX); refine stX (k := ?_)) | (with_reducible refine Ny.of ?_ ?_) | (refine Hyp.of ?_; intro hc; (try simp only [hc]); (try simp only [Bh] at hc)) | fail)); (all_goals clear hF)))
    refine Run.while (σ := Nat) (fun j => ⟨tms [(3, .os 34 (clips (acc ++ row.take j)).length), (13, .sl 1 (encSets ss)), (14, .int .i64 ss.length), (15, .int .i64 i), (19, .sl 2 (encRs row)), (20, .int .i64 row.length), (21, .int .i64 j)], mms [(34, .arr (clips (acc ++ row.take j)).length 2 (encRs (clips (acc ++ row.take j))))]⟩)
      (fun j => j ≤ row.length) (fun j => row.length - j) 0 (have hW := @encSets_stb; stWk) (Nat.zero_le _) ?_
    intro j hj
    unfold t_spanUnion_l2
    by_cases hjl : j < row.length
    · obtain ⟨r, hr⟩ : ∃ r, row[j]? = some r := ⟨row[j], by simp [hjl]⟩
      have g1 : (encRs row)[j]? = some (.agg [.int .i64 r.1, .int .i64 r.2]) := encRs_get hr
      have hk : clips (acc ++ row.take (j + 1)) = clips (acc ++ row.take j) ++ clips [r] := by rw [clips_append, clips_take1 hr, clips_append, List.append_assoc]
      have hb : (clips (acc ++ row.take j)).length ≤ 900000000 := by
        have h1 := clips_len (acc ++ row.take j)
        have h2 : (acc ++ row.take j).length ≤ (acc ++ row).length := by simp only [List.length_append, List.length_take]; omega
        rw [← hft] at h2
        omega
      have g2 := encRs_len (clips (acc ++ row.take j))
      (focus (have hF := (And.intro (And.intro @e0 @e1) (And.intro @e2 @g1)); (repeat' (first | (with_reducible refine Nx.of ?_) | ((with_reducible apply toV); refine stV (k := ?_)) | ((with_reducible apply toG); refine stG (k := ?_)) | ((with_reducible apply toG0); refine stG0 (k := ?_)) | ((with_reducible apply toC); refine stC (k := ?_)) | ((with_reducible apply toO); refine stO (k := ?_)) | ((with_reducible apply toX); refine stX (k := ?_)) | (with_reducible refine Ny.of ?_ ?_) | (refine Hyp.of ?_; intro hc; (try simp only [hc]); (try simp only [Bh] at hc)) | fail)); (all_goals clear hF)))
      refine stCall [encR r] (he := ev_spanclip' r) (k := ?_)
      (focus (have hF := (And.intro (And.intro @e0 (And.intro @e1 @e2)) (And.intro @g1 (And.intro @g2 @encRs_snoc))); (repeat' (first | (with_reducible refine Nx.of ?_) | ((with_reducible apply toV); refine stV (k := ?_)) | ((with_reducible apply toG); refine stG (k := ?_)) | ((with_reducible apply toG0); refine stG0 (k := ?_)) | ((with_reducible apply toC); refine stC (k := ?_)) | ((with_reducible apply toO); refine stO (k := ?_)) | ((with_reducible apply toX); refine stX (k := ?_)) | (with_reducible refine Ny.of ?_ ?_) | (refine Hyp.of ?_; intro hc; (try simp only [hc]); (try simp only [Bh] at hc)) | fail)); (all_goals clear hF)))
      · have hk2 := hk.trans (by rw [clips_yes hc])
        (refine Fin.nextW (j + 1) ?_ (have hW := (And.intro @hk2 @encSets_stb); stWk); (try dsimp only))
        omega
      · have hk2 := hk.trans (by rw [clips_no hc, List.append_nil])
        (refine Fin.nextW (j + 1) ?_ (have hW := (And.intro @hk2 @encSets_stb); stWk); (try dsimp only))
        omega
    · have hje : acc ++ row.take j = (ss.take (i + 1)).flatten := by rw [hft, show j = row.length by omega, List.take_length]
      rw [hje]
      (focus (have hF := (And.intro @e0 (And.intro @e1 @e2)); (repeat' (first | (with_reducible refine Nx.of ?_) | ((with_reducible apply toV); refine stV (k := ?_)) | ((with_reducible apply toG); refine stG (k := ?_)) | ((with_reducible apply toG0); refine stG0 (k := ?_)) | ((with_reducible apply toC); refine stC (k := ?_)) | ((with_reducible apply toO); refine stO (k := ?_)) | ((with_reducible apply toX); refine stX (k := ?_)) | (with_reducible refine Ny.of ?_ ?_) | (refine Hyp.of ?_; intro hc; (try simp only [hc]); (try simp only [Bh] at hc)) | fail)); (all_goals clear hF)))
      (refine Fin.nextW (i + 1) ?_ (have hW := @encSets_stb; stWk); (try dsimp only))
      omega
  · have hie : (ss.take i).flatten = ss.flatten := by rw [show i = ss.length by omega, List.take_length]
    rw [hie]
    have hcl := clips_len ss.flatten
    obtain ⟨s, hp, hs, hsort⟩ := ev_sortRuns (clips ss.flatten) clips_ok (by omega)
    have hres := normR_eq hs hp
    have hok : ∀ r ∈ s, okR r := fun r hr => clips_ok r (hp.mem_iff.1 hr)
    have hlen := hp.length_eq
    rw [← hres]
    generalize clips ss.flatten = c at *
    (focus (have hF := @e0; (repeat' (first | (with_reducible refine Nx.of ?_) | ((with_reducible apply toV); refine stV (k := ?_)) | ((with_reducible apply toG); refine stG (k := ?_)) | ((with_reducible apply toG0); refine stG0 (k := ?_)) | ((with_reducible apply toC); refine stC (k := ?_)) | ((with_reducible apply toO); refine stO (k := ?_)) | ((with_reducible apply toX); refine stX (k := ?_)) | (with_reducible refine Ny.of ?_ ?_) | (refine Hyp.of ?_; intro hc; (try simp only [hc]); (try simp only [Bh] at hc)) | fail)); (all_goals clear hF)))
    refine awp_turn (args' := [.undef, .fn 110 []]) 0 34 rfl rfl rfl rfl rfl (encRs_stb _) (encRs_stb s) rfl hsort ?_
    have g0 := encRs_len s
    (focus (have hF := (And.intro @e0 @g0); (repeat' (first | (with_reducible refine Nx.of ?_) | ((with_reducible apply toV); refine stV (k := ?_)) | ((with_reducible apply toG); refine stG (k := ?_)) | ((with_reducible apply toG0); refine stG0 (k := ?_)) | ((with_reducible apply toC); refine stC (k := ?_)) | ((with_reducible apply toO); refine stO (k := ?_)) | ((with_reducible apply toX); refine stX (k := ?_)) | (with_reducible refine Ny.of ?_ ?_) | (refine Hyp.of ?_; intro hc; (try simp only [hc]); (try simp only [Bh] at hc)) | fail)); (all_goals clear hF)))
    refine Run.wk (Wk.own_nil 10 47 2 rfl rfl) ?_
    refine Run.while (σ := Nat) (fun i => ⟨tms [(10, .os 47 i), (39, .os 34 c.length), (40, .int .i64 s.length), (41, .int .i64 i)], mms [(34, .arr c.length 2 (encRs s)), (47, .arr i 2 (encRs ((s.take i).foldl addR [])))]⟩)
      (fun i => i ≤ s.length) (fun i => s.length - i) 0 (have hW := True.intro; stWk) (Nat.zero_le _) ?_
    clear hi hlt hie
    intro i hi
    unfold t_spanUnion_l3
    by_cases hlt : i < s.length
    · obtain ⟨r, hr⟩ : ∃ r, s[i]? = some r := ⟨s[i], by simp [hlt]⟩
      have g1 : (encRs s)[i]? = some (.agg [.int .i64 r.1, .int .i64 r.2]) := encRs_get hr
      have hcan := addFold_ok2 hs hok i
      have hle := addFold_le (s.take i) []
      have hnx := foldl_take addR [] s hr
      simp only [List.length_nil, List.length_take] at hle
      generalize (s.take i).foldl addR [] = out at hcan hle hnx ⊢
      (focus (have hF := (And.intro @e0 (And.intro @g0 @g1)); (repeat' (first | (with_reducible refine Nx.of ?_) | ((with_reducible apply toV); refine stV (k := ?_)) | ((with_reducible apply toG); refine stG (k := ?_)) | ((with_reducible apply toG0); refine stG0 (k := ?_)) | ((with_reducible apply toC); refine stC (k := ?_)) | ((with_reducible apply toO); refine stO (k := ?_)) | ((with_reducible apply toX); refine stX (k := ?_)) | (with_reducible refine Ny.of ?_ ?_) | (refine Hyp.of ?_; intro hc; (try simp only [hc]); (try simp only [Bh] at hc)) | fail)); (all_goals clear hF)))
      refine awp_back (args' := [.undef, encR r]) 0 47 rfl rfl rfl rfl rfl (encRs_stb _) (encRs_stb _) (ev_spanadd out r (fun x hx => by have := hcan.2 x hx; unfold okR at this; omega) (by omega)) ?_
      (focus (have hF := (And.intro @e0 (And.intro @g0 @g1)); (repeat' (first | (with_reducible refine Nx.of ?_) | ((with_reducible apply toV); refine stV (k := ?_)) | ((with_reducible apply toG); refine stG (k := ?_)) | ((with_reducible apply toG0); refine stG0 (k := ?_)) | ((with_reducible apply toC); refine stC (k := ?_)) | ((with_reducible apply toO); refine stO (k := ?_)) | ((with_reducible apply toX); refine stX (k := ?_)) | (with_reducible refine Ny.of ?_ ?_) | (refine Hyp.of ?_; intro hc; (try simp only [hc]); (try simp only [Bh] at hc)) | fail)); (all_goals clear hF)))
      (refine Fin.nextW (i + 1) ?_ (have hW := @hnx; stWk); (try dsimp only))
      omega
    · rw [show i = s.length by omega, List.take_length]
      (focus (have hF := (And.intro @e0 @g0); (repeat' (first | (with_reducible refine Nx.of ?_) | ((with_reducible apply toV); refine stV (k := ?_)) | ((with_reducible apply toG); refine stG (k := ?_)) | ((with_reducible apply toG0); refine stG0 (k := ?_)) | ((with_reducible apply toC); refine stC (k := ?_)) | ((with_reducible apply toO); refine stO (k := ?_)) | ((with_reducible apply toX); refine stX (k := ?_)) | (with_reducible refine Ny.of ?_ ?_) | (refine Hyp.of ?_; intro hc; (try simp only [hc]); (try simp only [Bh] at hc)) | fail)); (all_goals clear hF)))
      exact stRet (.sl 2 (encRs (s.foldl addR [])))
theorem ev_spanNorm (l : List Rn) (hl : l.length ≤ 900000000) : Ev (En Try.prog rfl).P 92 [.sl 2 (encRs l)] (.ret (.sl 2 (encRs (normR l)))) := by
  refine ev_spanNorm_of l (normR l) ?_
  have h := ev_spanUnion [l] (by simp) (by simpa using hl)
  simpa [encSets] using h
end Go.Proofs.Ytdmfjkhbodbgoaa.Avm

namespace Go.Proofs.Ytdmfjkhbodbgoaa.Avm
open Go.Proofs
def r_spanLead_1 : List SOp :=
  [⟨(some 2), (.assign (.const (.int .i64 0))), none⟩, ⟨(some 3), (.assign (.const (.slice none 0 0))), none⟩]
instance : Live r_spanLead_1 := ⟨[0]⟩
def r_spanLead_2 : List SOp :=
  [⟨(some 5), (.move (.tmp 0)), none⟩, ⟨(some 6), (.call ⟨.value (.func 92), #[.tmp 5], #[58]⟩), none⟩, ⟨(some 4), (.assign (.tmp 6)), none⟩]
instance : Live r_spanLead_2 := ⟨[0]⟩
def r_spanLead_3 : List SOp :=
  [⟨(some 7), (.move (.tmp 4)), none⟩, ⟨(some 8), (.call ⟨.builtin .len, #[.tmp 7], #[58]⟩), none⟩, ⟨(some 9), (.binOp .eql 3 (.tmp 8) (.const (.int .i64 0)) 3), none⟩, ⟨(some 10), (.move (.tmp 9)), none⟩, ⟨(some 11), (.move (.tmp 4)), (some ((some 10), false))⟩, ⟨(some 12), (.indexAddr 58 (.tmp 11) (.const (.int .i64 0))), (some ((some 10), false))⟩, ⟨(some 13), (.fieldAddr 73 (.tmp 12) 0), (some ((some 10), false))⟩, ⟨(some 14), (.load 3 (.tmp 13)), (some ((some 10), false))⟩, ⟨(some 15), (.binOp .neq 3 (.tmp 14) (.const (.int .i64 1)) 3), (some ((some 10), false))⟩, ⟨(some 16), (.pick (.tmp 10) (.const (.bool true)) (.tmp 15)), none⟩]
instance : Live r_spanLead_3 := ⟨[4]⟩
def r_spanLead_4 : List SOp :=
  [⟨(some 17), (.move (.tmp 4)), none⟩, ⟨(some 2), (.assign (.const (.int .i64 0))), none⟩, ⟨(some 3), (.assign (.tmp 17)), none⟩]
instance : Live r_spanLead_4 := ⟨[4]⟩
def r_spanLead_5 : List SOp :=
  [⟨(some 18), (.move (.tmp 4)), none⟩, ⟨(some 19), (.indexAddr 58 (.tmp 18) (.const (.int .i64 0))), none⟩, ⟨(some 20), (.fieldAddr 73 (.tmp 19) 1), none⟩, ⟨(some 21), (.load 3 (.tmp 20)), none⟩, ⟨(some 22), (.move (.tmp 4)), none⟩, ⟨(some 23), (.slice 58 (.tmp 22) (some (.const (.int .i64 1))) none none), none⟩, ⟨(some 24), (.call ⟨.value (.func 105), #[.tmp 23], #[58]⟩), none⟩, ⟨(some 2), (.assign (.tmp 21)), none⟩, ⟨(some 3), (.assign (.tmp 24)), none⟩]
instance : Live r_spanLead_5 := ⟨[4]⟩
def t_spanLead : SC :=
  (.seq (.ops false r_spanLead_1) (.seq (.ops false r_spanLead_2) (.seq (.seq (.ops false r_spanLead_3) (.cond (.tmp 16) (.seq (.ops false r_spanLead_4) .ret) .skip)) (.seq (.ops true r_spanLead_5) .ret))))
theorem it_spanLead : FnIs Try.prog 90 25 [.tmp 2, .tmp 3] t_spanLead := ⟨Try.f90, _, Try.func90, rfl, rfl, rfl, rfl, by kernel_rfl⟩
end Go.Proofs.Ytdmfjkhbodbgoaa.Avm

namespace Go.Proofs.Ytdmfjkhbodbgoaa.Avm
open Go.Proofs
def leadOf : List Rn → Int × List Rn
  | [] => (0, [])
  | x :: r => if x.1 = 1 then (x.2, r) else (0, x :: r)
theorem leadOf_1 {x : Rn} {r : List Rn} (h : x.1 = 1) : leadOf (x :: r) = (x.2, r) := if_pos h
theorem leadOf_2 {x : Rn} {r : List Rn} (h : ¬ x.1 = 1) : leadOf (x :: r) = (0, x :: r) := if_neg h
theorem ev_spanLead_of (l m : List Rn) (hm : m.length ≤ 1000000000) (hN : Ev (En Try.prog rfl).P 92 [.sl 2 (encRs l)] (.ret (.sl 2 (encRs m)))) :
    Ev (En Try.prog rfl).P 90 [.sl 2 (encRs l)] (.ret (.tup [.int .i64 (leadOf m).1, .sl 2 (encRs (leadOf m).2)])) := by
  refine Ev.of_body it_spanLead (by simp) (Run.start ?_)
  unfold t_spanLead
  (focus (have hF := True.intro; (repeat' (first | (with_reducible refine Nx.of ?_) | ((with_reducible apply toV); refine stV (k := ?_)) | ((with_reducible apply toG); refine stG (k := ?_); (with_reducible refine Nx.of ?_)) | ((with_reducible apply toG0); refine stG0 (k := ?_); (with_reducible refine Nx.of ?_)) | ((with_reducible apply toC); refine stC (k := ?_); (with_reducible refine Nx.of ?_)) | ((with_reducible apply toO); refine stO (k := ?_)) | ((with_reducible apply toX); refine stX (k := ?_)) | fail)); (all_goals clear hF)))
  refine awp_pure (l := [.sl 2 (encRs l)]) rfl rfl (by simp [stbs, AVal.stb, encRs_stb]) hN ?_
  cases m with
  | nil =>
    have e0 : encRs [] = [] := rfl
    rw [e0]
    (focus (have hF := True.intro; (repeat' (first | (with_reducible refine Nx.of ?_) | ((with_reducible apply toV); refine stV (k := ?_)) | ((with_reducible apply toG); refine stG (k := ?_); (with_reducible refine Nx.of ?_)) | ((with_reducible apply toG0); refine stG0 (k := ?_); (with_reducible refine Nx.of ?_)) | ((with_reducible apply toC); refine stC (k := ?_); (with_reducible refine Nx.of ?_)) | ((with_reducible apply toO); refine stO (k := ?_)) | ((with_reducible apply toX); refine stX (k := ?_)) | fail)); (all_goals clear hF)))
    exact Fin.two rfl rfl rfl rfl (.inl rfl) (.inl rfl)
  | cons x r =>
    have e0 : encRs (x :: r) = .agg [.int .i64 x.1, .int .i64 x.2] :: encRs r := rfl
    have e1 : (encRs r).length = r.length := encRs_len r
    have e2 : decide (((r.length + 1 : Nat) : Int) = 0) = false := by simp; omega
    have e3 : ((0 : Int) < ((r.length + 1 : Nat) : Int)) = True := by simp only [eq_iff_iff, iff_true]; omega
    by_cases c : x.1 = 1
    · rw [leadOf_1 c, e0]
      have d : (!decide (x.1 = 1)) = false := by simpa using c
      (focus (have hF := (And.intro (And.intro @e1 @e2) (And.intro @e3 @d)); (repeat' (first | (with_reducible refine Nx.of ?_) | ((with_reducible apply toV); refine stV (k := ?_)) | ((with_reducible apply toG); refine stG (k := ?_); (with_reducible refine Nx.of ?_)) | ((with_reducible apply toG0); refine stG0 (k := ?_); (with_reducible refine Nx.of ?_)) | ((with_reducible apply toC); refine stC (k := ?_); (with_reducible refine Nx.of ?_)) | ((with_reducible apply toO); refine stO (k := ?_)) | ((with_reducible apply toX); refine stX (k := ?_)) | fail)); (all_goals clear hF)))
      have e4 : (1 ≤ r.length + 1) = True := by simp
      have hcl := ev_slicesCloneapiRunapiRun r (by simp at hm; omega)
      have e5 : ((1 : Int).toNat) = 1 := rfl
      have e6 : (AVal.agg [.int .i64 x.1, .int .i64 x.2] :: encRs r).take (r.length + 1) = AVal.agg [.int .i64 x.1, .int .i64 x.2] :: encRs r := List.take_of_length_le (by simp [e1])
      have e7 : (encRs r).take r.length = encRs r := List.take_of_length_le (by simp [e1])
      (focus (have hF := (And.intro (And.intro (And.intro @e1 @e2) (And.intro @e3 @e4)) (And.intro (And.intro @e5 @e6) (And.intro @e7 @d))); (repeat' (first | (with_reducible refine Nx.of ?_) | ((with_reducible apply toV); refine stV (k := ?_)) | ((with_reducible apply toG); refine stG (k := ?_); (with_reducible refine Nx.of ?_)) | ((with_reducible apply toG0); refine stG0 (k := ?_); (with_reducible refine Nx.of ?_)) | ((with_reducible apply toC); refine stC (k := ?_); (with_reducible refine Nx.of ?_)) | ((with_reducible apply toO); refine stO (k := ?_)) | ((with_reducible apply toX); refine stX (k := ?_)) | fail)); (all_goals clear hF)))
      refine awp_pure (l := [.sl 2 (encRs r)]) rfl ?hl (by simp [stbs, AVal.stb, encRs_stb]) hcl ?k
      case hl =>
        show [AVal.sl 2 ((encRs r).take r.length)] = _
        rw [e7]
      (focus (have hF := (And.intro (And.intro @e1 @e2) (And.intro @e3 @d)); (repeat' (first | (with_reducible refine Nx.of ?_) | ((with_reducible apply toV); refine stV (k := ?_)) | ((with_reducible apply toG); refine stG (k := ?_); (with_reducible refine Nx.of ?_)) | ((with_reducible apply toG0); refine stG0 (k := ?_); (with_reducible refine Nx.of ?_)) | ((with_reducible apply toC); refine stC (k := ?_); (with_reducible refine Nx.of ?_)) | ((with_reducible apply toO); refine stO (k := ?_)) | ((with_reducible apply toX); refine stX (k := ?_)) | fail)); (all_goals clear hF)))
      exact Fin.two rfl rfl rfl (encRs_stb r) (.inl rfl) (.inl rfl)
    · rw [leadOf_2 c, e0]
      have d : (!decide (x.1 = 1)) = true := by simpa using c
      (focus (have hF := (And.intro (And.intro @e1 @e2) (And.intro @e3 @d)); (repeat' (first | (with_reducible refine Nx.of ?_) | ((with_reducible apply toV); refine stV (k := ?_)) | ((with_reducible apply toG); refine stG (k := ?_); (with_reducible refine Nx.of ?_)) | ((with_reducible apply toG0); refine stG0 (k := ?_); (with_reducible refine Nx.of ?_)) | ((with_reducible apply toC); refine stC (k := ?_); (with_reducible refine Nx.of ?_)) | ((with_reducible apply toO); refine stO (k := ?_)) | ((with_reducible apply toX); refine stX (k := ?_)) | fail)); (all_goals clear hF)))
      exact Fin.two rfl rfl rfl (encRs_stb (x :: r)) (.inl rfl) (.inl rfl)
end Go.Proofs.Ytdmfjkhbodbgoaa.Avm

namespace Go.Proofs.Ytdmfjkhbodbgoaa.Avm
open Go.Proofs
theorem range_fold {v : List Int} {t : Tab} (i : Nat) : (List.range (i + 1)).foldl (putVec v) t = putVec v ((List.range i).foldl (putVec v) t) i := by
  rw [List.range_succ, List.foldl_append]
  rfl
theorem open_l2 {Q : Ex → AS → Prop} {y : SC} {k : Kont} (A11 : AVal) (h11 : A11.stb = true) (n12 i13 : Int) (p : Pst) (hp : p.vec.length ≤ 1000000000) (t : Tab) {n0 : Nat} (ht : TabLe t n0) (hn : n0 + 16 ≤ 1000000000)
    (h : Run (En Try.prog rfl) 78 Q y k ⟨tms [(3, .ptr 10 0), (11, A11), (12, .int .i64 n12), (13, .int .i64 i13), (5, .ptr 5 0)], mms [(10, .cells (encT (addVec p.vec t))), (5, .cells [.sl 1 (encIs p.vec), .sl 3 (encSs p.cloud)])]⟩) :
    Run (En Try.prog rfl) 78 Q (.loop t_pastopen_l2) (.block 2 (.seq y k)) ⟨tms [(3, .ptr 10 0), (11, A11), (12, .int .i64 n12), (13, .int .i64 i13), (5, .ptr 5 0), (20, .int .i64 (min p.vec.length 16)), (21, .int .i64 0)], mms [(10, .cells (encT t)), (5, .cells [.sl 1 (encIs p.vec), .sl 3 (encSs p.cloud)])]⟩ := by
  refine Run.range (min p.vec.length 16) (fun i => ⟨tms [(3, .ptr 10 0), (11, A11), (12, .int .i64 n12), (13, .int .i64 i13), (5, .ptr 5 0), (20, .int .i64 (min p.vec.length 16)), (21, .int .i64 i)], mms [(10, .cells (encT ((List.range i).foldl (putVec p.vec) t))), (5, .cells [.sl 1 (encIs p.vec), .sl 3 (encSs p.cloud)])]⟩) (Wk.refl _ _) (fun i hi => ?_) ?_
  · obtain ⟨q1, q2⟩ := TabLe.range (v := p.vec) ht i
    rw [range_fold]
    generalize (List.range i).foldl (putVec p.vec) t = u at q1 q2 ⊢
    have hiv : i < p.vec.length := by omega
    have hi16 : i < 16 := by omega
    have hiu : i < u.length := by rw [q1]; exact hi16
    have e1 : ((i : Int) < min (p.vec.length : Int) 16) = True := by simp only [eq_iff_iff, iff_true]; omega
    have e2 : (0 ≤ (i : Int)) = True := by simp
    have e3 : ((i : Int) < ((16 : Nat) : Int)) = True := by simp only [eq_iff_iff, iff_true]; omega
    have e4 : (encT u)[i]? = some (.own 2 (encRs (u.getD i []))) := encT_get hiu
    have e5 : ((encT u).set i .hole)[i]? = some .hole := encT_hole hiu
    have e6 := encT_add hiu (1, vecAt p.vec i)
    simp only at e6
    have e7 : (encIs p.vec)[i]? = some (.int .i64 (vecAt p.vec i)) := encIs_get (by simp [vecAt, hiv])
    have e8 : (encIs p.vec).length = p.vec.length := encIs_len _
    have e9 : ((i : Int) < (p.vec.length : Int)) = True := by simp only [eq_iff_iff, iff_true]; omega
    have e10 : (encRs (u.getD i [])).length = (u.getD i []).length := encRs_len _
    have hq := q2 i
    have e11 : (((u.getD i []).length + 1) * 16 ≤ 70368744177664) = True := by simp only [eq_iff_iff, iff_true]; omega
    have e12 : ((u.getD i []).length + 1 ≤ 4611686018427387904) = True := by simp only [eq_iff_iff, iff_true]; omega
    have e13 : IntKind.i64.wrap ((i : Int) + 1) = ((i + 1 : Nat) : Int) := by rw [wrap_id (by omega)]; omega
    have e14 : (encT u).length = 16 := by rw [encT_len, q1]
    have e15 : (i + 1 ≤ 16) = True := by simp only [eq_iff_iff, iff_true]; omega
    unfold t_pastopen_l2
    (focus (have hF := (And.intro @e1 @e2); (repeat' (first | (with_reducible refine Nx.of ?_) | ((with_reducible apply toV); refine stV (k := ?_)) | ((with_reducible apply toG); refine stG (k := ?_); (with_reducible refine Nx.of ?_)) | ((with_reducible apply toG0); refine stG0 (k := ?_); (with_reducible refine Nx.of ?_)) | ((with_reducible apply toC); refine stC (k := ?_); (with_reducible refine Nx.of ?_)) | ((with_reducible apply toO); refine stO (k := ?_)) | ((with_reducible apply toX); refine stX (k := ?_)) | fail)); (all_goals clear hF)))
    ((with_reducible apply toW); refine stW (fun j => j == 5) (k := ?_))
    (focus (have hF := (And.intro (And.intro (And.intro (And.intro @e1 @e2) (And.intro @e3 @e4)) (And.intro (And.intro @e5 @e6) (And.intro @e7 @e8))) (And.intro (And.intro (And.intro @e9 @e10) (And.intro @e11 @e12)) (And.intro (And.intro @e13 @e14) (And.intro @e15 @List.length_set.{0})))); (repeat' (first | (with_reducible refine Nx.of ?_) | ((with_reducible apply toV); refine stV (k := ?_)) | ((with_reducible apply toG); refine stG (k := ?_); (with_reducible refine Nx.of ?_)) | ((with_reducible apply toG0); refine stG0 (k := ?_); (with_reducible refine Nx.of ?_)) | ((with_reducible apply toC); refine stC (k := ?_); (with_reducible refine Nx.of ?_)) | ((with_reducible apply toO); refine stO (k := ?_)) | ((with_reducible apply toX); refine stX (k := ?_)) | fail)); (all_goals clear hF)))
    refine Fin.next (Wk.toL _ _ ⟨rfl, rfl, rfl, rfl, rfl, rfl, rfl, trivial⟩ ⟨rfl, rfl, trivial⟩ ⟨rfl, no_of_stb h11, rfl, rfl, rfl, rfl, rfl, trivial⟩ ⟨encT_no _ _, ?_, trivial⟩)
    simp [ABlk.no, AVal.noC, AVal.no, AVal.stb, encIs_stb, encSs_stb]
  · have e1 : (((min p.vec.length 16 : Nat) : Int) < min (p.vec.length : Int) 16) = False := by simp only [eq_iff_iff, iff_false]; omega
    unfold t_pastopen_l2
    (focus (have hF := @e1; (repeat' (first | (with_reducible refine Nx.of ?_) | ((with_reducible apply toV); refine stV (k := ?_)) | ((with_reducible apply toG); refine stG (k := ?_); (with_reducible refine Nx.of ?_)) | ((with_reducible apply toG0); refine stG0 (k := ?_); (with_reducible refine Nx.of ?_)) | ((with_reducible apply toC); refine stC (k := ?_); (with_reducible refine Nx.of ?_)) | ((with_reducible apply toO); refine stO (k := ?_)) | ((with_reducible apply toX); refine stX (k := ?_)) | fail)); (all_goals clear hF)))
    exact Run.wk (Wk.keep [(3, .ptr 10 0), (11, A11), (12, .int .i64 n12), (13, .int .i64 i13), (5, .ptr 5 0)] ⟨rfl, rfl, rfl, rfl, rfl, trivial⟩) h
end Go.Proofs.Ytdmfjkhbodbgoaa.Avm

namespace Go.Proofs.Ytdmfjkhbodbgoaa.Avm
open Go.Proofs
theorem putSn_in {t : Tab} {s : Sn} (h : 0 ≤ s.1 ∧ s.1 < 16) : putSn t s = addAt t s.1.toNat s.2 := if_pos h
theorem putSn_out {t : Tab} {s : Sn} (h : ¬ (0 ≤ s.1 ∧ s.1 < 16)) : putSn t s = t := if_neg h
theorem open_l3 {Q : Ex → AS → Prop} {k : Kont} (A11 : AVal) (h11 : A11.stb = true) (n12 i13 : Int) (cl : List Sn) (hp : cl.length ≤ 1000000000) (t : Tab) {n0 : Nat} (ht : TabLe t n0) (hn : n0 + cl.length ≤ 1000000000)
    (h : Fin (En Try.prog rfl) 78 Q k .normal ⟨upd (tms [(3, .ptr 10 0), (11, A11), (12, .int .i64 n12), (13, .int .i64 i13), (43, .sl 3 (encSs cl)), (44, .int .i64 cl.length), (45, .int .i64 cl.length)]) 46 (.bool false), mms [(10, .cells (encT (addCloud cl t)))]⟩) :
    Run (En Try.prog rfl) 78 Q (.loop t_pastopen_l3) (.block 4 k) ⟨tms [(3, .ptr 10 0), (11, A11), (12, .int .i64 n12), (13, .int .i64 i13), (43, .sl 3 (encSs cl)), (44, .int .i64 cl.length), (45, .int .i64 0)], mms [(10, .cells (encT t))]⟩ := by
  refine Run.range cl.length (fun i => ⟨tms [(3, .ptr 10 0), (11, A11), (12, .int .i64 n12), (13, .int .i64 i13), (43, .sl 3 (encSs cl)), (44, .int .i64 cl.length), (45, .int .i64 i)], mms [(10, .cells (encT ((cl.take i).foldl putSn t)))]⟩) (Wk.refl _ _) (fun i hi => ?_) ?_
  · have hq0 := TabLe.cloud ht (cl.take i)
    obtain ⟨s, hs⟩ : ∃ s, cl[i]? = some s := ⟨cl[i], by simp [hi]⟩
    rw [foldl_take putSn t cl hs]
    generalize (cl.take i).foldl putSn t = u at hq0 ⊢
    obtain ⟨q1, q2⟩ := hq0
    have e1 : ((i : Int) < (cl.length : Int)) = True := by simp only [eq_iff_iff, iff_true]; omega
    have e2 : (0 ≤ (i : Int)) = True := by simp
    have e3 : (encSs cl)[i]? = some (.agg [.int .i64 s.1, .int .i64 s.2.1, .int .i64 s.2.2]) := encSs_get hs
    have e4 : (encSs cl).length = cl.length := encSs_len _
    have e13 : IntKind.i64.wrap ((i : Int) + 1) = ((i + 1 : Nat) : Int) := by rw [wrap_id (by omega)]; omega
    unfold t_pastopen_l3
    by_cases c1 : 0 ≤ s.1
    · have d1 : decide (0 ≤ s.1) = true := by simpa using c1
      by_cases c2 : s.1 < 16
      · have d2 : decide (s.1 < 16) = true := by simpa using c2
        rw [putSn_in ⟨c1, c2⟩]
        obtain ⟨r, hr⟩ : ∃ r : Nat, s.1 = r := ⟨s.1.toNat, by omega⟩
        have hr16 : r < 16 := by omega
        have hru : r < u.length := by rw [q1]; exact hr16
        have e5 : (encT u)[r]? = some (.own 2 (encRs (u.getD r []))) := encT_get hru
        have e6 : ((encT u).set r .hole)[r]? = some .hole := encT_hole hru
        have e7 := encT_add hru s.2
        have e8 : (encRs (u.getD r [])).length = (u.getD r []).length := encRs_len _
        have hq := q2 r
        have hcl : (cl.take i).length ≤ cl.length := by rw [List.length_take]; omega
        have e9 : (((u.getD r []).length + 1) * 16 ≤ 70368744177664) = True := by simp only [eq_iff_iff, iff_true]; omega
        have e10 : ((u.getD r []).length + 1 ≤ 4611686018427387904) = True := by simp only [eq_iff_iff, iff_true]; omega
        have e11 : (encT u).length = 16 := by rw [encT_len, q1]
        have e12 : (r + 1 ≤ 16) = True := by simp only [eq_iff_iff, iff_true]; omega
        have e14 : ((r : Int) < ((16 : Nat) : Int)) = True := by simp only [eq_iff_iff, iff_true]; omega
        have e15 : (0 ≤ (r : Int)) = True := by simp
        rw [hr] at d1 d2 e3 ⊢
        rw [Int.toNat_natCast]
        (focus (have hF := (And.intro (And.intro @e1 (And.intro @e2 @e3)) (And.intro @e4 (And.intro @d1 @d2))); (repeat' (first | (with_reducible refine Nx.of ?_) | ((with_reducible apply toV); refine stV (k := ?_)) | ((with_reducible apply toG); refine stG (k := ?_); (with_reducible refine Nx.of ?_)) | ((with_reducible apply toG0); refine stG0 (k := ?_); (with_reducible refine Nx.of ?_)) | ((with_reducible apply toC); refine stC (k := ?_); (with_reducible refine Nx.of ?_)) | ((with_reducible apply toO); refine stO (k := ?_)) | ((with_reducible apply toX); refine stX (k := ?_)) | fail)); (all_goals clear hF)))
        ((with_reducible apply toW); refine stW (fun j => j == 8) (k := ?_))
        (focus (have hF := (And.intro (And.intro (And.intro (And.intro @e1 @e2) (And.intro @e3 @e4)) (And.intro (And.intro @d1 @d2) (And.intro @e5 (And.intro @e6 @e7)))) (And.intro (And.intro (And.intro @e8 @e9) (And.intro @e10 @e11)) (And.intro (And.intro @e12 @e13) (And.intro @e14 (And.intro @e15 @List.length_set.{0}))))); (repeat' (first | (with_reducible refine Nx.of ?_) | ((with_reducible apply toV); refine stV (k := ?_)) | ((with_reducible apply toG); refine stG (k := ?_); (with_reducible refine Nx.of ?_)) | ((with_reducible apply toG0); refine stG0 (k := ?_); (with_reducible refine Nx.of ?_)) | ((with_reducible apply toC); refine stC (k := ?_); (with_reducible refine Nx.of ?_)) | ((with_reducible apply toO); refine stO (k := ?_)) | ((with_reducible apply toX); refine stX (k := ?_)) | fail)); (all_goals clear hF)))
        exact Fin.next (Wk.toL _ _ ⟨rfl, rfl, rfl, rfl, rfl, rfl, rfl, trivial⟩ ⟨rfl, trivial⟩ ⟨rfl, no_of_stb h11, rfl, rfl, encSs_stb cl, rfl, rfl, trivial⟩ ⟨encT_no _ _, trivial⟩)
      · have d2 : decide (s.1 < 16) = false := by simpa using c2
        rw [putSn_out (by omega)]
        (focus (have hF := (And.intro (And.intro @e1 (And.intro @e2 @e3)) (And.intro (And.intro @e4 @d1) (And.intro @d2 @e13))); (repeat' (first | (with_reducible refine Nx.of ?_) | ((with_reducible apply toV); refine stV (k := ?_)) | ((with_reducible apply toG); refine stG (k := ?_); (with_reducible refine Nx.of ?_)) | ((with_reducible apply toG0); refine stG0 (k := ?_); (with_reducible refine Nx.of ?_)) | ((with_reducible apply toC); refine stC (k := ?_); (with_reducible refine Nx.of ?_)) | ((with_reducible apply toO); refine stO (k := ?_)) | ((with_reducible apply toX); refine stX (k := ?_)) | fail)); (all_goals clear hF)))
        exact Fin.next (Wk.toL _ _ ⟨rfl, rfl, rfl, rfl, rfl, rfl, rfl, trivial⟩ ⟨rfl, trivial⟩ ⟨rfl, no_of_stb h11, rfl, rfl, encSs_stb cl, rfl, rfl, trivial⟩ ⟨encT_no _ _, trivial⟩)
    · have d1 : decide (0 ≤ s.1) = false := by simpa using c1
      rw [putSn_out (by omega)]
      (focus (have hF := (And.intro (And.intro @e1 (And.intro @e2 @e3)) (And.intro @e4 (And.intro @d1 @e13))); (repeat' (first | (with_reducible refine Nx.of ?_) | ((with_reducible apply toV); refine stV (k := ?_)) | ((with_reducible apply toG); refine stG (k := ?_); (with_reducible refine Nx.of ?_)) | ((with_reducible apply toG0); refine stG0 (k := ?_); (with_reducible refine Nx.of ?_)) | ((with_reducible apply toC); refine stC (k := ?_); (with_reducible refine Nx.of ?_)) | ((with_reducible apply toO); refine stO (k := ?_)) | ((with_reducible apply toX); refine stX (k := ?_)) | fail)); (all_goals clear hF)))
      exact Fin.next (Wk.toL _ _ ⟨rfl, rfl, rfl, rfl, rfl, rfl, rfl, trivial⟩ ⟨rfl, trivial⟩ ⟨rfl, no_of_stb h11, rfl, rfl, encSs_stb cl, rfl, rfl, trivial⟩ ⟨encT_no _ _, trivial⟩)
  · have e1 : ((cl.length : Int) < (cl.length : Int)) = False := by simp
    have e3 : cl.take cl.length = cl := List.take_length
    rw [e3]
    unfold t_pastopen_l3
    (focus (have hF := @e1; (repeat' (first | (with_reducible refine Nx.of ?_) | ((with_reducible apply toV); refine stV (k := ?_)) | ((with_reducible apply toG); refine stG (k := ?_); (with_reducible refine Nx.of ?_)) | ((with_reducible apply toG0); refine stG0 (k := ?_); (with_reducible refine Nx.of ?_)) | ((with_reducible apply toC); refine stC (k := ?_); (with_reducible refine Nx.of ?_)) | ((with_reducible apply toO); refine stO (k := ?_)) | ((with_reducible apply toX); refine stX (k := ?_)) | fail)); (all_goals clear hF)))
    exact h
end Go.Proofs.Ytdmfjkhbodbgoaa.Avm

namespace Go.Proofs.Ytdmfjkhbodbgoaa.Avm
open Go.Proofs
def encTs (t : Tab) : List AVal := t.map fun l => .sl 2 (encRs l)
theorem encT_fz (M : Mem) (t : Tab) : (encT t).map (fzc allK M) = encTs t := by simp [encT, encTs, fzc]
theorem encTs_stb (t : Tab) : stbs (encTs t) = true := by
  refine stbs_of fun x hx => ?_
  obtain ⟨l, _, rfl⟩ := List.mem_map.1 hx
  exact encRs_stb l
theorem ev_pastopen (ps : List Pst) (hl : ps.length ≤ 1000000000) (hw : (ps.map wt).sum ≤ 900000000) : Ev (En Try.prog rfl).P 47 [.sl 2 (encPs ps)] (.ret (.sptr (encTs (openT ps)))) := by
  refine Ev.of_body it_pastopen (by simp) (Run.start ?_)
  unfold t_pastopen
  have e0 : (encPs ps).length = ps.length := encPs_len _
  (focus (have hF := @e0; (repeat' (first | (with_reducible refine Nx.of ?_) | ((with_reducible apply toV); refine stV (k := ?_)) | ((with_reducible apply toG); refine stG (k := ?_); (with_reducible refine Nx.of ?_)) | ((with_reducible apply toG0); refine stG0 (k := ?_); (with_reducible refine Nx.of ?_)) | ((with_reducible apply toC); refine stC (k := ?_); (with_reducible refine Nx.of ?_)) | ((with_reducible apply toO); refine stO (k := ?_)) | ((with_reducible apply toX); refine stX (k := ?_)) | fail)); (all_goals clear hF)))
  refine Run.wk (Wk.trans (Wk.own_cells (k := 10) (cs' := encT tab0) rfl rfl ?_) (Wk.toL [(3, .ptr 10 0), (11, .sl 2 (encPs ps)), (12, .int .i64 ps.length), (13, .int .i64 0)] [(10, .cells (encT tab0))] ⟨rfl, rfl, rfl, rfl, trivial⟩ ⟨rfl, trivial⟩ ⟨rfl, encPs_stb ps, rfl, rfl, trivial⟩ ⟨encT_no _ _, trivial⟩)) ?_
  · intro i x y hx hy
    have hx' : (List.replicate 16 AVal.nil)[i]? = some x := hx
    rw [List.getElem?_replicate] at hx'
    have hy' : (List.replicate 16 (AVal.own 2 []))[i]? = some y := hy
    rw [List.getElem?_replicate] at hy'
    split at hx'
    · rename_i h16
      rw [if_pos h16] at hy'
      cases hx'; cases hy'
      exact .inr ⟨rfl, 2, rfl⟩
    · cases hx'
  refine Run.range ps.length (fun i => ⟨tms [(3, .ptr 10 0), (11, .sl 2 (encPs ps)), (12, .int .i64 ps.length), (13, .int .i64 i)], mms [(10, .cells (encT ((ps.take i).foldl openOne tab0)))]⟩) (Wk.refl _ _) (fun i hi => ?_) ?_
  · have hq0 := TabLe.all tab0_le (ps.take i)
    obtain ⟨p, hp⟩ : ∃ p, ps[i]? = some p := ⟨ps[i], by simp [hi]⟩
    rw [foldl_take openOne tab0 ps hp]
    have hsum : ((ps.take i).map wt).sum + wt p ≤ (ps.map wt).sum := by
      have : ((ps.take (i + 1)).map wt).sum ≤ (ps.map wt).sum := by rw [List.map_take]; exact take_sum_le _
      rw [List.take_add_one, hp] at this
      simpa using this
    generalize (ps.take i).foldl openOne tab0 = u at hq0 ⊢
    generalize ((ps.take i).map wt).sum = m at hq0 hsum
    have hwt : wt p = p.vec.length + p.cloud.length := rfl
    have hv : p.vec.length ≤ 1000000000 := by omega
    have hc : p.cloud.length ≤ 1000000000 := by omega
    have e1 : ((i : Int) < (ps.length : Int)) = True := by simp only [eq_iff_iff, iff_true]; omega
    have e2 : (0 ≤ (i : Int)) = True := by simp
    have e3 : (encPs ps)[i]? = some (.agg [.sl 1 (encIs p.vec), .sl 3 (encSs p.cloud)]) := encPs_get hp
    have e4 : (encIs p.vec).length = p.vec.length := encIs_len _
    have e5 : (encSs p.cloud).length = p.cloud.length := encSs_len _
    have e13 : IntKind.i64.wrap ((i : Int) + 1) = ((i + 1 : Nat) : Int) := by rw [wrap_id (by omega)]; omega
    unfold t_pastopen_l1
    (focus (have hF := (And.intro (And.intro @e0 (And.intro @e1 @e2)) (And.intro @e3 (And.intro @e4 @e5))); (repeat' (first | (with_reducible refine Nx.of ?_) | ((with_reducible apply toV); refine stV (k := ?_)) | ((with_reducible apply toG); refine stG (k := ?_); (with_reducible refine Nx.of ?_)) | ((with_reducible apply toG0); refine stG0 (k := ?_); (with_reducible refine Nx.of ?_)) | ((with_reducible apply toC); refine stC (k := ?_); (with_reducible refine Nx.of ?_)) | ((with_reducible apply toO); refine stO (k := ?_)) | ((with_reducible apply toX); refine stX (k := ?_)) | fail)); (all_goals clear hF)))
    refine Run.wk (Wk.toL [(3, .ptr 10 0), (11, .sl 2 (encPs ps)), (12, .int .i64 ps.length), (13, .int .i64 i), (5, .ptr 5 0), (20, .int .i64 (min p.vec.length 16)), (21, .int .i64 0)] [(10, .cells (encT u)), (5, .cells [.sl 1 (encIs p.vec), .sl 3 (encSs p.cloud)])] ⟨rfl, rfl, rfl, rfl, rfl, rfl, rfl, trivial⟩ ⟨rfl, rfl, trivial⟩ ⟨rfl, encPs_stb ps, rfl, rfl, rfl, rfl, rfl, trivial⟩ ⟨encT_no _ _, by simp [ABlk.no, AVal.noC, AVal.no, AVal.stb, encIs_stb, encSs_stb], trivial⟩) ?_
    refine open_l2 (.sl 2 (encPs ps)) (encPs_stb ps) _ _ p hv u (n0 := 0 + m) hq0 (by omega) ?_
    (focus (have hF := (And.intro (And.intro @e0 (And.intro @e1 @e2)) (And.intro @e3 (And.intro @e4 @e5))); (repeat' (first | (with_reducible refine Nx.of ?_) | ((with_reducible apply toV); refine stV (k := ?_)) | ((with_reducible apply toG); refine stG (k := ?_); (with_reducible refine Nx.of ?_)) | ((with_reducible apply toG0); refine stG0 (k := ?_); (with_reducible refine Nx.of ?_)) | ((with_reducible apply toC); refine stC (k := ?_); (with_reducible refine Nx.of ?_)) | ((with_reducible apply toO); refine stO (k := ?_)) | ((with_reducible apply toX); refine stX (k := ?_)) | fail)); (all_goals clear hF)))
    refine Run.wk (Wk.toL [(3, .ptr 10 0), (11, .sl 2 (encPs ps)), (12, .int .i64 ps.length), (13, .int .i64 i), (43, .sl 3 (encSs p.cloud)), (44, .int .i64 p.cloud.length), (45, .int .i64 0)] [(10, .cells (encT (addVec p.vec u)))] ⟨rfl, rfl, rfl, rfl, rfl, rfl, rfl, trivial⟩ ⟨rfl, trivial⟩ ⟨rfl, encPs_stb ps, rfl, rfl, encSs_stb _, rfl, rfl, trivial⟩ ⟨encT_no _ _, trivial⟩) ?_
    refine open_l3 (.sl 2 (encPs ps)) (encPs_stb ps) _ _ p.cloud hc (addVec p.vec u) (n0 := 0 + m + min p.vec.length 16) (TabLe.range hq0 _) (by omega) ?_
    (focus (have hF := (And.intro (And.intro @e0 (And.intro @e1 @e2)) (And.intro (And.intro @e3 @e4) (And.intro @e5 @e13))); (repeat' (first | (with_reducible refine Nx.of ?_) | ((with_reducible apply toV); refine stV (k := ?_)) | ((with_reducible apply toG); refine stG (k := ?_); (with_reducible refine Nx.of ?_)) | ((with_reducible apply toG0); refine stG0 (k := ?_); (with_reducible refine Nx.of ?_)) | ((with_reducible apply toC); refine stC (k := ?_); (with_reducible refine Nx.of ?_)) | ((with_reducible apply toO); refine stO (k := ?_)) | ((with_reducible apply toX); refine stX (k := ?_)) | fail)); (all_goals clear hF)))
    exact Fin.next (Wk.toL _ _ ⟨rfl, rfl, rfl, rfl, trivial⟩ ⟨rfl, trivial⟩ ⟨rfl, encPs_stb ps, rfl, rfl, trivial⟩ ⟨encT_no _ _, trivial⟩)
  · have e1 : ((ps.length : Int) < (ps.length : Int)) = False := by simp
    have e3 : ps.take ps.length = ps := List.take_length
    rw [e3]
    unfold t_pastopen_l1
    (focus (have hF := (And.intro @e0 @e1); (repeat' (first | (with_reducible refine Nx.of ?_) | ((with_reducible apply toV); refine stV (k := ?_)) | ((with_reducible apply toG); refine stG (k := ?_); (with_reducible refine Nx.of ?_)) | ((with_reducible apply toG0); refine stG0 (k := ?_); (with_reducible refine Nx.of ?_)) | ((with_reducible apply toC); refine stC (k := ?_); (with_reducible refine Nx.of ?_)) | ((with_reducible apply toO); refine stO (k := ?_)) | ((with_reducible apply toX); refine stX (k := ?_)) | fail)); (all_goals clear hF)))
    refine Fin.tmp' ?_ (encTs_stb _)
    show AVal.sptr ((((encT (openT ps))).map (fzc allK _)).drop 0) = _
    rw [encT_fz]
    rfl
end Go.Proofs.Ytdmfjkhbodbgoaa.Avm

namespace Go.Proofs.Ytdmfjkhbodbgoaa.Avm
open Go.Proofs
def r_pastLast_1 : List SOp :=
  [⟨(some 2), (.box 25 (.tmp 0)), none⟩, ⟨(some 4), (.assign (.const (.int .i64 0))), none⟩]
instance : Live r_pastLast_1 := ⟨[0, 1]⟩
def r_pastLast_2 : List SOp :=
  [⟨(some 5), (.move (.tmp 1)), none⟩, ⟨(some 6), (.binOp .lss 3 (.tmp 5) (.const (.int .i64 0)) 3), none⟩, ⟨(some 7), (.move (.tmp 6)), none⟩, ⟨(some 8), (.move (.tmp 1)), (some ((some 7), false))⟩, ⟨(some 9), (.binOp .geq 3 (.tmp 8) (.const (.int .i64 16)) 3), (some ((some 7), false))⟩, ⟨(some 10), (.pick (.tmp 7) (.const (.bool true)) (.tmp 9)), none⟩]
instance : Live r_pastLast_2 := ⟨[1, 2]⟩
def r_pastLast_3 : List SOp :=
  [⟨(some 4), (.assign (.const (.int .i64 0))), none⟩]
instance : Live r_pastLast_3 := ⟨[]⟩
def r_pastLast_4 : List SOp :=
  [⟨(some 11), (.load 25 (.tmp 2)), none⟩, ⟨(some 12), (.buildSlice 51 1 #[(0, .tmp 11)]), none⟩, ⟨(some 13), (.call ⟨.value (.func 47), #[.tmp 12], #[51]⟩), none⟩, ⟨(some 14), (.move (.tmp 1)), none⟩, ⟨(some 15), (.nilCheck (.tmp 13)), none⟩, ⟨(some 16), (.indexAddr 70 (.tmp 15) (.tmp 14)), none⟩, ⟨(some 17), (.load 58 (.tmp 16)), none⟩, ⟨(some 18), (.call ⟨.value (.func 46), #[.tmp 17], #[58]⟩), none⟩, ⟨(some 4), (.assign (.tmp 18)), none⟩]
instance : Live r_pastLast_4 := ⟨[1, 2]⟩
def t_pastLast : SC :=
  (.seq (.ops false r_pastLast_1) (.seq (.seq (.ops false r_pastLast_2) (.cond (.tmp 10) (.seq (.ops false r_pastLast_3) .ret) .skip)) (.seq (.ops false r_pastLast_4) .ret)))
theorem it_pastLast : FnIs Try.prog 12 19 [.tmp 4] t_pastLast := ⟨Try.f12, _, Try.func12, rfl, rfl, rfl, rfl, by kernel_rfl⟩
end Go.Proofs.Ytdmfjkhbodbgoaa.Avm

namespace Go.Proofs.Ytdmfjkhbodbgoaa.Avm
open Go.Proofs
def lastP (p : Pst) (r : Int) : Int := if 0 ≤ r ∧ r < 16 then lastR ((openT [p]).getD r.toNat []) else 0
theorem lastP_in {p : Pst} {r : Int} (h : 0 ≤ r ∧ r < 16) : lastP p r = lastR ((openT [p]).getD r.toNat []) := if_pos h
theorem lastP_out {p : Pst} {r : Int} (h : ¬ (0 ≤ r ∧ r < 16)) : lastP p r = 0 := if_neg h
theorem openT_le (ps : List Pst) : TabLe (openT ps) (ps.map wt).sum := by
  have := TabLe.all tab0_le ps
  simpa [openT] using this
theorem encTs_get {t : Tab} {r : Nat} (h : r < t.length) : (encTs t)[r]? = some (.sl 2 (encRs (t.getD r []))) := by simp [encTs, h]
theorem encTs_len (t : Tab) : (encTs t).length = t.length := by simp [encTs]
theorem drop_head {α : Type} {l : List α} {i : Nat} {x : α} (h : l[i]? = some x) : (l.drop i)[0]? = some x := by simp [h]
theorem ev_pastLast (p : Pst) (r : Int) (hw : wt p ≤ 900000000) : Ev (En Try.prog rfl).P 12 [encP p, .int .i64 r] (.ret (.int .i64 (lastP p r))) := by
  refine Ev.of_body it_pastLast (by simp) (Run.start ?_)
  unfold t_pastLast encP
  by_cases c1 : r < 0
  · have d1 : decide (r < 0) = true := by simpa using c1
    rw [lastP_out (by omega)]
    (focus (have hF := @d1; (repeat' (first | (with_reducible refine Nx.of ?_) | ((with_reducible apply toV); refine stV (k := ?_)) | ((with_reducible apply toG); refine stG (k := ?_); (with_reducible refine Nx.of ?_)) | ((with_reducible apply toG0); refine stG0 (k := ?_); (with_reducible refine Nx.of ?_)) | ((with_reducible apply toC); refine stC (k := ?_); (with_reducible refine Nx.of ?_)) | ((with_reducible apply toO); refine stO (k := ?_)) | ((with_reducible apply toX); refine stX (k := ?_)) | fail)); (all_goals clear hF)))
    exact Fin.tmp' rfl rfl
  · have d1 : decide (r < 0) = false := by simpa using c1
    by_cases c2 : 16 ≤ r
    · have d2 : decide (16 ≤ r) = true := by simpa using c2
      rw [lastP_out (by omega)]
      (focus (have hF := (And.intro @d1 @d2); (repeat' (first | (with_reducible refine Nx.of ?_) | ((with_reducible apply toV); refine stV (k := ?_)) | ((with_reducible apply toG); refine stG (k := ?_); (with_reducible refine Nx.of ?_)) | ((with_reducible apply toG0); refine stG0 (k := ?_); (with_reducible refine Nx.of ?_)) | ((with_reducible apply toC); refine stC (k := ?_); (with_reducible refine Nx.of ?_)) | ((with_reducible apply toO); refine stO (k := ?_)) | ((with_reducible apply toX); refine stX (k := ?_)) | fail)); (all_goals clear hF)))
      exact Fin.tmp' rfl rfl
    · have d2 : decide (16 ≤ r) = false := by simpa using c2
      rw [lastP_in (by omega)]
      obtain ⟨k, hk⟩ : ∃ k : Nat, r = k := ⟨r.toNat, by omega⟩
      have hk16 : k < 16 := by omega
      rw [hk] at d1 d2 ⊢
      rw [Int.toNat_natCast]
      obtain ⟨q1, q2⟩ := openT_le [p]
      have hq := q2 k
      simp only [List.map_cons, List.map_nil, List.sum_cons, List.sum_nil] at hq
      have hku : k < (openT [p]).length := by rw [q1]; exact hk16
      have e1 : (encTs (openT [p])).length = 16 := by rw [encTs_len, q1]
      have e2 : ((k : Int) < ((16 : Nat) : Int)) = True := by simp only [eq_iff_iff, iff_true]; omega
      have e3 : (0 ≤ (k : Int)) = True := by simp
      have e4 := drop_head (encTs_get hku)
      have e5 : (k < 16) = True := by simp only [eq_iff_iff, iff_true]; omega
      (focus (have hF := (And.intro @d1 @d2); (repeat' (first | (with_reducible refine Nx.of ?_) | ((with_reducible apply toV); refine stV (k := ?_)) | ((with_reducible apply toG); refine stG (k := ?_); (with_reducible refine Nx.of ?_)) | ((with_reducible apply toG0); refine stG0 (k := ?_); (with_reducible refine Nx.of ?_)) | ((with_reducible apply toC); refine stC (k := ?_); (with_reducible refine Nx.of ?_)) | ((with_reducible apply toO); refine stO (k := ?_)) | ((with_reducible apply toX); refine stX (k := ?_)) | fail)); (all_goals clear hF)))
      refine awp_pure (l := [.sl 2 (encPs [p])]) rfl rfl (by simp [stbs, AVal.stb, encPs_stb]) (ev_pastopen [p] (by simp) (by simpa using hw)) ?_
      (focus (have hF := (And.intro (And.intro @d1 (And.intro @d2 @e1)) (And.intro (And.intro @e2 @e3) (And.intro @e4 @e5))); (repeat' (first | (with_reducible refine Nx.of ?_) | ((with_reducible apply toV); refine stV (k := ?_)) | ((with_reducible apply toG); refine stG (k := ?_); (with_reducible refine Nx.of ?_)) | ((with_reducible apply toG0); refine stG0 (k := ?_); (with_reducible refine Nx.of ?_)) | ((with_reducible apply toC); refine stC (k := ?_); (with_reducible refine Nx.of ?_)) | ((with_reducible apply toO); refine stO (k := ?_)) | ((with_reducible apply toX); refine stX (k := ?_)) | fail)); (all_goals clear hF)))
      refine awp_pure (l := [.sl 2 (encRs ((openT [p]).getD k []))]) rfl rfl (by simp [stbs, AVal.stb, encRs_stb]) (ev_spanLast _ (by omega)) ?_
      (focus (have hF := (And.intro @d1 @d2); (repeat' (first | (with_reducible refine Nx.of ?_) | ((with_reducible apply toV); refine stV (k := ?_)) | ((with_reducible apply toG); refine stG (k := ?_); (with_reducible refine Nx.of ?_)) | ((with_reducible apply toG0); refine stG0 (k := ?_); (with_reducible refine Nx.of ?_)) | ((with_reducible apply toC); refine stC (k := ?_); (with_reducible refine Nx.of ?_)) | ((with_reducible apply toO); refine stO (k := ?_)) | ((with_reducible apply toX); refine stX (k := ?_)) | fail)); (all_goals clear hF)))
      exact Fin.tmp' rfl rfl
end Go.Proofs.Ytdmfjkhbodbgoaa.Avm

namespace Go.Proofs.Ytdmfjkhbodbgoaa.Avm
open Go.Proofs
def r_pasttablepast_1 : List SOp :=
  [⟨(some 2), (.alloc 25), none⟩]
instance : Live r_pasttablepast_1 := ⟨[0]⟩
def r_pasttablepast_2 : List SOp :=
  [⟨(some 3), (.alloc 25), none⟩]
instance : Live r_pasttablepast_2 := ⟨[0, 2]⟩
def r_pasttablepast_3 : List SOp :=
  [⟨(some 11), (.makeSlice 22 (.const (.int .i64 16)) (.const (.int .i64 16))), none⟩, ⟨(some 4), (.assign (.tmp 11)), none⟩]
instance : Live r_pasttablepast_3 := ⟨[0, 2, 3]⟩
def r_pasttablepast_4 : List SOp :=
  [⟨(some 5), (.assign (.const (.int .i64 0))), none⟩]
instance : Live r_pasttablepast_4 := ⟨[0, 2, 3, 4]⟩
def r_pasttablepast_5 : List SOp :=
  [⟨(some 12), (.move (.const (.int .i64 0))), none⟩]
instance : Live r_pasttablepast_5 := ⟨[0, 2, 3, 4, 5]⟩
def r_pasttablepast_6 : List SOp :=
  [⟨(some 13), (.binOp .lss 3 (.tmp 12) (.const (.int .i64 16)) 3), none⟩]
instance : Live r_pasttablepast_6 := ⟨[0, 2, 3, 4, 5, 12]⟩
def r_pasttablepast_7 : List SOp :=
  [⟨(some 14), (.move (.tmp 12)), none⟩, ⟨(some 6), (.assign (.tmp 14)), none⟩]
instance : Live r_pasttablepast_7 := ⟨[0, 2, 3, 4, 5, 12]⟩
def r_pasttablepast_8 : List SOp :=
  [⟨(some 16), (.move (.tmp 0)), none⟩, ⟨(some 17), (.move (.tmp 6)), none⟩, ⟨(some 18), (.nilCheck (.tmp 16)), none⟩, ⟨(some 19), (.indexAddr 70 (.tmp 18) (.tmp 17)), none⟩, ⟨(some 20), (.load 58 (.tmp 19)), none⟩, ⟨(some 21), (.call ⟨.value (.func 90), #[.tmp 20], #[58]⟩), none⟩, ⟨(some 15), (.move (.tmp 21)), none⟩, ⟨(some 22), (.extract (.tmp 15) 0), none⟩, ⟨(some 23), (.extract (.tmp 15) 1), none⟩, ⟨(some 7), (.assign (.tmp 22)), none⟩, ⟨(some 8), (.assign (.tmp 23)), none⟩]
instance : Live r_pasttablepast_8 := ⟨[0, 2, 3, 4, 5, 6, 12]⟩
def r_pasttablepast_9 : List SOp :=
  [⟨(some 24), (.move (.tmp 4)), none⟩, ⟨(some 25), (.move (.tmp 6)), none⟩, ⟨(some 26), (.move (.tmp 7)), none⟩, ⟨(some 27), (.indexAddr 22 (.tmp 24) (.tmp 25)), none⟩, ⟨none, (.store 3 (.tmp 27) (.tmp 26)), none⟩]
instance : Live r_pasttablepast_9 := ⟨[0, 2, 3, 4, 5, 6, 7, 8, 12]⟩
def r_pasttablepast_10 : List SOp :=
  [⟨(some 28), (.move (.tmp 7)), none⟩, ⟨(some 29), (.binOp .gtr 3 (.tmp 28) (.const (.int .i64 0)) 3), none⟩]
instance : Live r_pasttablepast_10 := ⟨[0, 2, 3, 4, 5, 6, 7, 8, 12]⟩
def r_pasttablepast_11 : List SOp :=
  [⟨(some 30), (.move (.tmp 6)), none⟩, ⟨(some 31), (.binOp .add 3 (.tmp 30) (.const (.int .i64 1)) 3), none⟩, ⟨(some 5), (.assign (.tmp 31)), none⟩]
instance : Live r_pasttablepast_11 := ⟨[0, 2, 3, 4, 6, 8, 12]⟩
def r_pasttablepast_12 : List SOp :=
  [⟨(some 32), (.move (.tmp 8)), none⟩, ⟨(some 33), (.call ⟨.builtin .len, #[.tmp 32], #[58]⟩), none⟩, ⟨(some 34), (.move (.const (.int .i64 0))), none⟩]
instance : Live r_pasttablepast_12 := ⟨[0, 2, 3, 4, 5, 6, 8, 12]⟩
def r_pasttablepast_13 : List SOp :=
  [⟨(some 35), (.binOp .lss 3 (.tmp 34) (.tmp 33) 3), none⟩]
instance : Live r_pasttablepast_13 := ⟨[0, 2, 3, 4, 5, 6, 12, 32, 33, 34]⟩
def r_pasttablepast_14 : List SOp :=
  [⟨(some 36), (.indexAddr 58 (.tmp 32) (.tmp 34)), none⟩, ⟨(some 37), (.load 73 (.tmp 36)), none⟩, ⟨(some 10), (.alloc 73), none⟩, ⟨none, (.store 73 (.tmp 10) (.tmp 37)), none⟩]
instance : Live r_pasttablepast_14 := ⟨[0, 2, 3, 4, 5, 6, 12, 32, 33, 34]⟩
def r_pasttablepast_15 : List SOp :=
  [⟨(some 38), (.fieldAddr 25 (.tmp 3) 1), none⟩, ⟨(some 39), (.load 23 (.tmp 38)), none⟩, ⟨(some 40), (.move (.tmp 6)), none⟩, ⟨(some 41), (.fieldAddr 73 (.tmp 10) 0), none⟩, ⟨(some 42), (.load 3 (.tmp 41)), none⟩, ⟨(some 43), (.fieldAddr 73 (.tmp 10) 1), none⟩, ⟨(some 44), (.load 3 (.tmp 43)), none⟩, ⟨(some 45), (.build 41 #[(0, .tmp 40), (1, .tmp 42), (2, .tmp 44)]), none⟩, ⟨(some 46), (.buildSlice 23 1 #[(0, .tmp 45)]), none⟩, ⟨(some 47), (.call ⟨.builtin .append, #[.tmp 39, .tmp 46], #[23, 23]⟩), none⟩, ⟨(some 48), (.fieldAddr 25 (.tmp 3) 1), none⟩, ⟨none, (.store 23 (.tmp 48) (.tmp 47)), none⟩]
instance : Live r_pasttablepast_15 := ⟨[0, 2, 3, 4, 5, 6, 10, 12, 32, 33, 34]⟩
def r_pasttablepast_16 : List SOp :=
  [⟨(some 49), (.binOp .add 3 (.tmp 34) (.const (.int .i64 1)) 3), none⟩, ⟨(some 34), (.move (.tmp 49)), none⟩]
instance : Live r_pasttablepast_16 := ⟨[0, 2, 3, 4, 5, 6, 12, 32, 33, 34]⟩
def r_pasttablepast_17 : List SOp :=
  [⟨(some 50), (.binOp .add 3 (.tmp 12) (.const (.int .i64 1)) 3), none⟩, ⟨(some 12), (.move (.tmp 50)), none⟩]
instance : Live r_pasttablepast_17 := ⟨[0, 2, 3, 4, 5, 12]⟩
def r_pasttablepast_18 : List SOp :=
  [⟨(some 51), (.move (.tmp 5)), none⟩, ⟨(some 52), (.binOp .gtr 3 (.tmp 51) (.const (.int .i64 0)) 3), none⟩]
instance : Live r_pasttablepast_18 := ⟨[2, 3, 4, 5]⟩
def r_pasttablepast_19 : List SOp :=
  [⟨(some 53), (.move (.tmp 4)), none⟩, ⟨(some 54), (.move (.tmp 5)), none⟩, ⟨(some 55), (.slice 22 (.tmp 53) none (some (.tmp 54)) none), none⟩, ⟨(some 56), (.call ⟨.value (.func 91), #[.tmp 55], #[22]⟩), none⟩, ⟨(some 57), (.fieldAddr 25 (.tmp 3) 0), none⟩, ⟨none, (.store 22 (.tmp 57) (.tmp 56)), none⟩]
instance : Live r_pasttablepast_19 := ⟨[2, 3, 4, 5]⟩
def r_pasttablepast_20 : List SOp :=
  [⟨(some 58), (.load 25 (.tmp 3)), none⟩, ⟨none, (.store 25 (.tmp 2) (.tmp 58)), none⟩]
instance : Live r_pasttablepast_20 := ⟨[2, 3]⟩
def t_pasttablepast_l2 : SC :=
  (.seq (.ops false r_pasttablepast_13) (.seq (.cond (.tmp 35) .skip (.exit 2)) (.seq (.block 3 (.seq (.ops false r_pasttablepast_14) (.ops false r_pasttablepast_15))) (.ops false r_pasttablepast_16))))
def t_pasttablepast_l1 : SC :=
  (.seq (.ops false r_pasttablepast_6) (.seq (.cond (.tmp 13) .skip (.exit 0)) (.seq (.block 1 (.seq (.ops false r_pasttablepast_7) (.seq (.ops false r_pasttablepast_8) (.seq (.ops false r_pasttablepast_9) (.seq (.seq (.ops false r_pasttablepast_10) (.cond (.tmp 29) (.ops false r_pasttablepast_11) .skip)) (.seq (.ops false r_pasttablepast_12) (.block 2 (.loop t_pasttablepast_l2)))))))) (.ops false r_pasttablepast_17))))
def t_pasttablepast : SC :=
  (.seq (.ops false r_pasttablepast_1) (.seq (.ops false r_pasttablepast_2) (.seq (.ops false r_pasttablepast_3) (.seq (.ops false r_pasttablepast_4) (.seq (.seq (.ops false r_pasttablepast_5) (.block 0 (.loop t_pasttablepast_l1))) (.seq (.seq (.ops false r_pasttablepast_18) (.cond (.tmp 52) (.ops false r_pasttablepast_19) .skip)) (.seq (.ops false r_pasttablepast_20) .ret)))))))
theorem it_pasttablepast : FnIs Try.prog 52 59 [.cell 2 25] t_pasttablepast := ⟨Try.f52, _, Try.func52, rfl, rfl, rfl, rfl, by kernel_rfl⟩
end Go.Proofs.Ytdmfjkhbodbgoaa.Avm

namespace Go.Proofs.Ytdmfjkhbodbgoaa.Avm
open Go.Proofs
theorem ev_spanLead (l : List Rn) (hl : l.length ≤ 900000000) : Ev (En Try.prog rfl).P 90 [.sl 2 (encRs l)] (.ret (.tup [.int .i64 (leadOf (normR l)).1, .sl 2 (encRs (leadOf (normR l)).2)])) :=
  ev_spanLead_of l (normR l) (by have := normR_len l; omega) (ev_spanNorm l hl)
def leadT (t : Tab) (r : Nat) : Int := (leadOf (normR (t.getD r []))).1
def restT (t : Tab) (r : Nat) : List Rn := (leadOf (normR (t.getD r []))).2
def spanOf (r : Nat) (x : Rn) : Sn := ((r : Int), x.1, x.2)
def cloudRow (t : Tab) (r : Nat) : List Sn := (restT t r).map (spanOf r)
def cloudT (t : Tab) (n : Nat) : List Sn := (List.range n).flatMap (cloudRow t)
def sizeT (t : Tab) (n : Nat) : Nat := (List.range n).foldl (fun a r => if 0 < leadT t r then r + 1 else a) 0
def leadsT (t : Tab) (n : Nat) : List Int := (List.range n).map (leadT t)
def vecU (t : Tab) (n : Nat) : List Int := leadsT t n ++ List.replicate (16 - n) 0
def pastT (t : Tab) : Pst := ⟨(leadsT t 16).take (sizeT t 16), cloudT t 16⟩
theorem leadOf_len (l : List Rn) : (leadOf l).2.length ≤ l.length := by
  cases l with
  | nil => simp [leadOf]
  | cons x l => simp only [leadOf]; split <;> simp
theorem restT_len {t : Tab} {n : Nat} (h : TabLe t n) (r : Nat) : (restT t r).length ≤ n := by
  have h1 := leadOf_len (normR (t.getD r []))
  have h2 := normR_len (t.getD r [])
  have h3 := h.2 r
  unfold restT
  omega
theorem cloudT_succ (t : Tab) (n : Nat) : cloudT t (n + 1) = cloudT t n ++ cloudRow t n := by
  unfold cloudT
  rw [List.range_succ, List.flatMap_append]
  simp
theorem cloudT_len {t : Tab} {n : Nat} (h : TabLe t n) : ∀ m, (cloudT t m).length ≤ m * n
  | 0 => by simp [cloudT]
  | m + 1 => by
    rw [cloudT_succ, List.length_append, Nat.succ_mul]
    have h1 := cloudT_len h m
    have h2 := restT_len h m
    simp only [cloudRow, List.length_map]
    omega
theorem sizeT_succ (t : Tab) (n : Nat) : sizeT t (n + 1) = if 0 < leadT t n then n + 1 else sizeT t n := by
  unfold sizeT
  rw [List.range_succ, List.foldl_append]
  rfl
theorem sizeT_le (t : Tab) : ∀ n, sizeT t n ≤ n
  | 0 => Nat.le_refl _
  | n + 1 => by rw [sizeT_succ]; split; omega; have := sizeT_le t n; omega
theorem leadsT_succ (t : Tab) (n : Nat) : leadsT t (n + 1) = leadsT t n ++ [leadT t n] := by
  unfold leadsT
  rw [List.range_succ, List.map_append]
  rfl
theorem leadsT_len (t : Tab) (n : Nat) : (leadsT t n).length = n := by simp [leadsT]
theorem vecU_len (t : Tab) {n : Nat} (h : n ≤ 16) : (vecU t n).length = 16 := by
  simp [vecU, leadsT_len]; omega
theorem vecU_get (t : Tab) {n : Nat} (h : n < 16) : (encIs (vecU t n))[n]? = some (.int .i64 0) := by
  refine encIs_get ?_
  unfold vecU
  rw [List.getElem?_append_right (by rw [leadsT_len]; exact Nat.le_refl _), leadsT_len, Nat.sub_self, List.getElem?_replicate, if_pos (by omega)]
theorem vecU_set (t : Tab) {n : Nat} (h : n < 16) : (encIs (vecU t n)).set n (.int .i64 (leadT t n)) = encIs (vecU t (n + 1)) := by
  have e : (vecU t n).set n (leadT t n) = vecU t (n + 1) := by
    unfold vecU
    rw [List.set_append_right _ _ (by rw [leadsT_len]; exact Nat.le_refl _), leadsT_len, Nat.sub_self, show 16 - n = (16 - (n + 1)) + 1 by omega, List.replicate_succ, List.set_cons_zero, leadsT_succ, List.append_assoc]
    rfl
  rw [← e]
  simp [encIs, encI, List.map_set]
theorem encSs_snoc (l : List Sn) (a b c : Int) : encSs l ++ [.agg [.int .i64 a, .int .i64 b, .int .i64 c]] = encSs (l ++ [(a, b, c)]) := by simp [encSs, encS]
def rowC (t : Tab) (r c : Nat) : List Sn := cloudT t r ++ ((restT t r).take c).map (spanOf r)
theorem rowC_zero (t : Tab) (r : Nat) : rowC t r 0 = cloudT t r := by simp [rowC]
theorem rowC_succ {t : Tab} {r c : Nat} {x : Rn} (hx : (restT t r)[c]? = some x) : rowC t r (c + 1) = rowC t r c ++ [((r : Int), x.1, x.2)] := by
  unfold rowC
  rw [List.take_add_one, hx]
  simp [spanOf]
theorem rowC_all (t : Tab) (r : Nat) : rowC t r (restT t r).length = cloudT t (r + 1) := by
  unfold rowC
  rw [cloudT_succ, List.take_length]
  rfl
theorem rowC_len (t : Tab) (r c : Nat) : (rowC t r c).length ≤ (cloudT t r).length + (restT t r).length := by
  simp only [rowC, List.length_append, List.length_map, List.length_take]
  omega
theorem ev_pasttablepast (t : Tab) {n : Nat} (ht : TabLe t n) (hn : n ≤ 50000000) : Ev (En Try.prog rfl).P 52 [.sptr (encTs t)] (.ret (encP (pastT t))) := by
  refine Ev.of_body it_pasttablepast (by simp) (Run.start ?_)
  unfold t_pasttablepast
  have h16 : (encTs t).length = 16 := by rw [encTs_len, ht.1]
  (focus (have hF := @h16; (repeat' (first | (with_reducible refine Nx.of ?_) | ((with_reducible apply toV); refine stV (k := ?_)) | ((with_reducible apply toG); refine stG (k := ?_)) | ((with_reducible apply toG0); refine stG0 (k := ?_)) | ((with_reducible apply toC); refine stC (k := ?_)) | ((with_reducible apply toO); refine stO (k := ?_)) | ((with_reducible apply toX); refine stX (k := ?_)) | (with_reducible refine Ny.of ?_ ?_) | (refine Hyp.of ?_; intro hc; (try simp only [hc]); (try simp only [Bh] at hc)) | fail)); (all_goals clear hF)))
  refine Run.wk (Wk.own_cells (k := 3) (cs' := [.own 1 [], .own 3 []]) rfl rfl ?_) ?_
  · intro i x y hx hy
    match i with
    | 0 => simp at hx hy; subst hx; subst hy; exact .inr ⟨rfl, 1, rfl⟩
    | 1 => simp at hx hy; subst hx; subst hy; exact .inr ⟨rfl, 3, rfl⟩
    | i + 2 => simp at hx
  refine Run.while (σ := Nat) (fun r => ⟨tms [(0, .sptr (encTs t)), (2, .ptr 2 0), (3, .ptr 3 0), (4, .os 11 0), (5, .int .i64 (sizeT t r)), (12, .int .i64 r)], mms [(2, .cells [.nil, .nil]), (3, .cells [.own 1 [], .own 3 (encSs (cloudT t r))]), (11, .arr 0 1 (encIs (vecU t r)))]⟩)
    (fun r => r ≤ 16) (fun r => 16 - r) 0 (have hW := @encTs_stb; stWk) (Nat.zero_le _) ?_
  intro r hr
  have g0 : (encIs (vecU t r)).length = 16 := by rw [encIs_len, vecU_len t hr]
  have hsz := sizeT_le t r
  unfold t_pasttablepast_l1
  by_cases hlt : r < 16
  · have hrt : r < t.length := by rw [ht.1]; exact hlt
    have hq := ht.2 r
    have g1 := drop_head (encTs_get hrt)
    have g2 := vecU_get t hlt
    have g3 := vecU_set t hlt
    have hcall := ev_spanLead (t.getD r []) (by omega)
    have hrl := restT_len ht r
    have hcl := cloudT_len ht r
    have hcl2 : r * n ≤ 16 * n := Nat.mul_le_mul_right n hr
    have g4 := encRs_len (restT t r)
    have hs1 := sizeT_succ t r
    change Ev _ _ _ (.ret (.tup [.int .i64 (leadT t r), .sl 2 (encRs (restT t r))])) at hcall
    (focus (have hF := (And.intro (And.intro @h16 @g0) (And.intro @g1 @g2)); (repeat' (first | (with_reducible refine Nx.of ?_) | ((with_reducible apply toV); refine stV (k := ?_)) | ((with_reducible apply toG); refine stG (k := ?_)) | ((with_reducible apply toG0); refine stG0 (k := ?_)) | ((with_reducible apply toC); refine stC (k := ?_)) | ((with_reducible apply toO); refine stO (k := ?_)) | ((with_reducible apply toX); refine stX (k := ?_)) | (with_reducible refine Ny.of ?_ ?_) | (refine Hyp.of ?_; intro hc; (try simp only [hc]); (try simp only [Bh] at hc)) | fail)); (all_goals clear hF)))
    refine stCall [.sl 2 (encRs (t.getD r []))] (he := hcall) (k := ?_)
    (focus (have hF := (And.intro (And.intro @h16 (And.intro @g0 @g1)) (And.intro @g2 (And.intro @g3 @g4))); (repeat' (first | (with_reducible refine Nx.of ?_) | ((with_reducible apply toV); refine stV (k := ?_)) | ((with_reducible apply toG); refine stG (k := ?_)) | ((with_reducible apply toG0); refine stG0 (k := ?_)) | ((with_reducible apply toC); refine stC (k := ?_)) | ((with_reducible apply toO); refine stO (k := ?_)) | ((with_reducible apply toX); refine stX (k := ?_)) | (with_reducible refine Ny.of ?_ ?_) | (refine Hyp.of ?_; intro hc; (try simp only [hc]); (try simp only [Bh] at hc)) | fail)); (all_goals clear hF)))
    all_goals
      refine Run.while (σ := Nat) (fun c => ⟨tms [(0, .sptr (encTs t)), (2, .ptr 2 0), (3, .ptr 3 0), (4, .os 11 0), (5, .int .i64 (sizeT t (r + 1))), (6, .int .i64 r), (12, .int .i64 r), (32, .sl 2 (encRs (restT t r))), (33, .int .i64 (restT t r).length), (34, .int .i64 c)], mms [(2, .cells [.nil, .nil]), (3, .cells [.own 1 [], .own 3 (encSs (rowC t r c))]), (11, .arr 0 1 (encIs (vecU t (r + 1))))]⟩)
        (fun c => c ≤ (restT t r).length) (fun c => (restT t r).length - c) 0 (have hW := (And.intro (And.intro @encTs_stb @hs1) (And.intro @hc (And.intro @g3 @rowC_zero))); stWk) (Nat.zero_le _) ?_
      intro c hcc
      unfold t_pasttablepast_l2
      by_cases hclt : c < (restT t r).length
      · obtain ⟨x, hx⟩ : ∃ x, (restT t r)[c]? = some x := ⟨(restT t r)[c], by simp [hclt]⟩
        have k1 : (encRs (restT t r))[c]? = some (.agg [.int .i64 x.1, .int .i64 x.2]) := encRs_get hx
        have hnx := rowC_succ hx
        have hcl3 := rowC_len t r c
        generalize rowC t r c = cl at hnx hcl3 ⊢
        have k2 := encSs_len cl
        (focus (have hF := (And.intro (And.intro @g4 @k1) (And.intro @k2 @encSs_snoc)); (repeat' (first | (with_reducible refine Nx.of ?_) | ((with_reducible apply toV); refine stV (k := ?_)) | ((with_reducible apply toG); refine stG (k := ?_)) | ((with_reducible apply toG0); refine stG0 (k := ?_)) | ((with_reducible apply toC); refine stC (k := ?_)) | ((with_reducible apply toO); refine stO (k := ?_)) | ((with_reducible apply toX); refine stX (k := ?_)) | (with_reducible refine Ny.of ?_ ?_) | (refine Hyp.of ?_; intro hc; (try simp only [hc]); (try simp only [Bh] at hc)) | fail)); (all_goals clear hF)))
        (refine Fin.nextW (c + 1) ?_ (have hW := (And.intro @hnx @encTs_stb); stWk); (try dsimp only))
        omega
      · rw [show c = (restT t r).length by omega, rowC_all]
        (focus (have hF := @g4; (repeat' (first | (with_reducible refine Nx.of ?_) | ((with_reducible apply toV); refine stV (k := ?_)) | ((with_reducible apply toG); refine stG (k := ?_)) | ((with_reducible apply toG0); refine stG0 (k := ?_)) | ((with_reducible apply toC); refine stC (k := ?_)) | ((with_reducible apply toO); refine stO (k := ?_)) | ((with_reducible apply toX); refine stX (k := ?_)) | (with_reducible refine Ny.of ?_ ?_) | (refine Hyp.of ?_; intro hc; (try simp only [hc]); (try simp only [Bh] at hc)) | fail)); (all_goals clear hF)))
        (refine Fin.nextW (r + 1) ?_ (have hW := @encTs_stb; stWk); (try dsimp only))
        omega
  · have hre : r = 16 := by omega
    subst hre
    have hv : vecU t 16 = leadsT t 16 := by simp [vecU]
    rw [hv] at g0 ⊢
    have hll := leadsT_len t 16
    have hlz : ((leadsT t 16).take (sizeT t 16)).length ≤ 16 := by rw [List.length_take]; omega
    have hres : pastT t = ⟨(leadsT t 16).take (sizeT t 16), cloudT t 16⟩ := rfl
    rw [hres]
    have hz : ¬ (0 < (sizeT t 16 : Int)) → (leadsT t 16).take (sizeT t 16) = [] := fun h => by rw [show sizeT t 16 = 0 by omega]; rfl
    refine Run.wk (Wk.freeze (k := 3) (cs := [.own 1 [], .own 3 (encSs (cloudT t 16))]) rfl) ?_
    refine Run.wk (s' := ⟨tms [(0, .sptr (encTs t)), (2, .ptr 2 0), (3, .ptr 3 0), (4, .os 11 0), (5, .int .i64 (sizeT t 16)), (12, .int .i64 16)], mms [(2, .cells [.nil, .nil]), (3, .cells [.sl 1 [], .sl 3 (encSs (cloudT t 16))]), (11, .arr 0 1 (encIs (leadsT t 16)))]⟩) (have hW := @encTs_stb; stWk) ?_
    (focus (have hF := (And.intro @g0 @encIs_take); (repeat' (first | (with_reducible refine Nx.of ?_) | ((with_reducible apply toV); refine stV (k := ?_)) | ((with_reducible apply toG); refine stG (k := ?_)) | ((with_reducible apply toG0); refine stG0 (k := ?_)) | ((with_reducible apply toC); refine stC (k := ?_)) | ((with_reducible apply toO); refine stO (k := ?_)) | ((with_reducible apply toX); refine stX (k := ?_)) | (with_reducible refine Ny.of ?_ ?_) | (refine Hyp.of ?_; intro hc; (try simp only [hc]); (try simp only [Bh] at hc)) | fail)); (all_goals clear hF)))
    · refine stCall [.sl 1 (encIs ((leadsT t 16).take (sizeT t 16)))] (he := ev_slicesCloneintint _ (by omega)) (k := ?_)
      (focus (have hF := @g0; (repeat' (first | (with_reducible refine Nx.of ?_) | ((with_reducible apply toV); refine stV (k := ?_)) | ((with_reducible apply toG); refine stG (k := ?_)) | ((with_reducible apply toG0); refine stG0 (k := ?_)) | ((with_reducible apply toC); refine stC (k := ?_)) | ((with_reducible apply toO); refine stO (k := ?_)) | ((with_reducible apply toX); refine stX (k := ?_)) | (with_reducible refine Ny.of ?_ ?_) | (refine Hyp.of ?_; intro hc; (try simp only [hc]); (try simp only [Bh] at hc)) | fail)); (all_goals clear hF)))
      exact Fin.all rfl (by simp [stbs, AVal.stb, encIs_stb, encSs_stb, fzc, allK]) rfl
    · have := hz hc
      rw [this]
      exact Fin.all rfl (by simp [stbs, AVal.stb, encIs_stb, encSs_stb, fzc, allK]) rfl
end Go.Proofs.Ytdmfjkhbodbgoaa.Avm

namespace Go.Proofs.Ytdmfjkhbodbgoaa.Avm
open Go.Proofs
def r_ref04one_1 : List SOp :=
  [⟨(some 1), (.box 25 (.tmp 0)), none⟩, ⟨(some 2), (.alloc 84), none⟩]
instance : Live r_ref04one_1 := ⟨[0]⟩
def r_ref04one_2 : List SOp :=
  [⟨(some 3), (.load 25 (.tmp 1)), none⟩, ⟨(some 4), (.buildSlice 51 1 #[(0, .tmp 3)]), none⟩, ⟨(some 5), (.call ⟨.value (.func 74), #[.tmp 4], #[51]⟩), none⟩, ⟨none, (.store 84 (.tmp 2) (.tmp 5)), none⟩]
instance : Live r_ref04one_2 := ⟨[1, 2]⟩
def t_ref04one : SC :=
  (.seq (.ops false r_ref04one_1) (.seq (.ops false r_ref04one_2) .ret))
theorem it_ref04one : FnIs Try.prog 72 6 [.cell 2 84] t_ref04one := ⟨Try.f72, _, Try.func72, rfl, rfl, rfl, rfl, by kernel_rfl⟩
end Go.Proofs.Ytdmfjkhbodbgoaa.Avm

namespace Go.Proofs.Ytdmfjkhbodbgoaa.Avm
open Go.Proofs
def encSet (t : List (List Int)) : List AVal := t.map fun l => .sl 1 (encIs l)
theorem encSet_stb (t : List (List Int)) : stbs (encSet t) = true := by
  refine stbs_of fun x hx => ?_
  obtain ⟨l, _, rfl⟩ := List.mem_map.1 hx
  exact encIs_stb l
theorem encSet_one (t : List (List Int)) : (encSet t).all AVal.one = true := by
  rw [List.all_eq_true]
  intro x hx
  obtain ⟨l, _, rfl⟩ := List.mem_map.1 hx
  rfl
theorem encSet_fz (M : Mem) (t : List (List Int)) : (encSet t).map (fzc allK M) = encSet t := by
  simp [encSet, fzc]
theorem ev_ref04one_of (p : Pst) (t : List (List Int)) (ht : t.length = 16) (hM : Ev (En Try.prog rfl).P 74 [.sl 2 (encPs [p])] (.ret (.agg (encSet t)))) : Ev (En Try.prog rfl).P 72 [encP p] (.ret (.agg (encSet t))) := by
  refine Ev.of_body it_ref04one (by simp) (Run.start ?_)
  have hpx : encP p = .agg [.sl 1 (encIs p.vec), .sl 3 (encSs p.cloud)] := rfl
  have e0 : (encSet t).length = 16 := by simp [encSet, ht]
  have e1 := encSet_one t
  unfold t_ref04one
  rw [hpx]
  (focus (have hF := True.intro; (repeat' (first | (with_reducible refine Nx.of ?_) | ((with_reducible apply toV); refine stV (k := ?_)) | ((with_reducible apply toG); refine stG (k := ?_); (with_reducible refine Nx.of ?_)) | ((with_reducible apply toG0); refine stG0 (k := ?_); (with_reducible refine Nx.of ?_)) | ((with_reducible apply toC); refine stC (k := ?_); (with_reducible refine Nx.of ?_)) | ((with_reducible apply toO); refine stO (k := ?_)) | ((with_reducible apply toX); refine stX (k := ?_)) | fail)); (all_goals clear hF)))
  refine awp_pure (l := [.sl 2 (encPs [p])]) rfl rfl (by simp [stbs, AVal.stb, encPs_stb]) hM ?_
  (focus (have hF := (And.intro @e0 @e1); (repeat' (first | (with_reducible refine Nx.of ?_) | ((with_reducible apply toV); refine stV (k := ?_)) | ((with_reducible apply toG); refine stG (k := ?_); (with_reducible refine Nx.of ?_)) | ((with_reducible apply toG0); refine stG0 (k := ?_); (with_reducible refine Nx.of ?_)) | ((with_reducible apply toC); refine stC (k := ?_); (with_reducible refine Nx.of ?_)) | ((with_reducible apply toO); refine stO (k := ?_)) | ((with_reducible apply toX); refine stX (k := ?_)) | fail)); (all_goals clear hF)))
  refine Fin.all (xs := [.agg (encSet t)]) ?_ (by simp [stbs, AVal.stb, encSet_stb]) rfl
  have htk : (encSet t).take 16 = encSet t := List.take_of_length_le (by omega)
  simp [resAll, resOne, En_TE, TE_84, TD.isAgg, upd, tms, mms, e0, htk, encSet_fz]
end Go.Proofs.Ytdmfjkhbodbgoaa.Avm

namespace Go.Proofs.Ytdmfjkhbodbgoaa.Avm
open Go.Proofs
def r_ref04Mean_1 : List SOp :=
  [⟨(some 2), (.alloc 84), none⟩]
instance : Live r_ref04Mean_1 := ⟨[0]⟩
def r_ref04Mean_2 : List SOp :=
  [⟨(some 3), (.alloc 82), none⟩, ⟨(some 4), (.alloc 82), none⟩]
instance : Live r_ref04Mean_2 := ⟨[0, 2]⟩
def r_ref04Mean_3 : List SOp :=
  [⟨(some 5), (.assign (.const (.int .i64 0))), none⟩]
instance : Live r_ref04Mean_3 := ⟨[0, 2, 3, 4]⟩
def r_ref04Mean_4 : List SOp :=
  [⟨(some 11), (.move (.tmp 5)), none⟩, ⟨(some 12), (.move (.tmp 0)), none⟩, ⟨(some 13), (.call ⟨.builtin .len, #[.tmp 12], #[51]⟩), none⟩, ⟨(some 14), (.binOp .lss 3 (.tmp 11) (.tmp 13) 3), none⟩]
instance : Live r_ref04Mean_4 := ⟨[0, 2, 3, 4, 5]⟩
def r_ref04Mean_5 : List SOp :=
  [⟨(some 6), (.assign (.const (.int .i64 0))), none⟩]
instance : Live r_ref04Mean_5 := ⟨[0, 2, 3, 4, 5]⟩
def r_ref04Mean_6 : List SOp :=
  [⟨(some 17), (.move (.tmp 6)), none⟩, ⟨(some 18), (.move (.tmp 0)), none⟩, ⟨(some 19), (.move (.tmp 5)), none⟩, ⟨(some 20), (.indexAddr 51 (.tmp 18) (.tmp 19)), none⟩, ⟨(some 21), (.fieldAddr 25 (.tmp 20) 0), none⟩, ⟨(some 22), (.load 22 (.tmp 21)), none⟩, ⟨(some 23), (.call ⟨.builtin .len, #[.tmp 22], #[22]⟩), none⟩, ⟨(some 24), (.binOp .lss 3 (.tmp 17) (.tmp 23) 3), none⟩, ⟨(some 25), (.move (.tmp 24)), none⟩, ⟨(some 26), (.move (.tmp 6)), (some ((some 25), true))⟩, ⟨(some 27), (.binOp .lss 3 (.tmp 26) (.const (.int .i64 16)) 3), (some ((some 25), true))⟩, ⟨(some 28), (.pick (.tmp 25) (.tmp 27) (.const (.bool false))), none⟩]
instance : Live r_ref04Mean_6 := ⟨[0, 2, 3, 4, 5, 6]⟩
def r_ref04Mean_7 : List SOp :=
  [⟨(some 31), (.move (.tmp 6)), none⟩, ⟨(some 32), (.move (.tmp 6)), none⟩, ⟨(some 33), (.indexAddr 82 (.tmp 3) (.tmp 32)), none⟩, ⟨(some 34), (.load 22 (.tmp 33)), none⟩, ⟨(some 35), (.buildSlice 22 1 #[(0, .const (.int .i64 1))]), none⟩, ⟨(some 36), (.call ⟨.builtin .append, #[.tmp 34, .tmp 35], #[22, 22]⟩), none⟩, ⟨(some 37), (.indexAddr 82 (.tmp 3) (.tmp 31)), none⟩, ⟨none, (.store 22 (.tmp 37) (.tmp 36)), none⟩]
instance : Live r_ref04Mean_7 := ⟨[0, 2, 3, 4, 5, 6]⟩
def r_ref04Mean_8 : List SOp :=
  [⟨(some 38), (.move (.tmp 6)), none⟩, ⟨(some 39), (.move (.tmp 6)), none⟩, ⟨(some 40), (.indexAddr 82 (.tmp 4) (.tmp 39)), none⟩, ⟨(some 41), (.load 22 (.tmp 40)), none⟩, ⟨(some 42), (.move (.tmp 0)), none⟩, ⟨(some 43), (.move (.tmp 5)), none⟩, ⟨(some 44), (.indexAddr 51 (.tmp 42) (.tmp 43)), none⟩, ⟨(some 45), (.fieldAddr 25 (.tmp 44) 0), none⟩, ⟨(some 46), (.load 22 (.tmp 45)), none⟩, ⟨(some 47), (.move (.tmp 6)), none⟩, ⟨(some 48), (.indexAddr 22 (.tmp 46) (.tmp 47)), none⟩, ⟨(some 49), (.load 3 (.tmp 48)), none⟩, ⟨(some 50), (.buildSlice 22 1 #[(0, .tmp 49)]), none⟩, ⟨(some 51), (.call ⟨.builtin .append, #[.tmp 41, .tmp 50], #[22, 22]⟩), none⟩, ⟨(some 52), (.indexAddr 82 (.tmp 4) (.tmp 38)), none⟩, ⟨none, (.store 22 (.tmp 52) (.tmp 51)), none⟩]
instance : Live r_ref04Mean_8 := ⟨[0, 2, 3, 4, 5, 6]⟩
instance : Rd r_ref04Mean_8 := ⟨fun j => j == 0⟩
def r_ref04Mean_9 : List SOp :=
  [⟨(some 29), (.move (.tmp 6)), none⟩, ⟨(some 30), (.binOp .add 3 (.tmp 29) (.const (.int .i64 1)) 3), none⟩, ⟨(some 6), (.assign (.tmp 30)), none⟩]
instance : Live r_ref04Mean_9 := ⟨[0, 2, 3, 4, 5, 6]⟩
def r_ref04Mean_10 : List SOp :=
  [⟨(some 7), (.assign (.const (.int .i64 0))), none⟩]
instance : Live r_ref04Mean_10 := ⟨[0, 2, 3, 4, 5]⟩
def r_ref04Mean_11 : List SOp :=
  [⟨(some 53), (.move (.tmp 7)), none⟩, ⟨(some 54), (.move (.tmp 0)), none⟩, ⟨(some 55), (.move (.tmp 5)), none⟩, ⟨(some 56), (.indexAddr 51 (.tmp 54) (.tmp 55)), none⟩, ⟨(some 57), (.fieldAddr 25 (.tmp 56) 1), none⟩, ⟨(some 58), (.load 23 (.tmp 57)), none⟩, ⟨(some 59), (.call ⟨.builtin .len, #[.tmp 58], #[23]⟩), none⟩, ⟨(some 60), (.binOp .lss 3 (.tmp 53) (.tmp 59) 3), none⟩]
instance : Live r_ref04Mean_11 := ⟨[0, 2, 3, 4, 5, 7]⟩
def r_ref04Mean_12 : List SOp :=
  [⟨(some 63), (.move (.tmp 0)), none⟩, ⟨(some 64), (.move (.tmp 5)), none⟩, ⟨(some 65), (.indexAddr 51 (.tmp 63) (.tmp 64)), none⟩, ⟨(some 66), (.fieldAddr 25 (.tmp 65) 1), none⟩, ⟨(some 67), (.load 23 (.tmp 66)), none⟩, ⟨(some 68), (.move (.tmp 7)), none⟩, ⟨(some 69), (.indexAddr 23 (.tmp 67) (.tmp 68)), none⟩, ⟨(some 70), (.load 41 (.tmp 69)), none⟩, ⟨(some 8), (.alloc 41), none⟩, ⟨none, (.store 41 (.tmp 8) (.tmp 70)), none⟩]
instance : Live r_ref04Mean_12 := ⟨[0, 2, 3, 4, 5, 7]⟩
def r_ref04Mean_13 : List SOp :=
  [⟨(some 71), (.fieldAddr 41 (.tmp 8) 0), none⟩, ⟨(some 72), (.load 3 (.tmp 71)), none⟩, ⟨(some 73), (.binOp .geq 3 (.tmp 72) (.const (.int .i64 0)) 3), none⟩, ⟨(some 74), (.move (.tmp 73)), none⟩, ⟨(some 75), (.fieldAddr 41 (.tmp 8) 0), (some ((some 74), true))⟩, ⟨(some 76), (.load 3 (.tmp 75)), (some ((some 74), true))⟩, ⟨(some 77), (.binOp .lss 3 (.tmp 76) (.const (.int .i64 16)) 3), (some ((some 74), true))⟩, ⟨(some 78), (.pick (.tmp 74) (.tmp 77) (.const (.bool false))), none⟩]
instance : Live r_ref04Mean_13 := ⟨[0, 2, 3, 4, 5, 7, 8]⟩
def r_ref04Mean_14 : List SOp :=
  [⟨(some 79), (.fieldAddr 41 (.tmp 8) 0), none⟩, ⟨(some 80), (.load 3 (.tmp 79)), none⟩, ⟨(some 81), (.fieldAddr 41 (.tmp 8) 0), none⟩, ⟨(some 82), (.load 3 (.tmp 81)), none⟩, ⟨(some 83), (.indexAddr 82 (.tmp 3) (.tmp 82)), none⟩, ⟨(some 84), (.load 22 (.tmp 83)), none⟩, ⟨(some 85), (.fieldAddr 41 (.tmp 8) 1), none⟩, ⟨(some 86), (.load 3 (.tmp 85)), none⟩, ⟨(some 87), (.buildSlice 22 1 #[(0, .tmp 86)]), none⟩, ⟨(some 88), (.call ⟨.builtin .append, #[.tmp 84, .tmp 87], #[22, 22]⟩), none⟩, ⟨(some 89), (.indexAddr 82 (.tmp 3) (.tmp 80)), none⟩, ⟨none, (.store 22 (.tmp 89) (.tmp 88)), none⟩]
instance : Live r_ref04Mean_14 := ⟨[0, 2, 3, 4, 5, 7, 8]⟩
instance : Rd r_ref04Mean_14 := ⟨fun j => j == 8⟩
def r_ref04Mean_15 : List SOp :=
  [⟨(some 90), (.fieldAddr 41 (.tmp 8) 0), none⟩, ⟨(some 91), (.load 3 (.tmp 90)), none⟩, ⟨(some 92), (.fieldAddr 41 (.tmp 8) 0), none⟩, ⟨(some 93), (.load 3 (.tmp 92)), none⟩, ⟨(some 94), (.indexAddr 82 (.tmp 4) (.tmp 93)), none⟩, ⟨(some 95), (.load 22 (.tmp 94)), none⟩, ⟨(some 96), (.fieldAddr 41 (.tmp 8) 2), none⟩, ⟨(some 97), (.load 3 (.tmp 96)), none⟩, ⟨(some 98), (.buildSlice 22 1 #[(0, .tmp 97)]), none⟩, ⟨(some 99), (.call ⟨.builtin .append, #[.tmp 95, .tmp 98], #[22, 22]⟩), none⟩, ⟨(some 100), (.indexAddr 82 (.tmp 4) (.tmp 91)), none⟩, ⟨none, (.store 22 (.tmp 100) (.tmp 99)), none⟩]
instance : Live r_ref04Mean_15 := ⟨[0, 2, 3, 4, 5, 7, 8]⟩
instance : Rd r_ref04Mean_15 := ⟨fun j => j == 8⟩
def r_ref04Mean_16 : List SOp :=
  [⟨(some 61), (.move (.tmp 7)), none⟩, ⟨(some 62), (.binOp .add 3 (.tmp 61) (.const (.int .i64 1)) 3), none⟩, ⟨(some 7), (.assign (.tmp 62)), none⟩]
instance : Live r_ref04Mean_16 := ⟨[0, 2, 3, 4, 5, 7]⟩
def r_ref04Mean_17 : List SOp :=
  [⟨(some 15), (.move (.tmp 5)), none⟩, ⟨(some 16), (.binOp .add 3 (.tmp 15) (.const (.int .i64 1)) 3), none⟩, ⟨(some 5), (.assign (.tmp 16)), none⟩]
instance : Live r_ref04Mean_17 := ⟨[0, 2, 3, 4, 5]⟩
def r_ref04Mean_18 : List SOp :=
  [⟨(some 9), (.alloc 84), none⟩]
instance : Live r_ref04Mean_18 := ⟨[2, 3, 4]⟩
def r_ref04Mean_19 : List SOp :=
  [⟨(some 10), (.assign (.const (.int .i64 0))), none⟩]
instance : Live r_ref04Mean_19 := ⟨[2, 3, 4, 9]⟩
def r_ref04Mean_20 : List SOp :=
  [⟨(some 101), (.move (.tmp 10)), none⟩, ⟨(some 102), (.binOp .lss 3 (.tmp 101) (.const (.int .i64 16)) 3), none⟩]
instance : Live r_ref04Mean_20 := ⟨[2, 3, 4, 9, 10]⟩
def r_ref04Mean_21 : List SOp :=
  [⟨(some 105), (.move (.tmp 10)), none⟩, ⟨(some 106), (.move (.tmp 10)), none⟩, ⟨(some 107), (.indexAddr 82 (.tmp 3) (.tmp 106)), none⟩, ⟨(some 108), (.load 22 (.tmp 107)), none⟩, ⟨(some 109), (.move (.tmp 10)), none⟩, ⟨(some 110), (.indexAddr 82 (.tmp 4) (.tmp 109)), none⟩, ⟨(some 111), (.load 22 (.tmp 110)), none⟩, ⟨(some 112), (.call ⟨.value (.func 96), #[.tmp 108, .tmp 111], #[22, 22]⟩), none⟩, ⟨(some 113), (.fieldAddr 84 (.tmp 9) 0), none⟩, ⟨(some 114), (.indexAddr 82 (.tmp 113) (.tmp 105)), none⟩, ⟨none, (.store 22 (.tmp 114) (.tmp 112)), none⟩]
instance : Live r_ref04Mean_21 := ⟨[2, 3, 4, 9, 10]⟩
def r_ref04Mean_22 : List SOp :=
  [⟨(some 103), (.move (.tmp 10)), none⟩, ⟨(some 104), (.binOp .add 3 (.tmp 103) (.const (.int .i64 1)) 3), none⟩, ⟨(some 10), (.assign (.tmp 104)), none⟩]
instance : Live r_ref04Mean_22 := ⟨[2, 3, 4, 9, 10]⟩
def r_ref04Mean_23 : List SOp :=
  [⟨(some 115), (.load 84 (.tmp 9)), none⟩, ⟨none, (.store 84 (.tmp 2) (.tmp 115)), none⟩]
instance : Live r_ref04Mean_23 := ⟨[2, 9]⟩
def t_ref04Mean_l2 : SC :=
  (.seq (.seq (.ops false r_ref04Mean_6) (.cond (.tmp 28) .skip (.exit 2))) (.seq (.block 3 (.seq (.ops false r_ref04Mean_7) (.opsW [41] r_ref04Mean_8))) (.ops false r_ref04Mean_9)))
def t_ref04Mean_l3 : SC :=
  (.seq (.seq (.ops false r_ref04Mean_11) (.cond (.tmp 60) .skip (.exit 4))) (.seq (.block 5 (.seq (.ops false r_ref04Mean_12) (.seq (.ops false r_ref04Mean_13) (.cond (.tmp 78) (.seq (.opsW [84] r_ref04Mean_14) (.opsW [95] r_ref04Mean_15)) .skip)))) (.ops false r_ref04Mean_16)))
def t_ref04Mean_l1 : SC :=
  (.seq (.seq (.ops false r_ref04Mean_4) (.cond (.tmp 14) .skip (.exit 0))) (.seq (.block 1 (.seq (.seq (.ops false r_ref04Mean_5) (.block 2 (.loop t_ref04Mean_l2))) (.seq (.ops false r_ref04Mean_10) (.block 4 (.loop t_ref04Mean_l3))))) (.ops false r_ref04Mean_17)))
def t_ref04Mean_l4 : SC :=
  (.seq (.seq (.ops false r_ref04Mean_20) (.cond (.tmp 102) .skip (.exit 6))) (.seq (.block 7 (.ops true r_ref04Mean_21)) (.ops false r_ref04Mean_22)))
def t_ref04Mean : SC :=
  (.seq (.ops false r_ref04Mean_1) (.seq (.ops false r_ref04Mean_2) (.seq (.seq (.ops false r_ref04Mean_3) (.block 0 (.loop t_ref04Mean_l1))) (.seq (.ops false r_ref04Mean_18) (.seq (.seq (.ops false r_ref04Mean_19) (.block 6 (.loop t_ref04Mean_l4))) (.seq (.ops false r_ref04Mean_23) .ret))))))
theorem it_ref04Mean : FnIs Try.prog 74 116 [.cell 2 84] t_ref04Mean := ⟨Try.f74, _, Try.func74, rfl, rfl, rfl, rfl, by kernel_rfl⟩
end Go.Proofs.Ytdmfjkhbodbgoaa.Avm

namespace Go.Proofs.Ytdmfjkhbodbgoaa.Avm
open Go.Proofs
def encLo (t : Tab) : List AVal := t.map fun l => .own 1 (encIs (los l))
def encHi (t : Tab) : List AVal := t.map fun l => .own 1 (encIs (his l))
theorem encLo_len (t : Tab) : (encLo t).length = t.length := by simp [encLo]
theorem encHi_len (t : Tab) : (encHi t).length = t.length := by simp [encHi]
theorem encLo_get {t : Tab} {r : Nat} (h : r < t.length) : (encLo t)[r]? = some (.own 1 (encIs (los (t.getD r [])))) := by simp [encLo, h]
theorem encHi_get {t : Tab} {r : Nat} (h : r < t.length) : (encHi t)[r]? = some (.own 1 (encIs (his (t.getD r [])))) := by simp [encHi, h]
theorem encLo_hole {t : Tab} {r : Nat} (h : r < t.length) : ((encLo t).set r .hole)[r]? = some .hole := by simp [encLo, h]
theorem encHi_hole {t : Tab} {r : Nat} (h : r < t.length) : ((encHi t).set r .hole)[r]? = some .hole := by simp [encHi, h]
theorem encLo_add {t : Tab} {r : Nat} (h : r < t.length) (x : Rn) : ((encLo t).set r .hole).set r (.own 1 (encIs (los (t.getD r []) ++ [x.1]))) = encLo (addAt t r x) := by
  rw [List.set_set]
  simp [encLo, addAt, los, List.map_set]
theorem encHi_add {t : Tab} {r : Nat} (h : r < t.length) (x : Rn) : ((encHi t).set r .hole).set r (.own 1 (encIs (his (t.getD r []) ++ [x.2]))) = encHi (addAt t r x) := by
  rw [List.set_set]
  simp [encHi, addAt, his, List.map_set]
theorem own_no (K : Nat → Bool) (t : Tab) (f : List Rn → List Int) : (ABlk.cells (t.map fun l => .own 1 (encIs (f l)))).no K = true := by
  simp only [ABlk.no, List.all_eq_true]
  intro x hx
  obtain ⟨l, _, rfl⟩ := List.mem_map.1 hx
  simp only [AVal.noC, List.all_eq_true]
  intro y hy
  exact no_of_stb (stbs_flat (encIs_stb _) y hy)
theorem encLo_no (K : Nat → Bool) (t : Tab) : (ABlk.cells (encLo t)).no K = true := own_no K t los
theorem encHi_no (K : Nat → Bool) (t : Tab) : (ABlk.cells (encHi t)).no K = true := own_no K t his
theorem los_len (l : List Rn) : (encIs (los l)).length = l.length := by simp [encIs, los]
theorem his_len (l : List Rn) : (encIs (his l)).length = l.length := by simp [encIs, his]
def encSs1 (f : List Rn → List Int) (t : Tab) : List AVal := t.map fun l => .sl 1 (encIs (f l))
theorem encSs1_stb (f : List Rn → List Int) (t : Tab) : stbs (encSs1 f t) = true := stbs_map fun l => encIs_stb _
theorem encSs1_get (f : List Rn → List Int) {t : Tab} {r : Nat} (h : r < t.length) : (encSs1 f t)[r]? = some (.sl 1 (encIs (f (t.getD r [])))) := by simp [encSs1, h]
theorem encLo_frz (t : Tab) : (encLo t).map frz = encSs1 los t := by simp [encLo, encSs1, frz]
theorem encHi_frz (t : Tab) : (encHi t).map frz = encSs1 his t := by simp [encHi, encSs1, frz]
def setUpto (u : Tab) (r : Nat) : List AVal := ((u.take r).map fun l => .sl 1 (encIs (turnsR l))) ++ List.replicate (16 - r) .nil
theorem setUpto_stb (u : Tab) (r : Nat) : stbs (setUpto u r) = true := by
  unfold setUpto
  rw [stbs_append, stbs_map (f := fun l => AVal.sl 1 (encIs (turnsR l))) fun l => encIs_stb _]
  simp only [Bool.true_and]
  exact stbs_of fun x hx => by rw [(List.mem_replicate.1 hx).2]; rfl
theorem setUpto_len (u : Tab) (h : u.length = 16) {r : Nat} (hr : r ≤ 16) : (setUpto u r).length = 16 := by
  simp [setUpto]
  omega
theorem setUpto_set (u : Tab) (h : u.length = 16) {r : Nat} (hr : r < 16) : (setUpto u r).set r (.sl 1 (encIs (turnsR (u.getD r [])))) = setUpto u (r + 1) := by
  have hru : r < u.length := by omega
  have hl : ((u.take r).map fun l => AVal.sl 1 (encIs (turnsR l))).length = r := by simp; omega
  unfold setUpto
  rw [List.set_append_right _ _ (by omega), hl, Nat.sub_self, show 16 - r = (16 - (r + 1)) + 1 by omega, List.replicate_succ, List.set_cons_zero]
  have e : u.take (r + 1) = u.take r ++ [u.getD r []] := by rw [List.take_add_one]; simp [hru]
  rw [e, List.map_append, List.append_assoc]
  rfl
theorem setUpto_all (u : Tab) (h : u.length = 16) : setUpto u 16 = encSet (u.map turnsR) := by
  unfold setUpto
  rw [List.take_of_length_le (by omega)]
  simp [encSet]
def meanT (ps : List Pst) : List (List Int) := (openT ps).map turnsR
theorem putVec_eq (v : List Int) (u : Tab) (i : Nat) : addAt u i (1, vecAt v i) = putVec v u i := rfl
theorem ev_ref04Mean (ps : List Pst) (hl : ps.length ≤ 1000000000) (hw : (ps.map wt).sum ≤ 800000000) : Ev (En Try.prog rfl).P 74 [.sl 2 (encPs ps)] (.ret (.agg (encSet (meanT ps)))) := by
  refine Ev.of_body it_ref04Mean (by simp) (Run.start ?_)
  unfold t_ref04Mean
  have e0 : (encPs ps).length = ps.length := encPs_len _
  (focus (have hF := @e0; (repeat' (first | (with_reducible refine Nx.of ?_) | ((with_reducible apply toV); refine stV (k := ?_)) | ((with_reducible apply toG); refine stG (k := ?_)) | ((with_reducible apply toG0); refine stG0 (k := ?_)) | ((with_reducible apply toC); refine stC (k := ?_)) | ((with_reducible apply toO); refine stO (k := ?_)) | ((with_reducible apply toX); refine stX (k := ?_)) | (with_reducible refine Ny.of ?_ ?_) | (refine Hyp.of ?_; intro hc; (try simp only [hc]); (try simp only [Bh] at hc)) | fail)); (all_goals clear hF)))
  have own0 : ∀ (f : List Rn → List Int), f [] = [] → ∀ (i : Nat) (x y : AVal), (List.replicate 16 AVal.nil)[i]? = some x → (tab0.map fun l => AVal.own 1 (encIs (f l)))[i]? = some y → y = x ∨ (x = .nil ∧ ∃ sz, y = .own sz []) := by
    intro f hf i x y hx hy
    rw [List.getElem?_replicate] at hx
    split at hx
    · rename_i h16
      cases hx
      refine .inr ⟨rfl, 1, ?_⟩
      simp only [tab0, List.map_replicate, List.getElem?_replicate, h16, if_true, hf] at hy
      exact (Option.some.inj hy).symm
    · cases hx
  refine Run.wk (Wk.trans (Wk.own_cells (k := 3) (cs' := encLo tab0) rfl rfl (own0 los rfl)) (Wk.own_cells (k := 4) (cs' := encHi tab0) rfl rfl (own0 his rfl))) ?_
  refine Run.while (σ := Nat) (fun i => ⟨tms [(0, .sl 2 (encPs ps)), (2, .ptr 2 0), (3, .ptr 3 0), (4, .ptr 4 0), (5, .int .i64 i)], mms [(2, .cells (List.replicate 16 .nil)), (3, .cells (encLo ((ps.take i).foldl openOne tab0))), (4, .cells (encHi ((ps.take i).foldl openOne tab0)))]⟩)
    (fun i => i ≤ ps.length) (fun i => ps.length - i) 0 (have hW := True.intro; stWk) (Nat.zero_le _) ?_
  intro i hi
  unfold t_ref04Mean_l1
  by_cases hlt : i < ps.length
  · obtain ⟨p, hp⟩ : ∃ p, ps[i]? = some p := ⟨ps[i], by simp [hlt]⟩
    have hq0 := TabLe.all tab0_le (ps.take i)
    have hnext := foldl_take openOne tab0 ps hp
    have hsum : ((ps.take i).map wt).sum + wt p ≤ (ps.map wt).sum := by
      have : ((ps.take (i + 1)).map wt).sum ≤ (ps.map wt).sum := by rw [List.map_take]; exact take_sum_le _
      rw [List.take_add_one, hp] at this
      simpa using this
    generalize (ps.take i).foldl openOne tab0 = u0 at hq0 hnext ⊢
    generalize ((ps.take i).map wt).sum = m at hq0 hsum
    have hwt : wt p = p.vec.length + p.cloud.length := rfl
    have e1 : (encPs ps)[i]? = some (.agg [.sl 1 (encIs p.vec), .sl 3 (encSs p.cloud)]) := encPs_get hp
    have e2 : (encIs p.vec).length = p.vec.length := encIs_len _
    have e3 : (encSs p.cloud).length = p.cloud.length := encSs_len _
    (focus (have hF := (And.intro (And.intro @e0 @e1) (And.intro @e2 @e3)); (repeat' (first | (with_reducible refine Nx.of ?_) | ((with_reducible apply toV); refine stV (k := ?_)) | ((with_reducible apply toG); refine stG (k := ?_)) | ((with_reducible apply toG0); refine stG0 (k := ?_)) | ((with_reducible apply toC); refine stC (k := ?_)) | ((with_reducible apply toO); refine stO (k := ?_)) | ((with_reducible apply toX); refine stX (k := ?_)) | (with_reducible refine Ny.of ?_ ?_) | (refine Hyp.of ?_; intro hc; (try simp only [hc]); (try simp only [Bh] at hc)) | fail)); (all_goals clear hF)))
    refine Run.while (σ := Nat) (fun j => ⟨tms [(0, .sl 2 (encPs ps)), (2, .ptr 2 0), (3, .ptr 3 0), (4, .ptr 4 0), (5, .int .i64 i), (6, .int .i64 j)], mms [(2, .cells (List.replicate 16 .nil)), (3, .cells (encLo ((List.range j).foldl (putVec p.vec) u0))), (4, .cells (encHi ((List.range j).foldl (putVec p.vec) u0)))]⟩)
      (fun j => j ≤ min p.vec.length 16) (fun j => 16 - j) 0 (have hW := True.intro; stWk) (Nat.zero_le _) ?_
    intro j hj
    unfold t_ref04Mean_l2
    by_cases hjl : j < min p.vec.length 16
    · have hnx := range_fold (v := p.vec) (t := u0) j
      obtain ⟨q1, q2⟩ := TabLe.range (v := p.vec) hq0 j
      generalize (List.range j).foldl (putVec p.vec) u0 = u at q1 q2 hnx ⊢
      have hju : j < u.length := by omega
      have g1 := encLo_len u
      have g2 := encHi_len u
      have g3 := encLo_get hju
      have g4 := encHi_get hju
      have g5 := encLo_hole hju
      have g6 := encHi_hole hju
      have g7 := encLo_add hju (1, vecAt p.vec j)
      have g8 := encHi_add hju (1, vecAt p.vec j)
      dsimp only at g7 g8
      rw [putVec_eq, ← hnx] at g7 g8
      have hq := q2 j
      have g9 := los_len (u.getD j [])
      have g10 := his_len (u.getD j [])
      have g11 : (encIs p.vec)[j]? = some (.int .i64 (vecAt p.vec j)) := encIs_get (by simp [vecAt, show j < p.vec.length by omega])
      (focus (have hF := (And.intro (And.intro (And.intro (And.intro @e0 @e1) (And.intro @e2 @e3)) (And.intro (And.intro @q1 @g1) (And.intro @g2 (And.intro @g3 @g4)))) (And.intro (And.intro (And.intro @g5 @g6) (And.intro @g7 @g8)) (And.intro (And.intro @g9 @g10) (And.intro @g11 (And.intro @encIs_snoc @List.length_set.{0}))))); (repeat' (first | (with_reducible refine Nx.of ?_) | ((with_reducible apply toV); refine stV (k := ?_)) | ((with_reducible apply toG); refine stG (k := ?_)) | ((with_reducible apply toG0); refine stG0 (k := ?_)) | ((with_reducible apply toC); refine stC (k := ?_)) | ((with_reducible apply toO); refine stO (k := ?_)) | ((with_reducible apply toX); refine stX (k := ?_)) | (with_reducible refine Ny.of ?_ ?_) | (refine Hyp.of ?_; intro hc; (try simp only [hc]); (try simp only [Bh] at hc)) | fail)); (all_goals clear hF)))
      ((with_reducible apply toW); refine stW (fun j => false) (k := ?_))
      (focus (have hF := (And.intro (And.intro (And.intro (And.intro @e0 @e1) (And.intro @e2 @e3)) (And.intro (And.intro @q1 @g1) (And.intro @g2 (And.intro @g3 @g4)))) (And.intro (And.intro (And.intro @g5 @g6) (And.intro @g7 @g8)) (And.intro (And.intro @g9 @g10) (And.intro @g11 (And.intro @encIs_snoc @List.length_set.{0}))))); (repeat' (first | (with_reducible refine Nx.of ?_) | ((with_reducible apply toV); refine stV (k := ?_)) | ((with_reducible apply toG); refine stG (k := ?_)) | ((with_reducible apply toG0); refine stG0 (k := ?_)) | ((with_reducible apply toC); refine stC (k := ?_)) | ((with_reducible apply toO); refine stO (k := ?_)) | ((with_reducible apply toX); refine stX (k := ?_)) | (with_reducible refine Ny.of ?_ ?_) | (refine Hyp.of ?_; intro hc; (try simp only [hc]); (try simp only [Bh] at hc)) | fail)); (all_goals clear hF)))
      (refine Fin.nextW (j + 1) ?_ (have hW := True.intro; stWk); (try dsimp only))
      omega
    · have hjm : j = min p.vec.length 16 := by omega
      have hav : (List.range j).foldl (putVec p.vec) u0 = addVec p.vec u0 := by rw [hjm]; rfl
      rw [hav]
      have hqv : TabLe (addVec p.vec u0) (0 + m + min p.vec.length 16) := TabLe.range hq0 _
      have hnext' : (ps.take (i + 1)).foldl openOne tab0 = addCloud p.cloud (addVec p.vec u0) := hnext
      generalize addVec p.vec u0 = u1 at hqv hnext' ⊢
      clear hav
      have hguard : ¬ (j < p.vec.length ∧ j < 16) := by omega
      rcases Nat.lt_or_ge j p.vec.length with hjv | hjv
      all_goals
        clear hguard
        (focus (have hF := (And.intro (And.intro @e0 @e1) (And.intro @e2 @e3)); (repeat' (first | (with_reducible refine Nx.of ?_) | ((with_reducible apply toV); refine stV (k := ?_)) | ((with_reducible apply toG); refine stG (k := ?_)) | ((with_reducible apply toG0); refine stG0 (k := ?_)) | ((with_reducible apply toC); refine stC (k := ?_)) | ((with_reducible apply toO); refine stO (k := ?_)) | ((with_reducible apply toX); refine stX (k := ?_)) | (with_reducible refine Ny.of ?_ ?_) | (refine Hyp.of ?_; intro hc; (try simp only [hc]); (try simp only [Bh] at hc)) | fail)); (all_goals clear hF)))
        refine Run.while (σ := Nat) (fun c => ⟨tms [(0, .sl 2 (encPs ps)), (2, .ptr 2 0), (3, .ptr 3 0), (4, .ptr 4 0), (5, .int .i64 i), (7, .int .i64 c)], mms [(2, .cells (List.replicate 16 .nil)), (3, .cells (encLo ((p.cloud.take c).foldl putSn u1))), (4, .cells (encHi ((p.cloud.take c).foldl putSn u1)))]⟩)
          (fun c => c ≤ p.cloud.length) (fun c => p.cloud.length - c) 0 (have hW := True.intro; stWk) (Nat.zero_le _) ?_
        intro c hc
        unfold t_ref04Mean_l3
        by_cases hcl : c < p.cloud.length
        · obtain ⟨s, hs⟩ : ∃ s, p.cloud[c]? = some s := ⟨p.cloud[c], by simp [hcl]⟩
          have hnx := foldl_take putSn u1 p.cloud hs
          obtain ⟨q1, q2⟩ := TabLe.cloud hqv (p.cloud.take c)
          have hcl2 : (p.cloud.take c).length ≤ p.cloud.length := by rw [List.length_take]; omega
          generalize (p.cloud.take c).foldl putSn u1 = u at q1 q2 hnx ⊢
          have g0 : (encSs p.cloud)[c]? = some (.agg [.int .i64 s.1, .int .i64 s.2.1, .int .i64 s.2.2]) := encSs_get hs
          have g1 := encLo_len u
          have g2 := encHi_len u
          by_cases hin : 0 ≤ s.1 ∧ s.1 < 16
          · rw [putSn_in hin] at hnx
            obtain ⟨r, hr⟩ : ∃ r : Nat, s.1 = r := ⟨s.1.toNat, by omega⟩
            rw [hr, Int.toNat_natCast] at hnx
            have hru : r < u.length := by omega
            have g3 := encLo_get hru
            have g4 := encHi_get hru
            have g5 := encLo_hole hru
            have g6 := encHi_hole hru
            have g7 := encLo_add hru s.2
            have g8 := encHi_add hru s.2
            rw [← hnx] at g7 g8
            have hq := q2 r
            have g9 := los_len (u.getD r [])
            have g10 := his_len (u.getD r [])
            (focus (have hF := (And.intro (And.intro (And.intro @e0 @e1) (And.intro @e2 @e3)) (And.intro (And.intro @hr @q1) (And.intro @g0 (And.intro @g1 @g2)))); (repeat' (first | (with_reducible refine Nx.of ?_) | ((with_reducible apply toV); refine stV (k := ?_)) | ((with_reducible apply toG); refine stG (k := ?_)) | ((with_reducible apply toG0); refine stG0 (k := ?_)) | ((with_reducible apply toC); refine stC (k := ?_)) | ((with_reducible apply toO); refine stO (k := ?_)) | ((with_reducible apply toX); refine stX (k := ?_)) | (with_reducible refine Ny.of ?_ ?_) | (refine Hyp.of ?_; intro hc; (try simp only [hc]); (try simp only [Bh] at hc)) | fail)); (all_goals clear hF)))
            ((with_reducible apply toW); refine stW (fun j => j == 8) (k := ?_))
            (focus (have hF := (And.intro (And.intro (And.intro (And.intro @e0 @e1) (And.intro @e2 @e3)) (And.intro (And.intro @hr @q1) (And.intro @g0 (And.intro @g1 @g2)))) (And.intro (And.intro (And.intro @g3 @g4) (And.intro @g5 (And.intro @g6 @g7))) (And.intro (And.intro @g8 @g9) (And.intro @g10 (And.intro @encIs_snoc @List.length_set.{0}))))); (repeat' (first | (with_reducible refine Nx.of ?_) | ((with_reducible apply toV); refine stV (k := ?_)) | ((with_reducible apply toG); refine stG (k := ?_)) | ((with_reducible apply toG0); refine stG0 (k := ?_)) | ((with_reducible apply toC); refine stC (k := ?_)) | ((with_reducible apply toO); refine stO (k := ?_)) | ((with_reducible apply toX); refine stX (k := ?_)) | (with_reducible refine Ny.of ?_ ?_) | (refine Hyp.of ?_; intro hc; (try simp only [hc]); (try simp only [Bh] at hc)) | fail)); (all_goals clear hF)))
            ((with_reducible apply toW); refine stW (fun j => j == 8) (k := ?_))
            (focus (have hF := (And.intro (And.intro (And.intro (And.intro @e0 @e1) (And.intro @e2 @e3)) (And.intro (And.intro @hr @q1) (And.intro @g0 (And.intro @g1 @g2)))) (And.intro (And.intro (And.intro @g3 @g4) (And.intro @g5 (And.intro @g6 @g7))) (And.intro (And.intro @g8 @g9) (And.intro @g10 (And.intro @encIs_snoc @List.length_set.{0}))))); (repeat' (first | (with_reducible refine Nx.of ?_) | ((with_reducible apply toV); refine stV (k := ?_)) | ((with_reducible apply toG); refine stG (k := ?_)) | ((with_reducible apply toG0); refine stG0 (k := ?_)) | ((with_reducible apply toC); refine stC (k := ?_)) | ((with_reducible apply toO); refine stO (k := ?_)) | ((with_reducible apply toX); refine stX (k := ?_)) | (with_reducible refine Ny.of ?_ ?_) | (refine Hyp.of ?_; intro hc; (try simp only [hc]); (try simp only [Bh] at hc)) | fail)); (all_goals clear hF)))
            (refine Fin.nextW (c + 1) ?_ (have hW := True.intro; stWk); (try dsimp only))
            omega
          · rw [putSn_out hin] at hnx
            by_cases hin1 : 0 ≤ s.1
            · have hin2 : ¬ s.1 < 16 := fun h => hin ⟨hin1, h⟩
              (focus (have hF := (And.intro (And.intro (And.intro @e0 @e1) (And.intro @e2 @e3)) (And.intro (And.intro @q1 @g0) (And.intro @g1 @g2))); (repeat' (first | (with_reducible refine Nx.of ?_) | ((with_reducible apply toV); refine stV (k := ?_)) | ((with_reducible apply toG); refine stG (k := ?_)) | ((with_reducible apply toG0); refine stG0 (k := ?_)) | ((with_reducible apply toC); refine stC (k := ?_)) | ((with_reducible apply toO); refine stO (k := ?_)) | ((with_reducible apply toX); refine stX (k := ?_)) | (with_reducible refine Ny.of ?_ ?_) | (refine Hyp.of ?_; intro hc; (try simp only [hc]); (try simp only [Bh] at hc)) | fail)); (all_goals clear hF)))
              (refine Fin.nextW (c + 1) ?_ (have hW := @hnx; stWk); (try dsimp only))
              omega
            · (focus (have hF := (And.intro (And.intro (And.intro @e0 @e1) (And.intro @e2 @e3)) (And.intro (And.intro @q1 @g0) (And.intro @g1 @g2))); (repeat' (first | (with_reducible refine Nx.of ?_) | ((with_reducible apply toV); refine stV (k := ?_)) | ((with_reducible apply toG); refine stG (k := ?_)) | ((with_reducible apply toG0); refine stG0 (k := ?_)) | ((with_reducible apply toC); refine stC (k := ?_)) | ((with_reducible apply toO); refine stO (k := ?_)) | ((with_reducible apply toX); refine stX (k := ?_)) | (with_reducible refine Ny.of ?_ ?_) | (refine Hyp.of ?_; intro hc; (try simp only [hc]); (try simp only [Bh] at hc)) | fail)); (all_goals clear hF)))
              (refine Fin.nextW (c + 1) ?_ (have hW := @hnx; stWk); (try dsimp only))
              omega
        · have hce : c = p.cloud.length := by omega
          have hcf : (p.cloud.take c).foldl putSn u1 = (ps.take (i + 1)).foldl openOne tab0 := by rw [hnext', hce, List.take_length]; rfl
          rw [hcf]
          (focus (have hF := (And.intro (And.intro @e0 @e1) (And.intro @e2 @e3)); (repeat' (first | (with_reducible refine Nx.of ?_) | ((with_reducible apply toV); refine stV (k := ?_)) | ((with_reducible apply toG); refine stG (k := ?_)) | ((with_reducible apply toG0); refine stG0 (k := ?_)) | ((with_reducible apply toC); refine stC (k := ?_)) | ((with_reducible apply toO); refine stO (k := ?_)) | ((with_reducible apply toX); refine stX (k := ?_)) | (with_reducible refine Ny.of ?_ ?_) | (refine Hyp.of ?_; intro hc; (try simp only [hc]); (try simp only [Bh] at hc)) | fail)); (all_goals clear hF)))
          (refine Fin.nextW (i + 1) ?_ (have hW := True.intro; stWk); (try dsimp only))
          omega
  · have hie : i = ps.length := by omega
    have hop : (ps.take i).foldl openOne tab0 = openT ps := by rw [hie, List.take_length]; rfl
    rw [hop]
    obtain ⟨q1, q2⟩ := openT_le ps
    unfold meanT
    generalize openT ps = u at q1 q2 ⊢
    (focus (have hF := @e0; (repeat' (first | (with_reducible refine Nx.of ?_) | ((with_reducible apply toV); refine stV (k := ?_)) | ((with_reducible apply toG); refine stG (k := ?_)) | ((with_reducible apply toG0); refine stG0 (k := ?_)) | ((with_reducible apply toC); refine stC (k := ?_)) | ((with_reducible apply toO); refine stO (k := ?_)) | ((with_reducible apply toX); refine stX (k := ?_)) | (with_reducible refine Ny.of ?_ ?_) | (refine Hyp.of ?_; intro hc; (try simp only [hc]); (try simp only [Bh] at hc)) | fail)); (all_goals clear hF)))
    refine Run.wk (Wk.trans (Wk.freeze (k := 3) (cs := encLo u) rfl) (Wk.freeze (k := 4) (cs := encHi u) rfl)) ?_
    rw [encLo_frz, encHi_frz]
    refine Run.while (σ := Nat) (fun r => ⟨tms [(2, .ptr 2 0), (3, .ptr 3 0), (4, .ptr 4 0), (9, .ptr 9 0), (10, .int .i64 r)], mms [(2, .cells (List.replicate 16 .nil)), (3, .cells (encSs1 los u)), (4, .cells (encSs1 his u)), (9, .cells (setUpto u r))]⟩)
      (fun r => r ≤ 16) (fun r => 16 - r) 0 (have hW := (And.intro @encSs1_stb @setUpto_stb); stWk) (Nat.zero_le _) ?_
    intro r hr
    have g0 := setUpto_len u q1 hr
    unfold t_ref04Mean_l4
    by_cases hlt : r < 16
    · have hru : r < u.length := by omega
      have hq := q2 r
      have g1 : (encSs1 los u).length = u.length := by simp [encSs1]
      have g2 : (encSs1 his u).length = u.length := by simp [encSs1]
      have g3 := encSs1_get los hru
      have g4 := encSs1_get his hru
      have g5 := setUpto_set u q1 hlt
      have g6 : (setUpto u r).take r ++ AVal.sl 1 (encIs (turnsR (u.getD r []))) :: (setUpto u r).drop (r + 1) = setUpto u (r + 1) := by rw [← g5, List.set_eq_take_append_cons_drop, if_pos (by omega)]
      (focus (have hF := (And.intro (And.intro @q1 (And.intro @g0 @g1)) (And.intro (And.intro @g2 @g3) (And.intro @g4 @g5))); (repeat' (first | (with_reducible refine Nx.of ?_) | ((with_reducible apply toV); refine stV (k := ?_)) | ((with_reducible apply toG); refine stG (k := ?_)) | ((with_reducible apply toG0); refine stG0 (k := ?_)) | ((with_reducible apply toC); refine stC (k := ?_)) | ((with_reducible apply toO); refine stO (k := ?_)) | ((with_reducible apply toX); refine stX (k := ?_)) | (with_reducible refine Ny.of ?_ ?_) | (refine Hyp.of ?_; intro hc; (try simp only [hc]); (try simp only [Bh] at hc)) | fail)); (all_goals clear hF)))
      refine stCall [.sl 1 (encIs (los (u.getD r []))), .sl 1 (encIs (his (u.getD r [])))] (he := ev_ref04turns _ (by omega)) (k := ?_)
      (focus (have hF := (And.intro (And.intro (And.intro @q1 @g0) (And.intro @g1 (And.intro @g2 @g3))) (And.intro (And.intro @g4 @g5) (And.intro @g6 (And.intro @List.cons_append.{0} @List.nil_append.{0})))); (repeat' (first | (with_reducible refine Nx.of ?_) | ((with_reducible apply toV); refine stV (k := ?_)) | ((with_reducible apply toG); refine stG (k := ?_)) | ((with_reducible apply toG0); refine stG0 (k := ?_)) | ((with_reducible apply toC); refine stC (k := ?_)) | ((with_reducible apply toO); refine stO (k := ?_)) | ((with_reducible apply toX); refine stX (k := ?_)) | (with_reducible refine Ny.of ?_ ?_) | (refine Hyp.of ?_; intro hc; (try simp only [hc]); (try simp only [Bh] at hc)) | fail)); (all_goals clear hF)))
      have g7 : List.take r (setUpto u r) ++ AVal.sl 1 (encIs (turnsR (u[r]?.getD []))) :: List.drop (r + 1) (setUpto u r) = setUpto u (r + 1) := by simpa using g6
      (refine Fin.nextW (r + 1) ?_ (have hW := (And.intro @encSs1_stb (And.intro @setUpto_stb @g7)); stWk); (try dsimp only))
      omega
    · have hre : r = 16 := by omega
      subst hre
      have g1 := setUpto_all u q1
      have g2 : (encSet (u.map turnsR)).length = 16 := by simp [encSet, q1]
      have g3 := encSet_one (u.map turnsR)
      rw [g1]
      have htk : (encSet (u.map turnsR)).take 16 = encSet (u.map turnsR) := List.take_of_length_le (by omega)
      have g4 : (encSet (u.map turnsR)).all AVal.plain = true := by
        rw [List.all_eq_true]
        intro x hx
        obtain ⟨l, _, rfl⟩ := List.mem_map.1 hx
        rfl
      have g5 : (List.replicate 16 AVal.nil).drop 16 = [] := rfl
      (focus (have hF := (And.intro (And.intro @g2 (And.intro @g3 @g4)) (And.intro @g5 (And.intro @htk @List.length_replicate.{0}))); (repeat' (first | (with_reducible refine Nx.of ?_) | ((with_reducible apply toV); refine stV (k := ?_)) | ((with_reducible apply toG); refine stG (k := ?_)) | ((with_reducible apply toG0); refine stG0 (k := ?_)) | ((with_reducible apply toC); refine stC (k := ?_)) | ((with_reducible apply toO); refine stO (k := ?_)) | ((with_reducible apply toX); refine stX (k := ?_)) | (with_reducible refine Ny.of ?_ ?_) | (refine Hyp.of ?_; intro hc; (try simp only [hc]); (try simp only [Bh] at hc)) | fail)); (all_goals clear hF)))
      refine Fin.all (xs := [.agg (encSet (u.map turnsR))]) ?_ (by simp [stbs, AVal.stb, encSet_stb]) rfl
      simp [resAll, resOne, En_TE, TE_0, TE_3, TE_16, TE_22, TE_23, TE_25, TE_41, TE_51, TE_82, TE_84, TE_147, TE_149, TD.isAgg, upd, tms, g2, htk, encSet_fz]
end Go.Proofs.Ytdmfjkhbodbgoaa.Avm

namespace Go.Proofs.Ytdmfjkhbodbgoaa.Avm
open Go.Proofs
def r_ref04Last_1 : List SOp :=
  [⟨(some 2), (.box 25 (.tmp 0)), none⟩, ⟨(some 4), (.assign (.const (.int .i64 0))), none⟩]
instance : Live r_ref04Last_1 := ⟨[0, 1]⟩
def r_ref04Last_2 : List SOp :=
  [⟨(some 7), (.move (.tmp 1)), none⟩, ⟨(some 8), (.binOp .lss 3 (.tmp 7) (.const (.int .i64 0)) 3), none⟩, ⟨(some 9), (.move (.tmp 8)), none⟩, ⟨(some 10), (.move (.tmp 1)), (some ((some 9), false))⟩, ⟨(some 11), (.binOp .geq 3 (.tmp 10) (.const (.int .i64 16)) 3), (some ((some 9), false))⟩, ⟨(some 12), (.pick (.tmp 9) (.const (.bool true)) (.tmp 11)), none⟩]
instance : Live r_ref04Last_2 := ⟨[1, 2]⟩
def r_ref04Last_3 : List SOp :=
  [⟨(some 4), (.assign (.const (.int .i64 0))), none⟩]
instance : Live r_ref04Last_3 := ⟨[]⟩
def r_ref04Last_4 : List SOp :=
  [⟨(some 13), (.load 25 (.tmp 2)), none⟩, ⟨(some 14), (.call ⟨.value (.func 72), #[.tmp 13], #[25]⟩), none⟩, ⟨(some 5), (.alloc 84), none⟩, ⟨none, (.store 84 (.tmp 5) (.tmp 14)), none⟩]
instance : Live r_ref04Last_4 := ⟨[1, 2]⟩
def r_ref04Last_5 : List SOp :=
  [⟨(some 15), (.move (.tmp 1)), none⟩, ⟨(some 16), (.fieldAddr 84 (.tmp 5) 0), none⟩, ⟨(some 17), (.indexAddr 82 (.tmp 16) (.tmp 15)), none⟩, ⟨(some 18), (.load 22 (.tmp 17)), none⟩, ⟨(some 19), (.call ⟨.builtin .len, #[.tmp 18], #[22]⟩), none⟩, ⟨(some 6), (.assign (.tmp 19)), none⟩]
instance : Live r_ref04Last_5 := ⟨[1, 5]⟩
def r_ref04Last_6 : List SOp :=
  [⟨(some 20), (.move (.tmp 6)), none⟩, ⟨(some 21), (.binOp .eql 3 (.tmp 20) (.const (.int .i64 0)) 3), none⟩]
instance : Live r_ref04Last_6 := ⟨[1, 5, 6]⟩
def r_ref04Last_7 : List SOp :=
  [⟨(some 4), (.assign (.const (.int .i64 0))), none⟩]
instance : Live r_ref04Last_7 := ⟨[]⟩
def r_ref04Last_8 : List SOp :=
  [⟨(some 22), (.move (.tmp 1)), none⟩, ⟨(some 23), (.fieldAddr 84 (.tmp 5) 0), none⟩, ⟨(some 24), (.indexAddr 82 (.tmp 23) (.tmp 22)), none⟩, ⟨(some 25), (.load 22 (.tmp 24)), none⟩, ⟨(some 26), (.move (.tmp 6)), none⟩, ⟨(some 27), (.binOp .sub 3 (.tmp 26) (.const (.int .i64 1)) 3), none⟩, ⟨(some 28), (.indexAddr 22 (.tmp 25) (.tmp 27)), none⟩, ⟨(some 29), (.load 3 (.tmp 28)), none⟩, ⟨(some 30), (.binOp .sub 3 (.tmp 29) (.const (.int .i64 1)) 3), none⟩, ⟨(some 4), (.assign (.tmp 30)), none⟩]
instance : Live r_ref04Last_8 := ⟨[1, 5, 6]⟩
def t_ref04Last : SC :=
  (.seq (.ops false r_ref04Last_1) (.seq (.seq (.ops false r_ref04Last_2) (.cond (.tmp 12) (.seq (.ops false r_ref04Last_3) .ret) .skip)) (.seq (.ops false r_ref04Last_4) (.seq (.ops false r_ref04Last_5) (.seq (.seq (.ops false r_ref04Last_6) (.cond (.tmp 21) (.seq (.ops false r_ref04Last_7) .ret) .skip)) (.seq (.ops false r_ref04Last_8) .ret))))))
theorem it_ref04Last : FnIs Try.prog 48 31 [.tmp 4] t_ref04Last := ⟨Try.f48, _, Try.func48, rfl, rfl, rfl, rfl, by kernel_rfl⟩
end Go.Proofs.Ytdmfjkhbodbgoaa.Avm

namespace Go.Proofs.Ytdmfjkhbodbgoaa.Avm
open Go.Proofs
def lastL (l : List Int) : Int := match l.getLast? with | some x => x - 1 | none => 0
def lastSet (t : List (List Int)) (r : Int) : Int := if 0 ≤ r ∧ r < 16 then lastL (t.getD r.toNat []) else 0
theorem lastSet_in {t : List (List Int)} {r : Int} (h : 0 ≤ r ∧ r < 16) : lastSet t r = lastL (t.getD r.toNat []) := if_pos h
theorem lastSet_out {t : List (List Int)} {r : Int} (h : ¬ (0 ≤ r ∧ r < 16)) : lastSet t r = 0 := if_neg h
theorem encSet_get {t : List (List Int)} {r : Nat} (h : r < t.length) : (encSet t)[r]? = some (.sl 1 (encIs (t.getD r []))) := by simp [encSet, h]
theorem ev_ref04Last_of (p : Pst) (t : List (List Int)) (ht : t.length = 16) (hb : ∀ l ∈ t, l.length ≤ 1000000000 ∧ ∀ x ∈ l, 0 ≤ x ∧ x ≤ 1000000001) (r : Int) (hO : Ev (En Try.prog rfl).P 72 [encP p] (.ret (.agg (encSet t)))) :
    Ev (En Try.prog rfl).P 48 [encP p, .int .i64 r] (.ret (.int .i64 (lastSet t r))) := by
  refine Ev.of_body it_ref04Last (by simp) (Run.start ?_)
  have hpx : encP p = .agg [.sl 1 (encIs p.vec), .sl 3 (encSs p.cloud)] := rfl
  have e0 : (encSet t).length = 16 := by simp [encSet, ht]
  have e1 := encSet_one t
  unfold t_ref04Last
  rw [hpx]
  by_cases c1 : r < 0
  · have d1 : decide (r < 0) = true := by simpa using c1
    rw [lastSet_out (by omega)]
    (focus (have hF := @d1; (repeat' (first | (with_reducible refine Nx.of ?_) | ((with_reducible apply toV); refine stV (k := ?_)) | ((with_reducible apply toG); refine stG (k := ?_); (with_reducible refine Nx.of ?_)) | ((with_reducible apply toG0); refine stG0 (k := ?_); (with_reducible refine Nx.of ?_)) | ((with_reducible apply toC); refine stC (k := ?_); (with_reducible refine Nx.of ?_)) | ((with_reducible apply toO); refine stO (k := ?_)) | ((with_reducible apply toX); refine stX (k := ?_)) | fail)); (all_goals clear hF)))
    exact Fin.tmp' rfl rfl
  · have d1 : decide (r < 0) = false := by simpa using c1
    by_cases c2 : 16 ≤ r
    · have d2 : decide (16 ≤ r) = true := by simpa using c2
      rw [lastSet_out (by omega)]
      (focus (have hF := (And.intro @d1 @d2); (repeat' (first | (with_reducible refine Nx.of ?_) | ((with_reducible apply toV); refine stV (k := ?_)) | ((with_reducible apply toG); refine stG (k := ?_); (with_reducible refine Nx.of ?_)) | ((with_reducible apply toG0); refine stG0 (k := ?_); (with_reducible refine Nx.of ?_)) | ((with_reducible apply toC); refine stC (k := ?_); (with_reducible refine Nx.of ?_)) | ((with_reducible apply toO); refine stO (k := ?_)) | ((with_reducible apply toX); refine stX (k := ?_)) | fail)); (all_goals clear hF)))
      exact Fin.tmp' rfl rfl
    · have d2 : decide (16 ≤ r) = false := by simpa using c2
      rw [lastSet_in (by omega)]
      obtain ⟨k, hk⟩ : ∃ k : Nat, r = k := ⟨r.toNat, by omega⟩
      have hk16 : k < 16 := by omega
      rw [hk] at d1 d2 ⊢
      rw [Int.toNat_natCast]
      have e2 : ((k : Int) < ((16 : Nat) : Int)) = True := by simp only [eq_iff_iff, iff_true]; omega
      have e3 : (0 ≤ (k : Int)) = True := by simp
      have e4 := encSet_get (t := t) (r := k) (by omega)
      have e5 : (encIs (t.getD k [])).length = (t.getD k []).length := encIs_len _
      (focus (have hF := (And.intro @d1 @d2); (repeat' (first | (with_reducible refine Nx.of ?_) | ((with_reducible apply toV); refine stV (k := ?_)) | ((with_reducible apply toG); refine stG (k := ?_); (with_reducible refine Nx.of ?_)) | ((with_reducible apply toG0); refine stG0 (k := ?_); (with_reducible refine Nx.of ?_)) | ((with_reducible apply toC); refine stC (k := ?_); (with_reducible refine Nx.of ?_)) | ((with_reducible apply toO); refine stO (k := ?_)) | ((with_reducible apply toX); refine stX (k := ?_)) | fail)); (all_goals clear hF)))
      refine awp_pure (l := [encP p]) rfl rfl (by simp [stbs, encP_stb]) hO ?_
      (focus (have hF := (And.intro (And.intro (And.intro @d1 @d2) (And.intro @e0 @e1)) (And.intro (And.intro @e2 @e3) (And.intro @e4 @e5))); (repeat' (first | (with_reducible refine Nx.of ?_) | ((with_reducible apply toV); refine stV (k := ?_)) | ((with_reducible apply toG); refine stG (k := ?_); (with_reducible refine Nx.of ?_)) | ((with_reducible apply toG0); refine stG0 (k := ?_); (with_reducible refine Nx.of ?_)) | ((with_reducible apply toC); refine stC (k := ?_); (with_reducible refine Nx.of ?_)) | ((with_reducible apply toO); refine stO (k := ?_)) | ((with_reducible apply toX); refine stX (k := ?_)) | fail)); (all_goals clear hF)))
      have hbl : (t.getD k []).length ≤ 1000000000 ∧ ∀ x ∈ t.getD k [], 0 ≤ x ∧ x ≤ 1000000001 := hb _ (by rw [List.getD_eq_getElem?_getD, List.getElem?_eq_getElem (by omega)]; simp)
      generalize t.getD k [] = l at hbl e4 e5 ⊢
      rcases List.eq_nil_or_concat l with rfl | ⟨m, x, rfl⟩
      · have d3 : decide (((([] : List Int).length : Nat) : Int) = 0) = true := by simp
        (focus (have hF := @d3; (repeat' (first | (with_reducible refine Nx.of ?_) | ((with_reducible apply toV); refine stV (k := ?_)) | ((with_reducible apply toG); refine stG (k := ?_); (with_reducible refine Nx.of ?_)) | ((with_reducible apply toG0); refine stG0 (k := ?_); (with_reducible refine Nx.of ?_)) | ((with_reducible apply toC); refine stC (k := ?_); (with_reducible refine Nx.of ?_)) | ((with_reducible apply toO); refine stO (k := ?_)) | ((with_reducible apply toX); refine stX (k := ?_)) | fail)); (all_goals clear hF)))
        exact Fin.tmp' rfl rfl
      · simp only [List.concat_eq_append] at *
        have hx := hbl.2 x (by simp)
        have hml : m.length ≤ 1000000000 := by have := hbl.1; simp at this; omega
        have hl : (m ++ [x]).length = m.length + 1 := by simp
        have d3 : decide ((((m ++ [x]).length : Nat) : Int) = 0) = false := by simp; omega
        have f1 : IntKind.i64.wrap ((((m ++ [x]).length : Nat) : Int) - 1) = (m.length : Int) := by rw [hl, wrap_id (by omega)]; omega
        have f2 : (encIs (m ++ [x]))[m.length]? = some (.int .i64 x) := encIs_get (by simp)
        have f3 : (0 ≤ (m.length : Int)) = True := by simp
        have f4 : ((m.length : Int) < (((m ++ [x]).length : Nat) : Int)) = True := by simp only [hl, eq_iff_iff, iff_true]; omega
        have f5 : IntKind.i64.wrap (x - 1) = x - 1 := wrap_id (by omega)
        have f6 : lastL (m ++ [x]) = x - 1 := by simp [lastL]
        rw [f6]
        (focus (have hF := (And.intro (And.intro (And.intro @d3 (And.intro @e0 @e1)) (And.intro @e2 (And.intro @e3 @e4))) (And.intro (And.intro @e5 (And.intro @f1 @f2)) (And.intro @f3 (And.intro @f4 @f5)))); (repeat' (first | (with_reducible refine Nx.of ?_) | ((with_reducible apply toV); refine stV (k := ?_)) | ((with_reducible apply toG); refine stG (k := ?_); (with_reducible refine Nx.of ?_)) | ((with_reducible apply toG0); refine stG0 (k := ?_); (with_reducible refine Nx.of ?_)) | ((with_reducible apply toC); refine stC (k := ?_); (with_reducible refine Nx.of ?_)) | ((with_reducible apply toO); refine stO (k := ?_)) | ((with_reducible apply toX); refine stX (k := ?_)) | fail)); (all_goals clear hF)))
        exact Fin.tmp' rfl rfl
end Go.Proofs.Ytdmfjkhbodbgoaa.Avm

namespace Go.Proofs.Ytdmfjkhbodbgoaa.Avm
open Go.Proofs
def r_pastNext_1 : List SOp :=
  [⟨(some 3), (.box 25 (.tmp 0)), none⟩, ⟨(some 6), (.alloc 32), none⟩, ⟨(some 7), (.assign (.const (.int .i64 0))), none⟩]
instance : Live r_pastNext_1 := ⟨[0, 1, 2]⟩
def r_pastNext_2 : List SOp :=
  [⟨(some 9), (.move (.tmp 1)), none⟩, ⟨(some 10), (.binOp .lss 3 (.tmp 9) (.const (.int .i64 0)) 3), none⟩, ⟨(some 11), (.move (.tmp 10)), none⟩, ⟨(some 12), (.move (.tmp 1)), (some ((some 11), false))⟩, ⟨(some 13), (.binOp .geq 3 (.tmp 12) (.const (.int .i64 16)) 3), (some ((some 11), false))⟩, ⟨(some 14), (.pick (.tmp 11) (.const (.bool true)) (.tmp 13)), none⟩]
instance : Live r_pastNext_2 := ⟨[1, 2, 3, 6]⟩
def r_pastNext_3 : List SOp :=
  [⟨(some 15), (.build 32 #[]), none⟩, ⟨none, (.store 32 (.tmp 6) (.tmp 15)), none⟩, ⟨(some 7), (.assign (.const (.int .i64 3))), none⟩]
instance : Live r_pastNext_3 := ⟨[6]⟩
def r_pastNext_4 : List SOp :=
  [⟨(some 16), (.load 25 (.tmp 3)), none⟩, ⟨(some 17), (.move (.tmp 1)), none⟩, ⟨(some 18), (.call ⟨.value (.func 12), #[.tmp 16, .tmp 17], #[25, 3]⟩), none⟩, ⟨(some 8), (.assign (.tmp 18)), none⟩]
instance : Live r_pastNext_4 := ⟨[1, 2, 3, 6]⟩
def r_pastNext_5 : List SOp :=
  [⟨(some 19), (.move (.tmp 8)), none⟩, ⟨(some 20), (.move (.tmp 2)), none⟩, ⟨(some 21), (.call ⟨.builtin .min, #[.tmp 20, .const (.int .i64 1000000000)], #[3, 3]⟩), none⟩, ⟨(some 22), (.binOp .geq 3 (.tmp 19) (.tmp 21) 3), none⟩]
instance : Live r_pastNext_5 := ⟨[1, 2, 6, 8]⟩
def r_pastNext_6 : List SOp :=
  [⟨(some 23), (.build 32 #[]), none⟩, ⟨none, (.store 32 (.tmp 6) (.tmp 23)), none⟩, ⟨(some 7), (.assign (.const (.int .i64 9))), none⟩]
instance : Live r_pastNext_6 := ⟨[6]⟩
def r_pastNext_7 : List SOp :=
  [⟨(some 24), (.move (.tmp 1)), none⟩, ⟨(some 25), (.move (.tmp 8)), none⟩, ⟨(some 26), (.binOp .add 3 (.tmp 25) (.const (.int .i64 1)) 3), none⟩, ⟨(some 27), (.build 32 #[(0, .tmp 24), (1, .tmp 26)]), none⟩, ⟨none, (.store 32 (.tmp 6) (.tmp 27)), none⟩, ⟨(some 7), (.assign (.const (.int .i64 0))), none⟩]
instance : Live r_pastNext_7 := ⟨[1, 6, 8]⟩
def t_pastNext : SC :=
  (.seq (.ops false r_pastNext_1) (.seq (.seq (.ops false r_pastNext_2) (.cond (.tmp 14) (.seq (.ops false r_pastNext_3) .ret) .skip)) (.seq (.ops false r_pastNext_4) (.seq (.seq (.ops false r_pastNext_5) (.cond (.tmp 22) (.seq (.ops false r_pastNext_6) .ret) .skip)) (.seq (.ops false r_pastNext_7) .ret)))))
theorem it_pastNext : FnIs Try.prog 13 28 [.cell 6 32, .tmp 7] t_pastNext := ⟨Try.f13, _, Try.func13, rfl, rfl, rfl, rfl, by kernel_rfl⟩
end Go.Proofs.Ytdmfjkhbodbgoaa.Avm

namespace Go.Proofs.Ytdmfjkhbodbgoaa.Avm
open Go.Proofs
theorem lastStep_ge (a : Int) (r : Rn) : a ≤ lastStep a r := by
  unfold lastStep
  split <;> omega
theorem lastFold_ge (l : List Rn) (a : Int) : a ≤ l.foldl lastStep a := by
  induction l generalizing a with
  | nil => exact Int.le_refl _
  | cons r l ih => exact Int.le_trans (lastStep_ge a r) (ih _)
theorem lastR_nonneg (l : List Rn) : 0 ≤ lastR l := lastFold_ge l 0
theorem lastP_nonneg (p : Pst) (r : Int) : 0 ≤ lastP p r := by
  unfold lastP
  split
  · exact lastR_nonneg _
  · exact Int.le_refl _
def nextOf (last : Int → Int) (r most : Int) : Rn × Int :=
  if r < 0 ∨ 16 ≤ r then ((0, 0), 3) else if min most 1000000000 ≤ last r then ((0, 0), 9) else ((r, last r + 1), 0)
theorem nextOf_1 {last : Int → Int} {r most : Int} (h : r < 0 ∨ 16 ≤ r) : nextOf last r most = ((0, 0), 3) := if_pos h
theorem nextOf_2 {last : Int → Int} {r most : Int} (h : ¬ (r < 0 ∨ 16 ≤ r)) (h' : min most 1000000000 ≤ last r) : nextOf last r most = ((0, 0), 9) := by unfold nextOf; rw [if_neg h, if_pos h']
theorem nextOf_3 {last : Int → Int} {r most : Int} (h : ¬ (r < 0 ∨ 16 ≤ r)) (h' : ¬ min most 1000000000 ≤ last r) : nextOf last r most = ((r, last r + 1), 0) := by unfold nextOf; rw [if_neg h, if_neg h']
theorem ev_pastNext (p : Pst) (r most : Int) (hw : wt p ≤ 900000000) : Ev (En Try.prog rfl).P 13 [encP p, .int .i64 r, .int .i64 most] (.ret (.tup [encR (nextOf (lastP p) r most).1, .int .i64 (nextOf (lastP p) r most).2])) := by
  refine Ev.of_body it_pastNext (by simp) (Run.start ?_)
  have hpx : encP p = .agg [.sl 1 (encIs p.vec), .sl 3 (encSs p.cloud)] := rfl
  have hcall := ev_pastLast p r hw
  unfold t_pastNext
  rw [hpx]
  by_cases c1 : r < 0
  · have d1 : decide (r < 0) = true := by simpa using c1
    rw [nextOf_1 (.inl c1)]
    (focus (have hF := @d1; (repeat' (first | (with_reducible refine Nx.of ?_) | ((with_reducible apply toV); refine stV (k := ?_)) | ((with_reducible apply toG); refine stG (k := ?_); (with_reducible refine Nx.of ?_)) | ((with_reducible apply toG0); refine stG0 (k := ?_); (with_reducible refine Nx.of ?_)) | ((with_reducible apply toC); refine stC (k := ?_); (with_reducible refine Nx.of ?_)) | ((with_reducible apply toO); refine stO (k := ?_)) | ((with_reducible apply toX); refine stX (k := ?_)) | fail)); (all_goals clear hF)))
    exact Fin.all rfl rfl rfl
  · have d1 : decide (r < 0) = false := by simpa using c1
    by_cases c2 : 16 ≤ r
    · have d2 : decide (16 ≤ r) = true := by simpa using c2
      rw [nextOf_1 (.inr c2)]
      (focus (have hF := (And.intro @d1 @d2); (repeat' (first | (with_reducible refine Nx.of ?_) | ((with_reducible apply toV); refine stV (k := ?_)) | ((with_reducible apply toG); refine stG (k := ?_); (with_reducible refine Nx.of ?_)) | ((with_reducible apply toG0); refine stG0 (k := ?_); (with_reducible refine Nx.of ?_)) | ((with_reducible apply toC); refine stC (k := ?_); (with_reducible refine Nx.of ?_)) | ((with_reducible apply toO); refine stO (k := ?_)) | ((with_reducible apply toX); refine stX (k := ?_)) | fail)); (all_goals clear hF)))
      exact Fin.all rfl rfl rfl
    · have d2 : decide (16 ≤ r) = false := by simpa using c2
      have hn : ¬ (r < 0 ∨ 16 ≤ r) := by omega
      (focus (have hF := (And.intro @d1 @d2); (repeat' (first | (with_reducible refine Nx.of ?_) | ((with_reducible apply toV); refine stV (k := ?_)) | ((with_reducible apply toG); refine stG (k := ?_); (with_reducible refine Nx.of ?_)) | ((with_reducible apply toG0); refine stG0 (k := ?_); (with_reducible refine Nx.of ?_)) | ((with_reducible apply toC); refine stC (k := ?_); (with_reducible refine Nx.of ?_)) | ((with_reducible apply toO); refine stO (k := ?_)) | ((with_reducible apply toX); refine stX (k := ?_)) | fail)); (all_goals clear hF)))
      refine awp_pure (l := [encP p, .int .i64 r]) rfl rfl (by simp [stbs, encP_stb, AVal.stb]) hcall ?_
      have h0 := lastP_nonneg p r
      by_cases c3 : min most 1000000000 ≤ lastP p r
      · have d3 : decide (min most 1000000000 ≤ lastP p r) = true := by simpa using c3
        rw [nextOf_2 hn c3]
        (focus (have hF := (And.intro @d1 (And.intro @d2 @d3)); (repeat' (first | (with_reducible refine Nx.of ?_) | ((with_reducible apply toV); refine stV (k := ?_)) | ((with_reducible apply toG); refine stG (k := ?_); (with_reducible refine Nx.of ?_)) | ((with_reducible apply toG0); refine stG0 (k := ?_); (with_reducible refine Nx.of ?_)) | ((with_reducible apply toC); refine stC (k := ?_); (with_reducible refine Nx.of ?_)) | ((with_reducible apply toO); refine stO (k := ?_)) | ((with_reducible apply toX); refine stX (k := ?_)) | fail)); (all_goals clear hF)))
        exact Fin.all rfl rfl rfl
      · have d3 : decide (min most 1000000000 ≤ lastP p r) = false := by simpa using c3
        rw [nextOf_3 hn c3]
        have e1 : IntKind.i64.wrap (lastP p r + 1) = lastP p r + 1 := wrap_id (by omega)
        (focus (have hF := (And.intro (And.intro @d1 @d2) (And.intro @d3 @e1)); (repeat' (first | (with_reducible refine Nx.of ?_) | ((with_reducible apply toV); refine stV (k := ?_)) | ((with_reducible apply toG); refine stG (k := ?_); (with_reducible refine Nx.of ?_)) | ((with_reducible apply toG0); refine stG0 (k := ?_); (with_reducible refine Nx.of ?_)) | ((with_reducible apply toC); refine stC (k := ?_); (with_reducible refine Nx.of ?_)) | ((with_reducible apply toO); refine stO (k := ?_)) | ((with_reducible apply toX); refine stX (k := ?_)) | fail)); (all_goals clear hF)))
        exact Fin.all rfl rfl rfl
end Go.Proofs.Ytdmfjkhbodbgoaa.Avm

namespace Go.Proofs.Ytdmfjkhbodbgoaa.Avm
open Go.Proofs
def r_pastHas_1 : List SOp :=
  [⟨(some 2), (.box 25 (.tmp 0)), none⟩, ⟨(some 3), (.box 32 (.tmp 1)), none⟩, ⟨(some 4), (.assign (.const (.bool false))), none⟩]
instance : Live r_pastHas_1 := ⟨[0, 1]⟩
def r_pastHas_2 : List SOp :=
  [⟨(some 5), (.load 32 (.tmp 3)), none⟩, ⟨(some 6), (.call ⟨.value (.func 49), #[.tmp 5], #[32]⟩), none⟩, ⟨(some 7), (.unOp .not 4 (.tmp 6)), none⟩]
instance : Live r_pastHas_2 := ⟨[2, 3]⟩
def r_pastHas_3 : List SOp :=
  [⟨(some 4), (.assign (.const (.bool false))), none⟩]
instance : Live r_pastHas_3 := ⟨[]⟩
def r_pastHas_4 : List SOp :=
  [⟨(some 8), (.fieldAddr 32 (.tmp 3) 0), none⟩, ⟨(some 9), (.load 3 (.tmp 8)), none⟩, ⟨(some 10), (.fieldAddr 25 (.tmp 2) 0), none⟩, ⟨(some 11), (.load 22 (.tmp 10)), none⟩, ⟨(some 12), (.call ⟨.builtin .len, #[.tmp 11], #[22]⟩), none⟩, ⟨(some 13), (.binOp .lss 3 (.tmp 9) (.tmp 12) 3), none⟩, ⟨(some 14), (.move (.tmp 13)), none⟩, ⟨(some 15), (.fieldAddr 32 (.tmp 3) 1), (some ((some 14), true))⟩, ⟨(some 16), (.load 3 (.tmp 15)), (some ((some 14), true))⟩, ⟨(some 17), (.fieldAddr 25 (.tmp 2) 0), (some ((some 14), true))⟩, ⟨(some 18), (.load 22 (.tmp 17)), (some ((some 14), true))⟩, ⟨(some 19), (.fieldAddr 32 (.tmp 3) 0), (some ((some 14), true))⟩, ⟨(some 20), (.load 3 (.tmp 19)), (some ((some 14), true))⟩, ⟨(some 21), (.indexAddr 22 (.tmp 18) (.tmp 20)), (some ((some 14), true))⟩, ⟨(some 22), (.load 3 (.tmp 21)), (some ((some 14), true))⟩, ⟨(some 23), (.binOp .leq 3 (.tmp 16) (.tmp 22) 3), (some ((some 14), true))⟩, ⟨(some 24), (.pick (.tmp 14) (.tmp 23) (.const (.bool false))), none⟩]
instance : Live r_pastHas_4 := ⟨[2, 3]⟩
def r_pastHas_5 : List SOp :=
  [⟨(some 4), (.assign (.const (.bool true))), none⟩]
instance : Live r_pastHas_5 := ⟨[]⟩
def r_pastHas_6 : List SOp :=
  [⟨(some 25), (.fieldAddr 25 (.tmp 2) 1), none⟩, ⟨(some 26), (.load 23 (.tmp 25)), none⟩, ⟨(some 27), (.makeFunc (.func 51) #[] #[.tmp 3]), none⟩, ⟨(some 28), (.call ⟨.value (.func 50), #[.tmp 26, .tmp 27], #[23, 63]⟩), none⟩, ⟨(some 4), (.assign (.tmp 28)), none⟩]
instance : Live r_pastHas_6 := ⟨[2, 3]⟩
def t_pastHas : SC :=
  (.seq (.ops false r_pastHas_1) (.seq (.seq (.ops false r_pastHas_2) (.cond (.tmp 7) (.seq (.ops false r_pastHas_3) .ret) .skip)) (.seq (.seq (.ops true r_pastHas_4) (.cond (.tmp 24) (.seq (.ops false r_pastHas_5) .ret) .skip)) (.seq (.ops false r_pastHas_6) .ret))))
theorem it_pastHas : FnIs Try.prog 15 29 [.tmp 4] t_pastHas := ⟨Try.f15, _, Try.func15, rfl, rfl, rfl, rfl, by kernel_rfl⟩
end Go.Proofs.Ytdmfjkhbodbgoaa.Avm

namespace Go.Proofs.Ytdmfjkhbodbgoaa.Avm
open Go.Proofs
def r_pastisDot_1 : List SOp :=
  [⟨(some 1), (.box 32 (.tmp 0)), none⟩, ⟨(some 2), (.assign (.const (.bool false))), none⟩]
instance : Live r_pastisDot_1 := ⟨[0]⟩
def r_pastisDot_2 : List SOp :=
  [⟨(some 3), (.fieldAddr 32 (.tmp 1) 0), none⟩, ⟨(some 4), (.load 3 (.tmp 3)), none⟩, ⟨(some 5), (.binOp .geq 3 (.tmp 4) (.const (.int .i64 0)) 3), none⟩, ⟨(some 6), (.move (.tmp 5)), none⟩, ⟨(some 7), (.fieldAddr 32 (.tmp 1) 0), (some ((some 6), true))⟩, ⟨(some 8), (.load 3 (.tmp 7)), (some ((some 6), true))⟩, ⟨(some 9), (.binOp .lss 3 (.tmp 8) (.const (.int .i64 16)) 3), (some ((some 6), true))⟩, ⟨(some 10), (.pick (.tmp 6) (.tmp 9) (.const (.bool false))), none⟩, ⟨(some 11), (.move (.tmp 10)), none⟩, ⟨(some 12), (.fieldAddr 32 (.tmp 1) 1), (some ((some 11), true))⟩, ⟨(some 13), (.load 3 (.tmp 12)), (some ((some 11), true))⟩, ⟨(some 14), (.binOp .geq 3 (.tmp 13) (.const (.int .i64 1)) 3), (some ((some 11), true))⟩, ⟨(some 15), (.pick (.tmp 11) (.tmp 14) (.const (.bool false))), none⟩, ⟨(some 16), (.move (.tmp 15)), none⟩, ⟨(some 17), (.fieldAddr 32 (.tmp 1) 1), (some ((some 16), true))⟩, ⟨(some 18), (.load 3 (.tmp 17)), (some ((some 16), true))⟩, ⟨(some 19), (.binOp .leq 3 (.tmp 18) (.const (.int .i64 1000000000)) 3), (some ((some 16), true))⟩, ⟨(some 20), (.pick (.tmp 16) (.tmp 19) (.const (.bool false))), none⟩, ⟨(some 2), (.assign (.tmp 20)), none⟩]
instance : Live r_pastisDot_2 := ⟨[1]⟩
def t_pastisDot : SC :=
  (.seq (.ops false r_pastisDot_1) (.seq (.ops false r_pastisDot_2) .ret))
theorem it_pastisDot : FnIs Try.prog 49 21 [.tmp 2] t_pastisDot := ⟨Try.f49, _, Try.func49, rfl, rfl, rfl, rfl, by kernel_rfl⟩
end Go.Proofs.Ytdmfjkhbodbgoaa.Avm

namespace Go.Proofs.Ytdmfjkhbodbgoaa.Avm
open Go.Proofs
def r_slicesContainsFuncapiSpanapiSpan_1 : List SOp :=
  [⟨(some 4), (.assign (.const (.bool false))), none⟩]
instance : Live r_slicesContainsFuncapiSpanapiSpan_1 := ⟨[0, 1]⟩
def r_slicesContainsFuncapiSpanapiSpan_2 : List SOp :=
  [⟨(some 5), (.move (.tmp 0)), none⟩, ⟨(some 6), (.move (.tmp 1)), none⟩, ⟨(some 7), (.call ⟨.value (.func 89), #[.tmp 5, .tmp 6], #[23, 63]⟩), none⟩, ⟨(some 8), (.binOp .geq 3 (.tmp 7) (.const (.int .i64 0)) 3), none⟩, ⟨(some 4), (.assign (.tmp 8)), none⟩]
instance : Live r_slicesContainsFuncapiSpanapiSpan_2 := ⟨[0, 1]⟩
def t_slicesContainsFuncapiSpanapiSpan : SC :=
  (.seq (.ops false r_slicesContainsFuncapiSpanapiSpan_1) (.seq (.ops false r_slicesContainsFuncapiSpanapiSpan_2) .ret))
theorem it_slicesContainsFuncapiSpanapiSpan : FnIs Try.prog 50 9 [.tmp 4] t_slicesContainsFuncapiSpanapiSpan := ⟨Try.f50, _, Try.func50, rfl, rfl, rfl, rfl, by kernel_rfl⟩
end Go.Proofs.Ytdmfjkhbodbgoaa.Avm

namespace Go.Proofs.Ytdmfjkhbodbgoaa.Avm
open Go.Proofs
def r_pastHas1_1 : List SOp :=
  [⟨(some 2), (.box 41 (.tmp 0)), none⟩, ⟨(some 3), (.assign (.const (.bool false))), none⟩]
instance : Live r_pastHas1_1 := ⟨[0, 1]⟩
def r_pastHas1_2 : List SOp :=
  [⟨(some 4), (.fieldAddr 41 (.tmp 2) 0), none⟩, ⟨(some 5), (.load 3 (.tmp 4)), none⟩, ⟨(some 6), (.fieldAddr 32 (.tmp 1) 0), none⟩, ⟨(some 7), (.load 3 (.tmp 6)), none⟩, ⟨(some 8), (.binOp .eql 3 (.tmp 5) (.tmp 7) 3), none⟩, ⟨(some 9), (.move (.tmp 8)), none⟩, ⟨(some 10), (.fieldAddr 41 (.tmp 2) 1), (some ((some 9), true))⟩, ⟨(some 11), (.load 3 (.tmp 10)), (some ((some 9), true))⟩, ⟨(some 12), (.fieldAddr 32 (.tmp 1) 1), (some ((some 9), true))⟩, ⟨(some 13), (.load 3 (.tmp 12)), (some ((some 9), true))⟩, ⟨(some 14), (.binOp .leq 3 (.tmp 11) (.tmp 13) 3), (some ((some 9), true))⟩, ⟨(some 15), (.pick (.tmp 9) (.tmp 14) (.const (.bool false))), none⟩, ⟨(some 16), (.move (.tmp 15)), none⟩, ⟨(some 17), (.fieldAddr 32 (.tmp 1) 1), (some ((some 16), true))⟩, ⟨(some 18), (.load 3 (.tmp 17)), (some ((some 16), true))⟩, ⟨(some 19), (.fieldAddr 41 (.tmp 2) 2), (some ((some 16), true))⟩, ⟨(some 20), (.load 3 (.tmp 19)), (some ((some 16), true))⟩, ⟨(some 21), (.binOp .leq 3 (.tmp 18) (.tmp 20) 3), (some ((some 16), true))⟩, ⟨(some 22), (.pick (.tmp 16) (.tmp 21) (.const (.bool false))), none⟩, ⟨(some 3), (.assign (.tmp 22)), none⟩]
instance : Live r_pastHas1_2 := ⟨[1, 2]⟩
def t_pastHas1 : SC :=
  (.seq (.ops false r_pastHas1_1) (.seq (.ops false r_pastHas1_2) .ret))
theorem it_pastHas1 : FnIs Try.prog 51 23 [.tmp 3] t_pastHas1 := ⟨Try.f51, _, Try.func51, rfl, rfl, rfl, rfl, by kernel_rfl⟩
end Go.Proofs.Ytdmfjkhbodbgoaa.Avm

namespace Go.Proofs.Ytdmfjkhbodbgoaa.Avm
open Go.Proofs
def r_slicesIndexFuncapiSpanapiSpan_1 : List SOp :=
  [⟨(some 4), (.assign (.const (.int .i64 0))), none⟩]
instance : Live r_slicesIndexFuncapiSpanapiSpan_1 := ⟨[0, 1]⟩
def r_slicesIndexFuncapiSpanapiSpan_2 : List SOp :=
  [⟨(some 6), (.move (.tmp 0)), none⟩, ⟨(some 7), (.call ⟨.builtin .len, #[.tmp 6], #[23]⟩), none⟩, ⟨(some 8), (.move (.const (.int .i64 0))), none⟩]
instance : Live r_slicesIndexFuncapiSpanapiSpan_2 := ⟨[0, 1]⟩
def r_slicesIndexFuncapiSpanapiSpan_3 : List SOp :=
  [⟨(some 9), (.binOp .lss 3 (.tmp 8) (.tmp 7) 3), none⟩]
instance : Live r_slicesIndexFuncapiSpanapiSpan_3 := ⟨[0, 1, 7, 8]⟩
def r_slicesIndexFuncapiSpanapiSpan_4 : List SOp :=
  [⟨(some 10), (.move (.tmp 8)), none⟩, ⟨(some 5), (.assign (.tmp 10)), none⟩]
instance : Live r_slicesIndexFuncapiSpanapiSpan_4 := ⟨[0, 1, 7, 8]⟩
def r_slicesIndexFuncapiSpanapiSpan_5 : List SOp :=
  [⟨(some 11), (.move (.tmp 1)), none⟩, ⟨(some 12), (.move (.tmp 0)), none⟩, ⟨(some 13), (.move (.tmp 5)), none⟩, ⟨(some 14), (.indexAddr 23 (.tmp 12) (.tmp 13)), none⟩, ⟨(some 15), (.load 41 (.tmp 14)), none⟩, ⟨(some 16), (.call ⟨.value (.tmp 11), #[.tmp 15], #[41]⟩), none⟩]
instance : Live r_slicesIndexFuncapiSpanapiSpan_5 := ⟨[0, 1, 5, 7, 8]⟩
def r_slicesIndexFuncapiSpanapiSpan_6 : List SOp :=
  [⟨(some 17), (.move (.tmp 5)), none⟩, ⟨(some 4), (.assign (.tmp 17)), none⟩]
instance : Live r_slicesIndexFuncapiSpanapiSpan_6 := ⟨[5]⟩
def r_slicesIndexFuncapiSpanapiSpan_7 : List SOp :=
  [⟨(some 18), (.binOp .add 3 (.tmp 8) (.const (.int .i64 1)) 3), none⟩, ⟨(some 8), (.move (.tmp 18)), none⟩]
instance : Live r_slicesIndexFuncapiSpanapiSpan_7 := ⟨[0, 1, 7, 8]⟩
def r_slicesIndexFuncapiSpanapiSpan_8 : List SOp :=
  [⟨(some 4), (.assign (.const (.int .i64 (-1)))), none⟩]
instance : Live r_slicesIndexFuncapiSpanapiSpan_8 := ⟨[]⟩
def t_slicesIndexFuncapiSpanapiSpan_l1 : SC :=
  (.seq (.ops false r_slicesIndexFuncapiSpanapiSpan_3) (.seq (.cond (.tmp 9) .skip (.exit 0)) (.seq (.block 1 (.seq (.ops false r_slicesIndexFuncapiSpanapiSpan_4) (.seq (.ops false r_slicesIndexFuncapiSpanapiSpan_5) (.cond (.tmp 16) (.seq (.ops false r_slicesIndexFuncapiSpanapiSpan_6) .ret) .skip)))) (.ops false r_slicesIndexFuncapiSpanapiSpan_7))))
def t_slicesIndexFuncapiSpanapiSpan : SC :=
  (.seq (.ops false r_slicesIndexFuncapiSpanapiSpan_1) (.seq (.seq (.ops false r_slicesIndexFuncapiSpanapiSpan_2) (.block 0 (.loop t_slicesIndexFuncapiSpanapiSpan_l1))) (.seq (.ops false r_slicesIndexFuncapiSpanapiSpan_8) .ret)))
theorem it_slicesIndexFuncapiSpanapiSpan : FnIs Try.prog 89 19 [.tmp 4] t_slicesIndexFuncapiSpanapiSpan := ⟨Try.f89, _, Try.func89, rfl, rfl, rfl, rfl, by kernel_rfl⟩
end Go.Proofs.Ytdmfjkhbodbgoaa.Avm

namespace Go.Proofs.Ytdmfjkhbodbgoaa.Avm
open Go.Proofs
def LoopP (n : Nat) (s2 : AS) (I : Prop) (Q : Ex → AS → Prop) : Ex → AS → Prop := Ex.then (fun s' => Wk n s' s2 ∧ I) Q
theorem Fin.nextP {E : Env} {n : Nat} {s s2 : AS} {I : Prop} {Q' : Ex → AS → Prop} (h : Wk n s s2) (hi : I) : Fin E n (LoopP n s2 I Q') .done .normal s := ⟨h, hi⟩
theorem Fin.outP {E : Env} {n : Nat} {s s2 : AS} {I : Prop} {Q : Ex → AS → Prop} {k : Kont} {id : Nat} (h : Fin E n Q k (.exit id) s) : Fin E n (LoopP n s2 I (KQ E n Q k)) .done (.exit id) s := h
theorem Fin.outP_ret {E : Env} {n : Nat} {s s2 : AS} {I : Prop} {Q : Ex → AS → Prop} {k : Kont} (h : Fin E n Q k .ret s) : Fin E n (LoopP n s2 I (KQ E n Q k)) .done .ret s := h
theorem Run.rangeP {E : Env} {n : Nat} {Q : Ex → AS → Prop} {k : Kont} {s : AS} {x : SC} (len : Nat) (S : Nat → AS) (I : Nat → Prop) (h0 : Wk n s (S 0)) (hI : I 0) (round : ∀ i, i < len → I i → Run E n (LoopP n (S (i + 1)) (I (i + 1)) (KQ E n Q k)) x .done (S i))
    (last : I len → Run E n (Ex.then (fun _ => False) (KQ E n Q k)) x .done (S len)) : Run E n Q (.loop x) k s := by
  refine Run.wk h0 (Run.loop (fun m s => ∃ i, i ≤ len ∧ m = len - i ∧ s = S i ∧ I i) (m0 := len) ⟨0, Nat.zero_le _, rfl, rfl, hI⟩ fun m s ⟨i, hi, hm, hs, hIi⟩ => ?_)
  subst hs
  by_cases hl : i < len
  · refine AW.mono (round i hl hIi) fun e s' h => ?_
    cases e with
    | normal => exact ⟨len - (i + 1), S (i + 1), by omega, h.1, i + 1, hl, rfl, rfl, h.2⟩
    | _ => exact h
  · have : i = len := by omega
    subst this
    refine AW.mono (last hIi) fun e s' h => ?_
    cases e with
    | normal => exact h.elim
    | _ => exact h
def isDotR (r m : Int) : Bool := decide (0 ≤ r) && (decide (r < 16) && (decide (1 ≤ m) && decide (m ≤ 1000000000)))
theorem ev_pastisDot (d : Rn) : Ev (En Try.prog rfl).P 49 [encR d] (.ret (.bool (isDotR d.1 d.2))) := by
  refine Ev.of_body it_pastisDot (by simp) (Run.start ?_)
  unfold t_pastisDot encR isDotR
  cases c1 : decide (0 ≤ d.1)
  · (focus (have hF := @c1; (repeat' (first | (with_reducible refine Nx.of ?_) | ((with_reducible apply toV); refine stV (k := ?_)) | ((with_reducible apply toG); refine stG (k := ?_); (with_reducible refine Nx.of ?_)) | ((with_reducible apply toG0); refine stG0 (k := ?_); (with_reducible refine Nx.of ?_)) | ((with_reducible apply toC); refine stC (k := ?_); (with_reducible refine Nx.of ?_)) | ((with_reducible apply toO); refine stO (k := ?_)) | ((with_reducible apply toX); refine stX (k := ?_)) | fail)); (all_goals clear hF)))
    exact Fin.tmp' rfl rfl
  · cases c2 : decide (d.1 < 16)
    · (focus (have hF := (And.intro @c1 @c2); (repeat' (first | (with_reducible refine Nx.of ?_) | ((with_reducible apply toV); refine stV (k := ?_)) | ((with_reducible apply toG); refine stG (k := ?_); (with_reducible refine Nx.of ?_)) | ((with_reducible apply toG0); refine stG0 (k := ?_); (with_reducible refine Nx.of ?_)) | ((with_reducible apply toC); refine stC (k := ?_); (with_reducible refine Nx.of ?_)) | ((with_reducible apply toO); refine stO (k := ?_)) | ((with_reducible apply toX); refine stX (k := ?_)) | fail)); (all_goals clear hF)))
      exact Fin.tmp' rfl rfl
    · cases c3 : decide (1 ≤ d.2)
      · (focus (have hF := (And.intro @c1 (And.intro @c2 @c3)); (repeat' (first | (with_reducible refine Nx.of ?_) | ((with_reducible apply toV); refine stV (k := ?_)) | ((with_reducible apply toG); refine stG (k := ?_); (with_reducible refine Nx.of ?_)) | ((with_reducible apply toG0); refine stG0 (k := ?_); (with_reducible refine Nx.of ?_)) | ((with_reducible apply toC); refine stC (k := ?_); (with_reducible refine Nx.of ?_)) | ((with_reducible apply toO); refine stO (k := ?_)) | ((with_reducible apply toX); refine stX (k := ?_)) | fail)); (all_goals clear hF)))
        exact Fin.tmp' rfl rfl
      · (focus (have hF := (And.intro @c1 (And.intro @c2 @c3)); (repeat' (first | (with_reducible refine Nx.of ?_) | ((with_reducible apply toV); refine stV (k := ?_)) | ((with_reducible apply toG); refine stG (k := ?_); (with_reducible refine Nx.of ?_)) | ((with_reducible apply toG0); refine stG0 (k := ?_); (with_reducible refine Nx.of ?_)) | ((with_reducible apply toC); refine stC (k := ?_); (with_reducible refine Nx.of ?_)) | ((with_reducible apply toO); refine stO (k := ?_)) | ((with_reducible apply toX); refine stX (k := ?_)) | fail)); (all_goals clear hF)))
        exact Fin.tmp' rfl rfl
def inSn (d : Rn) (s : Sn) : Bool := decide (s.1 = d.1) && (decide (s.2.1 ≤ d.2) && decide (d.2 ≤ s.2.2))
theorem ev_pastHas1 (d : Rn) (s : Sn) : Ev (En Try.prog rfl).P 51 [encS s, .sptr [.int .i64 d.1, .int .i64 d.2]] (.ret (.bool (inSn d s))) := by
  refine Ev.of_body it_pastHas1 (by simp) (Run.start ?_)
  unfold t_pastHas1 encS inSn
  cases c1 : decide (s.1 = d.1)
  · (focus (have hF := @c1; (repeat' (first | (with_reducible refine Nx.of ?_) | ((with_reducible apply toV); refine stV (k := ?_)) | ((with_reducible apply toG); refine stG (k := ?_); (with_reducible refine Nx.of ?_)) | ((with_reducible apply toG0); refine stG0 (k := ?_); (with_reducible refine Nx.of ?_)) | ((with_reducible apply toC); refine stC (k := ?_); (with_reducible refine Nx.of ?_)) | ((with_reducible apply toO); refine stO (k := ?_)) | ((with_reducible apply toX); refine stX (k := ?_)) | fail)); (all_goals clear hF)))
    exact Fin.tmp' rfl rfl
  · cases c2 : decide (s.2.1 ≤ d.2)
    · (focus (have hF := (And.intro @c1 @c2); (repeat' (first | (with_reducible refine Nx.of ?_) | ((with_reducible apply toV); refine stV (k := ?_)) | ((with_reducible apply toG); refine stG (k := ?_); (with_reducible refine Nx.of ?_)) | ((with_reducible apply toG0); refine stG0 (k := ?_); (with_reducible refine Nx.of ?_)) | ((with_reducible apply toC); refine stC (k := ?_); (with_reducible refine Nx.of ?_)) | ((with_reducible apply toO); refine stO (k := ?_)) | ((with_reducible apply toX); refine stX (k := ?_)) | fail)); (all_goals clear hF)))
      exact Fin.tmp' rfl rfl
    · (focus (have hF := (And.intro @c1 @c2); (repeat' (first | (with_reducible refine Nx.of ?_) | ((with_reducible apply toV); refine stV (k := ?_)) | ((with_reducible apply toG); refine stG (k := ?_); (with_reducible refine Nx.of ?_)) | ((with_reducible apply toG0); refine stG0 (k := ?_); (with_reducible refine Nx.of ?_)) | ((with_reducible apply toC); refine stC (k := ?_); (with_reducible refine Nx.of ?_)) | ((with_reducible apply toO); refine stO (k := ?_)) | ((with_reducible apply toX); refine stX (k := ?_)) | fail)); (all_goals clear hF)))
      exact Fin.tmp' rfl rfl
def idxR (q : Sn → Bool) (l : List Sn) : Int := match l.findIdx? q with | some i => i | none => -1
theorem ev_slicesIndexFuncapiSpanapiSpan (l : List Sn) (hl : l.length ≤ 1000000000) (g : FuncId) (caps : List AVal) (hs : stbs caps = true) (hc : caps.map (fz (fun _ => false) NoM) = caps) (q : Sn → Bool) (hf : ∀ s ∈ l, Ev (En Try.prog rfl).P g (encS s :: caps) (.ret (.bool (q s)))) :
    Ev (En Try.prog rfl).P 89 [.sl 3 (encSs l), .fn g caps] (.ret (.int .i64 (idxR q l))) := by
  refine Ev.of_body it_slicesIndexFuncapiSpanapiSpan (by simp) (Run.start ?_)
  unfold t_slicesIndexFuncapiSpanapiSpan
  have e4 : (encSs l).length = l.length := encSs_len _
  (focus (have hF := @e4; (repeat' (first | (with_reducible refine Nx.of ?_) | ((with_reducible apply toV); refine stV (k := ?_)) | ((with_reducible apply toG); refine stG (k := ?_); (with_reducible refine Nx.of ?_)) | ((with_reducible apply toG0); refine stG0 (k := ?_); (with_reducible refine Nx.of ?_)) | ((with_reducible apply toC); refine stC (k := ?_); (with_reducible refine Nx.of ?_)) | ((with_reducible apply toO); refine stO (k := ?_)) | ((with_reducible apply toX); refine stX (k := ?_)) | fail)); (all_goals clear hF)))
  refine Run.rangeP l.length (fun i => ⟨tms [(0, .sl 3 (encSs l)), (1, .fn g caps), (7, .int .i64 l.length), (8, .int .i64 i)], NoM⟩) (fun i => ∀ x ∈ l.take i, q x = false) (Wk.clean _ ⟨rfl, rfl, rfl, rfl, trivial⟩ ⟨encSs_stb l, hs, rfl, rfl, trivial⟩) (by simp) (fun i hi hI => ?_) (fun hI => ?_)
  · obtain ⟨s, hsx⟩ : ∃ s, l[i]? = some s := ⟨l[i], by simp [hi]⟩
    have e1 : ((i : Int) < (l.length : Int)) = True := by simp only [eq_iff_iff, iff_true]; omega
    have e2 : (0 ≤ (i : Int)) = True := by simp
    have e3 : (encSs l)[i]? = some (.agg [.int .i64 s.1, .int .i64 s.2.1, .int .i64 s.2.2]) := encSs_get hsx
    have e13 : IntKind.i64.wrap ((i : Int) + 1) = ((i + 1 : Nat) : Int) := by rw [wrap_id (by omega)]; omega
    unfold t_slicesIndexFuncapiSpanapiSpan_l1
    (focus (have hF := (And.intro (And.intro @e1 @e2) (And.intro @e3 @e4)); (repeat' (first | (with_reducible refine Nx.of ?_) | ((with_reducible apply toV); refine stV (k := ?_)) | ((with_reducible apply toG); refine stG (k := ?_); (with_reducible refine Nx.of ?_)) | ((with_reducible apply toG0); refine stG0 (k := ?_); (with_reducible refine Nx.of ?_)) | ((with_reducible apply toC); refine stC (k := ?_); (with_reducible refine Nx.of ?_)) | ((with_reducible apply toO); refine stO (k := ?_)) | ((with_reducible apply toX); refine stX (k := ?_)) | fail)); (all_goals clear hF)))
    refine awp_pure (l := encS s :: caps) rfl ?_ (by simp [stbs, encS, AVal.stb, hs]) (hf s (List.mem_of_getElem? hsx)) ?_
    · show _ :: caps.map (fz (fun _ => false) NoM) = _
      rw [hc]
      rfl
    cases hq : q s
    · (focus (have hF := (And.intro (And.intro @e1 @e2) (And.intro @e3 (And.intro @e4 @e13))); (repeat' (first | (with_reducible refine Nx.of ?_) | ((with_reducible apply toV); refine stV (k := ?_)) | ((with_reducible apply toG); refine stG (k := ?_); (with_reducible refine Nx.of ?_)) | ((with_reducible apply toG0); refine stG0 (k := ?_); (with_reducible refine Nx.of ?_)) | ((with_reducible apply toC); refine stC (k := ?_); (with_reducible refine Nx.of ?_)) | ((with_reducible apply toO); refine stO (k := ?_)) | ((with_reducible apply toX); refine stX (k := ?_)) | fail)); (all_goals clear hF)))
      refine Fin.nextP (Wk.clean _ ⟨rfl, rfl, rfl, rfl, trivial⟩ ⟨encSs_stb l, hs, rfl, rfl, trivial⟩) (fun x hx => ?_)
      rw [List.take_add_one, hsx] at hx
      rcases List.mem_append.1 hx with hx | hx
      · exact hI x hx
      · simp at hx; subst hx; exact hq
    · (focus (have hF := (And.intro (And.intro @e1 @e2) (And.intro @e3 (And.intro @e4 @e13))); (repeat' (first | (with_reducible refine Nx.of ?_) | ((with_reducible apply toV); refine stV (k := ?_)) | ((with_reducible apply toG); refine stG (k := ?_); (with_reducible refine Nx.of ?_)) | ((with_reducible apply toG0); refine stG0 (k := ?_); (with_reducible refine Nx.of ?_)) | ((with_reducible apply toC); refine stC (k := ?_); (with_reducible refine Nx.of ?_)) | ((with_reducible apply toO); refine stO (k := ?_)) | ((with_reducible apply toX); refine stX (k := ?_)) | fail)); (all_goals clear hF)))
      have hidx : l.findIdx? q = some i := by
        rw [List.findIdx?_eq_some_iff_getElem]
        refine ⟨hi, by have := hsx; rw [List.getElem?_eq_getElem hi] at this; cases this; exact hq, fun j hj => ?_⟩
        have : l[j] ∈ l.take i := by rw [List.mem_take_iff_getElem]; exact ⟨j, by omega, rfl⟩
        simp [hI _ this]
      unfold idxR
      rw [hidx]
      exact Fin.outP_ret (Fin.block_ret (Fin.seq_ret (Fin.tmp' rfl rfl)))
  · have e1 : ((l.length : Int) < (l.length : Int)) = False := by simp
    unfold t_slicesIndexFuncapiSpanapiSpan_l1
    (focus (have hF := @e1; (repeat' (first | (with_reducible refine Nx.of ?_) | ((with_reducible apply toV); refine stV (k := ?_)) | ((with_reducible apply toG); refine stG (k := ?_); (with_reducible refine Nx.of ?_)) | ((with_reducible apply toG0); refine stG0 (k := ?_); (with_reducible refine Nx.of ?_)) | ((with_reducible apply toC); refine stC (k := ?_); (with_reducible refine Nx.of ?_)) | ((with_reducible apply toO); refine stO (k := ?_)) | ((with_reducible apply toX); refine stX (k := ?_)) | fail)); (all_goals clear hF)))
    have hidx : l.findIdx? q = none := by
      rw [List.findIdx?_eq_none_iff]
      rw [List.take_length] at hI
      exact hI
    unfold idxR
    rw [hidx]
    exact Fin.tmp' rfl rfl
theorem idxR_any (q : Sn → Bool) (l : List Sn) : decide (0 ≤ idxR q l) = l.any q := by
  unfold idxR
  cases h : l.findIdx? q with
  | none =>
    rw [List.findIdx?_eq_none_iff] at h
    have : l.any q = false := by rw [List.any_eq_false]; intro x hx; simp [h x hx]
    rw [this]
    rfl
  | some i =>
    obtain ⟨hi, hq, _⟩ := List.findIdx?_eq_some_iff_getElem.1 h
    have : l.any q = true := List.any_eq_true.2 ⟨l[i], List.getElem_mem hi, hq⟩
    rw [this]
    simp
theorem ev_slicesContainsFuncapiSpanapiSpan (l : List Sn) (hl : l.length ≤ 1000000000) (g : FuncId) (caps : List AVal) (hs : stbs caps = true) (hc : caps.map (fz (fun _ => false) NoM) = caps)
    (hc2 : caps.map (fun c => match c with | .ptr k off => AVal.undef | c => fzc (fun _ => false) NoM c) = caps) (q : Sn → Bool) (hf : ∀ s ∈ l, Ev (En Try.prog rfl).P g (encS s :: caps) (.ret (.bool (q s)))) :
    Ev (En Try.prog rfl).P 50 [.sl 3 (encSs l), .fn g caps] (.ret (.bool (l.any q))) := by
  refine Ev.of_body it_slicesContainsFuncapiSpanapiSpan (by simp) (Run.start ?_)
  unfold t_slicesContainsFuncapiSpanapiSpan
  rw [← idxR_any]
  (focus (have hF := True.intro; (repeat' (first | (with_reducible refine Nx.of ?_) | ((with_reducible apply toV); refine stV (k := ?_)) | ((with_reducible apply toG); refine stG (k := ?_); (with_reducible refine Nx.of ?_)) | ((with_reducible apply toG0); refine stG0 (k := ?_); (with_reducible refine Nx.of ?_)) | ((with_reducible apply toC); refine stC (k := ?_); (with_reducible refine Nx.of ?_)) | ((with_reducible apply toO); refine stO (k := ?_)) | ((with_reducible apply toX); refine stX (k := ?_)) | fail)); (all_goals clear hF)))
  refine awp_pure (l := [.sl 3 (encSs l), .fn g caps]) rfl ?_ (by simp [stbs, AVal.stb, hs, encSs_stb]) (ev_slicesIndexFuncapiSpanapiSpan l hl g caps hs hc q hf) ?_
  · show [AVal.sl 3 (encSs l), AVal.fn g _] = _
    congr 3
  (focus (have hF := True.intro; (repeat' (first | (with_reducible refine Nx.of ?_) | ((with_reducible apply toV); refine stV (k := ?_)) | ((with_reducible apply toG); refine stG (k := ?_); (with_reducible refine Nx.of ?_)) | ((with_reducible apply toG0); refine stG0 (k := ?_); (with_reducible refine Nx.of ?_)) | ((with_reducible apply toC); refine stC (k := ?_); (with_reducible refine Nx.of ?_)) | ((with_reducible apply toO); refine stO (k := ?_)) | ((with_reducible apply toX); refine stX (k := ?_)) | fail)); (all_goals clear hF)))
  exact Fin.tmp' rfl rfl
def hasP (p : Pst) (d : Rn) : Bool := isDotR d.1 d.2 && ((decide (d.1 < p.vec.length) && decide (d.2 ≤ vecAt p.vec d.1.toNat)) || p.cloud.any (inSn d))
theorem ev_pastHas (p : Pst) (d : Rn) (hw : wt p ≤ 900000000) : Ev (En Try.prog rfl).P 15 [encP p, encR d] (.ret (.bool (hasP p d))) := by
  refine Ev.of_body it_pastHas (by simp) (Run.start ?_)
  have hwt : wt p = p.vec.length + p.cloud.length := rfl
  have e0 : (encIs p.vec).length = p.vec.length := encIs_len _
  unfold t_pastHas encP
  have hx : encR d = .agg [.int .i64 d.1, .int .i64 d.2] := rfl
  rw [hx]
  (focus (have hF := True.intro; (repeat' (first | (with_reducible refine Nx.of ?_) | ((with_reducible apply toV); refine stV (k := ?_)) | ((with_reducible apply toG); refine stG (k := ?_); (with_reducible refine Nx.of ?_)) | ((with_reducible apply toG0); refine stG0 (k := ?_); (with_reducible refine Nx.of ?_)) | ((with_reducible apply toC); refine stC (k := ?_); (with_reducible refine Nx.of ?_)) | ((with_reducible apply toO); refine stO (k := ?_)) | ((with_reducible apply toX); refine stX (k := ?_)) | fail)); (all_goals clear hF)))
  refine awp_pure (l := [encR d]) rfl rfl rfl (ev_pastisDot d) ?_
  unfold hasP
  cases c0 : isDotR d.1 d.2
  · (focus (have hF := @e0; (repeat' (first | (with_reducible refine Nx.of ?_) | ((with_reducible apply toV); refine stV (k := ?_)) | ((with_reducible apply toG); refine stG (k := ?_); (with_reducible refine Nx.of ?_)) | ((with_reducible apply toG0); refine stG0 (k := ?_); (with_reducible refine Nx.of ?_)) | ((with_reducible apply toC); refine stC (k := ?_); (with_reducible refine Nx.of ?_)) | ((with_reducible apply toO); refine stO (k := ?_)) | ((with_reducible apply toX); refine stX (k := ?_)) | fail)); (all_goals clear hF)))
    exact Fin.tmp' rfl rfl
  · have hd : 0 ≤ d.1 ∧ d.1 < 16 := by simp [isDotR] at c0; omega
    obtain ⟨r, hr⟩ : ∃ r : Nat, d.1 = r := ⟨d.1.toNat, by omega⟩
    have hcall : Ev (En Try.prog rfl).P 50 [.sl 3 (encSs p.cloud), .fn 51 [.sptr [.int .i64 d.1, .int .i64 d.2]]] (.ret (.bool (p.cloud.any (inSn d)))) :=
      ev_slicesContainsFuncapiSpanapiSpan p.cloud (by omega) 51 _ rfl rfl rfl (inSn d) (fun s _ => ev_pastHas1 d s)
    cases c1 : decide (d.1 < (p.vec.length : Int))
    · (focus (have hF := (And.intro @e0 @c1); (repeat' (first | (with_reducible refine Nx.of ?_) | ((with_reducible apply toV); refine stV (k := ?_)) | ((with_reducible apply toG); refine stG (k := ?_); (with_reducible refine Nx.of ?_)) | ((with_reducible apply toG0); refine stG0 (k := ?_); (with_reducible refine Nx.of ?_)) | ((with_reducible apply toC); refine stC (k := ?_); (with_reducible refine Nx.of ?_)) | ((with_reducible apply toO); refine stO (k := ?_)) | ((with_reducible apply toX); refine stX (k := ?_)) | fail)); (all_goals clear hF)))
      refine awp_lend (fun j => j == 3) (l := [.sl 3 (encSs p.cloud), .fn 51 [.sptr [.int .i64 d.1, .int .i64 d.2]]]) rfl rfl (by simp [stbs, AVal.stb, encSs_stb]) hcall rfl rfl ?_
      (focus (have hF := @e0; (repeat' (first | (with_reducible refine Nx.of ?_) | ((with_reducible apply toV); refine stV (k := ?_)) | ((with_reducible apply toG); refine stG (k := ?_); (with_reducible refine Nx.of ?_)) | ((with_reducible apply toG0); refine stG0 (k := ?_); (with_reducible refine Nx.of ?_)) | ((with_reducible apply toC); refine stC (k := ?_); (with_reducible refine Nx.of ?_)) | ((with_reducible apply toO); refine stO (k := ?_)) | ((with_reducible apply toX); refine stX (k := ?_)) | fail)); (all_goals clear hF)))
      exact Fin.tmp' rfl rfl
    · have hrl : r < p.vec.length := by simp at c1; omega
      have e1 : (encIs p.vec)[r]? = some (.int .i64 (vecAt p.vec r)) := encIs_get (by simp [vecAt, hrl])
      have e2 : (0 ≤ (r : Int)) = True := by simp
      have e3 : ((r : Int) < (p.vec.length : Int)) = True := by simp only [eq_iff_iff, iff_true]; omega
      rw [hr] at c1 hcall ⊢
      rw [Int.toNat_natCast]
      cases c2 : decide (d.2 ≤ vecAt p.vec r)
      · (focus (have hF := (And.intro (And.intro @e0 (And.intro @e1 @e2)) (And.intro @e3 (And.intro @c1 @c2))); (repeat' (first | (with_reducible refine Nx.of ?_) | ((with_reducible apply toV); refine stV (k := ?_)) | ((with_reducible apply toG); refine stG (k := ?_); (with_reducible refine Nx.of ?_)) | ((with_reducible apply toG0); refine stG0 (k := ?_); (with_reducible refine Nx.of ?_)) | ((with_reducible apply toC); refine stC (k := ?_); (with_reducible refine Nx.of ?_)) | ((with_reducible apply toO); refine stO (k := ?_)) | ((with_reducible apply toX); refine stX (k := ?_)) | fail)); (all_goals clear hF)))
        refine awp_lend (fun j => j == 3) (l := [.sl 3 (encSs p.cloud), .fn 51 [.sptr [.int .i64 r, .int .i64 d.2]]]) rfl rfl (by simp [stbs, AVal.stb, encSs_stb]) hcall rfl rfl ?_
        (focus (have hF := @e0; (repeat' (first | (with_reducible refine Nx.of ?_) | ((with_reducible apply toV); refine stV (k := ?_)) | ((with_reducible apply toG); refine stG (k := ?_); (with_reducible refine Nx.of ?_)) | ((with_reducible apply toG0); refine stG0 (k := ?_); (with_reducible refine Nx.of ?_)) | ((with_reducible apply toC); refine stC (k := ?_); (with_reducible refine Nx.of ?_)) | ((with_reducible apply toO); refine stO (k := ?_)) | ((with_reducible apply toX); refine stX (k := ?_)) | fail)); (all_goals clear hF)))
        exact Fin.tmp' rfl rfl
      · (focus (have hF := (And.intro (And.intro @e0 (And.intro @e1 @e2)) (And.intro @e3 (And.intro @c1 @c2))); (repeat' (first | (with_reducible refine Nx.of ?_) | ((with_reducible apply toV); refine stV (k := ?_)) | ((with_reducible apply toG); refine stG (k := ?_); (with_reducible refine Nx.of ?_)) | ((with_reducible apply toG0); refine stG0 (k := ?_); (with_reducible refine Nx.of ?_)) | ((with_reducible apply toC); refine stC (k := ?_); (with_reducible refine Nx.of ?_)) | ((with_reducible apply toO); refine stO (k := ?_)) | ((with_reducible apply toX); refine stX (k := ?_)) | fail)); (all_goals clear hF)))
        exact Fin.tmp' rfl rfl
end Go.Proofs.Ytdmfjkhbodbgoaa.Avm

namespace Go.Proofs.Ytdmfjkhbodbgoaa.Avm
open Go.Proofs
def r_pastOf_1 : List SOp :=
  [⟨(some 2), (.alloc 25), none⟩]
instance : Live r_pastOf_1 := ⟨[0]⟩
def r_pastOf_2 : List SOp :=
  [⟨(some 6), (.build 70 #[]), none⟩, ⟨(some 7), (.box 70 (.tmp 6)), none⟩, ⟨(some 3), (.assign (.tmp 7)), none⟩]
instance : Live r_pastOf_2 := ⟨[0, 2]⟩
def r_pastOf_3 : List SOp :=
  [⟨(some 8), (.move (.tmp 0)), none⟩, ⟨(some 9), (.call ⟨.builtin .len, #[.tmp 8], #[26]⟩), none⟩, ⟨(some 10), (.move (.const (.int .i64 0))), none⟩]
instance : Live r_pastOf_3 := ⟨[0, 2, 3]⟩
def r_pastOf_4 : List SOp :=
  [⟨(some 11), (.binOp .lss 3 (.tmp 10) (.tmp 9) 3), none⟩]
instance : Live r_pastOf_4 := ⟨[2, 3, 8, 9, 10]⟩
def r_pastOf_5 : List SOp :=
  [⟨(some 12), (.indexAddr 26 (.tmp 8) (.tmp 10)), none⟩, ⟨(some 13), (.load 32 (.tmp 12)), none⟩, ⟨(some 5), (.alloc 32), none⟩, ⟨none, (.store 32 (.tmp 5) (.tmp 13)), none⟩]
instance : Live r_pastOf_5 := ⟨[2, 3, 8, 9, 10]⟩
def r_pastOf_6 : List SOp :=
  [⟨(some 14), (.load 32 (.tmp 5)), none⟩, ⟨(some 15), (.call ⟨.value (.func 49), #[.tmp 14], #[32]⟩), none⟩]
instance : Live r_pastOf_6 := ⟨[2, 3, 5, 8, 9, 10]⟩
def r_pastOf_7 : List SOp :=
  [⟨(some 16), (.move (.tmp 3)), none⟩, ⟨(some 17), (.fieldAddr 32 (.tmp 5) 0), none⟩, ⟨(some 18), (.load 3 (.tmp 17)), none⟩, ⟨(some 19), (.move (.tmp 3)), none⟩, ⟨(some 20), (.fieldAddr 32 (.tmp 5) 0), none⟩, ⟨(some 21), (.load 3 (.tmp 20)), none⟩, ⟨(some 22), (.nilCheck (.tmp 19)), none⟩, ⟨(some 23), (.indexAddr 70 (.tmp 22) (.tmp 21)), none⟩, ⟨(some 24), (.load 58 (.tmp 23)), none⟩, ⟨(some 25), (.fieldAddr 32 (.tmp 5) 1), none⟩, ⟨(some 26), (.load 3 (.tmp 25)), none⟩, ⟨(some 27), (.fieldAddr 32 (.tmp 5) 1), none⟩, ⟨(some 28), (.load 3 (.tmp 27)), none⟩, ⟨(some 29), (.build 73 #[(0, .tmp 26), (1, .tmp 28)]), none⟩, ⟨(some 30), (.buildSlice 58 1 #[(0, .tmp 29)]), none⟩, ⟨(some 31), (.call ⟨.builtin .append, #[.tmp 24, .tmp 30], #[58, 58]⟩), none⟩, ⟨(some 32), (.nilCheck (.tmp 16)), none⟩, ⟨(some 33), (.indexAddr 70 (.tmp 32) (.tmp 18)), none⟩, ⟨none, (.store 58 (.tmp 33) (.tmp 31)), none⟩]
instance : Live r_pastOf_7 := ⟨[2, 3, 5, 8, 9, 10]⟩
instance : Rd r_pastOf_7 := ⟨fun j => j == 5⟩
def r_pastOf_8 : List SOp :=
  [⟨(some 34), (.binOp .add 3 (.tmp 10) (.const (.int .i64 1)) 3), none⟩, ⟨(some 10), (.move (.tmp 34)), none⟩]
instance : Live r_pastOf_8 := ⟨[2, 3, 8, 9, 10]⟩
def r_pastOf_9 : List SOp :=
  [⟨(some 35), (.move (.tmp 3)), none⟩, ⟨(some 36), (.call ⟨.value (.func 52), #[.tmp 35], #[59]⟩), none⟩, ⟨none, (.store 25 (.tmp 2) (.tmp 36)), none⟩]
instance : Live r_pastOf_9 := ⟨[2, 3]⟩
def t_pastOf_l1 : SC :=
  (.seq (.ops false r_pastOf_4) (.seq (.cond (.tmp 11) .skip (.exit 0)) (.seq (.block 1 (.seq (.ops false r_pastOf_5) (.seq (.ops false r_pastOf_6) (.cond (.tmp 15) (.opsW [24] r_pastOf_7) .skip)))) (.ops false r_pastOf_8))))
def t_pastOf : SC :=
  (.seq (.ops false r_pastOf_1) (.seq (.ops false r_pastOf_2) (.seq (.seq (.ops false r_pastOf_3) (.block 0 (.loop t_pastOf_l1))) (.seq (.ops false r_pastOf_9) .ret))))
theorem it_pastOf : FnIs Try.prog 33 37 [.cell 2 25] t_pastOf := ⟨Try.f33, _, Try.func33, rfl, rfl, rfl, rfl, by kernel_rfl⟩
end Go.Proofs.Ytdmfjkhbodbgoaa.Avm

namespace Go.Proofs.Ytdmfjkhbodbgoaa.Avm
open Go.Proofs
def putDot (t : Tab) (d : Rn) : Tab := if isDotR d.1 d.2 = true then addAt t d.1.toNat (d.2, d.2) else t
theorem putDot_in {t : Tab} {d : Rn} (h : isDotR d.1 d.2 = true) : putDot t d = addAt t d.1.toNat (d.2, d.2) := if_pos h
theorem putDot_out {t : Tab} {d : Rn} (h : isDotR d.1 d.2 = false) : putDot t d = t := if_neg (by simp [h])
def ofT (ds : List Rn) : Tab := ds.foldl putDot tab0
theorem TabLe.dot {t : Tab} {n : Nat} (h : TabLe t n) (d : Rn) : TabLe (putDot t d) (n + 1) := by
  unfold putDot
  split
  · exact h.add _ _
  · exact h.mono (by omega)
theorem TabLe.dots {t : Tab} {n : Nat} (h : TabLe t n) : ∀ c : List Rn, TabLe (c.foldl putDot t) (n + c.length)
  | [] => h
  | s :: c => by
    have := TabLe.dots (h.dot s) c
    simp only [List.foldl_cons, List.length_cons]
    exact this.mono (by omega)
theorem of_l1 {Q : Ex → AS → Prop} {k : Kont} (ds : List Rn) (hp : ds.length ≤ 1000000000)
    (h : Fin (En Try.prog rfl) 37 Q k .normal ⟨upd (tms [(2, .ptr 2 0), (3, .ptr 7 0), (8, .sl 2 (encRs ds)), (9, .int .i64 ds.length), (10, .int .i64 ds.length)]) 11 (.bool false), mms [(7, .cells (encT (ofT ds))), (2, .cells [.nil, .nil])]⟩) :
    Run (En Try.prog rfl) 37 Q (.loop t_pastOf_l1) (.block 0 k) ⟨tms [(2, .ptr 2 0), (3, .ptr 7 0), (8, .sl 2 (encRs ds)), (9, .int .i64 ds.length), (10, .int .i64 0)], mms [(7, .cells (encT tab0)), (2, .cells [.nil, .nil])]⟩ := by
  refine Run.range ds.length (fun i => ⟨tms [(2, .ptr 2 0), (3, .ptr 7 0), (8, .sl 2 (encRs ds)), (9, .int .i64 ds.length), (10, .int .i64 i)], mms [(7, .cells (encT ((ds.take i).foldl putDot tab0))), (2, .cells [.nil, .nil])]⟩) (Wk.refl _ _) (fun i hi => ?_) ?_
  · have hq0 := TabLe.dots tab0_le (ds.take i)
    obtain ⟨s, hs⟩ : ∃ s, ds[i]? = some s := ⟨ds[i], by simp [hi]⟩
    rw [foldl_take putDot tab0 ds hs]
    generalize (ds.take i).foldl putDot tab0 = u at hq0 ⊢
    obtain ⟨q1, q2⟩ := hq0
    have e1 : ((i : Int) < (ds.length : Int)) = True := by simp only [eq_iff_iff, iff_true]; omega
    have e2 : (0 ≤ (i : Int)) = True := by simp
    have e3 : (encRs ds)[i]? = some (.agg [.int .i64 s.1, .int .i64 s.2]) := encRs_get hs
    have e4 : (encRs ds).length = ds.length := encRs_len _
    have e13 : IntKind.i64.wrap ((i : Int) + 1) = ((i + 1 : Nat) : Int) := by rw [wrap_id (by omega)]; omega
    unfold t_pastOf_l1
    (focus (have hF := (And.intro (And.intro @e1 @e2) (And.intro @e3 @e4)); (repeat' (first | (with_reducible refine Nx.of ?_) | ((with_reducible apply toV); refine stV (k := ?_)) | ((with_reducible apply toG); refine stG (k := ?_); (with_reducible refine Nx.of ?_)) | ((with_reducible apply toG0); refine stG0 (k := ?_); (with_reducible refine Nx.of ?_)) | ((with_reducible apply toC); refine stC (k := ?_); (with_reducible refine Nx.of ?_)) | ((with_reducible apply toO); refine stO (k := ?_)) | ((with_reducible apply toX); refine stX (k := ?_)) | fail)); (all_goals clear hF)))
    refine awp_pure (l := [encR s]) rfl rfl rfl (ev_pastisDot s) ?_
    cases c0 : isDotR s.1 s.2
    · rw [putDot_out c0]
      (focus (have hF := (And.intro (And.intro @e1 @e2) (And.intro @e3 (And.intro @e4 @e13))); (repeat' (first | (with_reducible refine Nx.of ?_) | ((with_reducible apply toV); refine stV (k := ?_)) | ((with_reducible apply toG); refine stG (k := ?_); (with_reducible refine Nx.of ?_)) | ((with_reducible apply toG0); refine stG0 (k := ?_); (with_reducible refine Nx.of ?_)) | ((with_reducible apply toC); refine stC (k := ?_); (with_reducible refine Nx.of ?_)) | ((with_reducible apply toO); refine stO (k := ?_)) | ((with_reducible apply toX); refine stX (k := ?_)) | fail)); (all_goals clear hF)))
      exact Fin.next (Wk.toL _ _ ⟨rfl, rfl, rfl, rfl, rfl, trivial⟩ ⟨rfl, rfl, trivial⟩ ⟨rfl, rfl, encRs_stb ds, rfl, rfl, trivial⟩ ⟨encT_no _ _, rfl, trivial⟩)
    · rw [putDot_in c0]
      have hd : 0 ≤ s.1 ∧ s.1 < 16 := by simp [isDotR] at c0; omega
      obtain ⟨r, hr⟩ : ∃ r : Nat, s.1 = r := ⟨s.1.toNat, by omega⟩
      have hr16 : r < 16 := by omega
      have hru : r < u.length := by rw [q1]; exact hr16
      have e5 : (encT u)[r]? = some (.own 2 (encRs (u.getD r []))) := encT_get hru
      have e6 : ((encT u).set r .hole)[r]? = some .hole := encT_hole hru
      have e7 := encT_add hru (s.2, s.2)
      simp only at e7
      have e8 : (encRs (u.getD r [])).length = (u.getD r []).length := encRs_len _
      have hq := q2 r
      have hcl : (ds.take i).length ≤ ds.length := by rw [List.length_take]; omega
      have e9 : (((u.getD r []).length + 1) * 16 ≤ 70368744177664) = True := by simp only [eq_iff_iff, iff_true]; omega
      have e10 : ((u.getD r []).length + 1 ≤ 4611686018427387904) = True := by simp only [eq_iff_iff, iff_true]; omega
      have e11 : (encT u).length = 16 := by rw [encT_len, q1]
      have e12 : (r + 1 ≤ 16) = True := by simp only [eq_iff_iff, iff_true]; omega
      have e14 : ((r : Int) < ((16 : Nat) : Int)) = True := by simp only [eq_iff_iff, iff_true]; omega
      have e15 : (0 ≤ (r : Int)) = True := by simp
      rw [hr] at ⊢
      rw [Int.toNat_natCast]
      (focus (have hF := (And.intro (And.intro @e1 @e2) (And.intro @e3 @e4)); (repeat' (first | (with_reducible refine Nx.of ?_) | ((with_reducible apply toV); refine stV (k := ?_)) | ((with_reducible apply toG); refine stG (k := ?_); (with_reducible refine Nx.of ?_)) | ((with_reducible apply toG0); refine stG0 (k := ?_); (with_reducible refine Nx.of ?_)) | ((with_reducible apply toC); refine stC (k := ?_); (with_reducible refine Nx.of ?_)) | ((with_reducible apply toO); refine stO (k := ?_)) | ((with_reducible apply toX); refine stX (k := ?_)) | fail)); (all_goals clear hF)))
      ((with_reducible apply toW); refine stW (fun j => j == 5) (k := ?_))
      (focus (have hF := (And.intro (And.intro (And.intro (And.intro @e1 @e2) (And.intro @e3 @e4)) (And.intro (And.intro @e5 @e6) (And.intro @e7 @e8))) (And.intro (And.intro (And.intro @e9 @e10) (And.intro @e11 @e12)) (And.intro (And.intro @e13 @e14) (And.intro @e15 @List.length_set.{0})))); (repeat' (first | (with_reducible refine Nx.of ?_) | ((with_reducible apply toV); refine stV (k := ?_)) | ((with_reducible apply toG); refine stG (k := ?_); (with_reducible refine Nx.of ?_)) | ((with_reducible apply toG0); refine stG0 (k := ?_); (with_reducible refine Nx.of ?_)) | ((with_reducible apply toC); refine stC (k := ?_); (with_reducible refine Nx.of ?_)) | ((with_reducible apply toO); refine stO (k := ?_)) | ((with_reducible apply toX); refine stX (k := ?_)) | fail)); (all_goals clear hF)))
      exact Fin.next (Wk.toL _ _ ⟨rfl, rfl, rfl, rfl, rfl, trivial⟩ ⟨rfl, rfl, trivial⟩ ⟨rfl, rfl, encRs_stb ds, rfl, rfl, trivial⟩ ⟨encT_no _ _, rfl, trivial⟩)
  · have e1 : ((ds.length : Int) < (ds.length : Int)) = False := by simp
    have e3 : ds.take ds.length = ds := List.take_length
    rw [e3]
    unfold t_pastOf_l1
    (focus (have hF := @e1; (repeat' (first | (with_reducible refine Nx.of ?_) | ((with_reducible apply toV); refine stV (k := ?_)) | ((with_reducible apply toG); refine stG (k := ?_); (with_reducible refine Nx.of ?_)) | ((with_reducible apply toG0); refine stG0 (k := ?_); (with_reducible refine Nx.of ?_)) | ((with_reducible apply toC); refine stC (k := ?_); (with_reducible refine Nx.of ?_)) | ((with_reducible apply toO); refine stO (k := ?_)) | ((with_reducible apply toX); refine stX (k := ?_)) | fail)); (all_goals clear hF)))
    exact h
end Go.Proofs.Ytdmfjkhbodbgoaa.Avm

namespace Go.Proofs.Ytdmfjkhbodbgoaa.Avm
open Go.Proofs
def r_pastNorm_1 : List SOp :=
  [⟨(some 1), (.box 25 (.tmp 0)), none⟩, ⟨(some 2), (.alloc 25), none⟩]
instance : Live r_pastNorm_1 := ⟨[0]⟩
def r_pastNorm_2 : List SOp :=
  [⟨(some 3), (.load 25 (.tmp 1)), none⟩, ⟨(some 4), (.buildSlice 51 1 #[(0, .tmp 3)]), none⟩, ⟨(some 5), (.call ⟨.value (.func 47), #[.tmp 4], #[51]⟩), none⟩, ⟨(some 6), (.call ⟨.value (.func 52), #[.tmp 5], #[59]⟩), none⟩, ⟨none, (.store 25 (.tmp 2) (.tmp 6)), none⟩]
instance : Live r_pastNorm_2 := ⟨[1, 2]⟩
def t_pastNorm : SC :=
  (.seq (.ops false r_pastNorm_1) (.seq (.ops false r_pastNorm_2) .ret))
theorem it_pastNorm : FnIs Try.prog 17 7 [.cell 2 25] t_pastNorm := ⟨Try.f17, _, Try.func17, rfl, rfl, rfl, rfl, by kernel_rfl⟩
end Go.Proofs.Ytdmfjkhbodbgoaa.Avm

namespace Go.Proofs.Ytdmfjkhbodbgoaa.Avm
open Go.Proofs
def r_pastJoin_1 : List SOp :=
  [⟨(some 2), (.alloc 25), none⟩]
instance : Live r_pastJoin_1 := ⟨[0]⟩
def r_pastJoin_2 : List SOp :=
  [⟨(some 3), (.move (.tmp 0)), none⟩, ⟨(some 4), (.call ⟨.value (.func 47), #[.tmp 3], #[51]⟩), none⟩, ⟨(some 5), (.call ⟨.value (.func 52), #[.tmp 4], #[59]⟩), none⟩, ⟨none, (.store 25 (.tmp 2) (.tmp 5)), none⟩]
instance : Live r_pastJoin_2 := ⟨[0, 2]⟩
def t_pastJoin : SC :=
  (.seq (.ops false r_pastJoin_1) (.seq (.ops false r_pastJoin_2) .ret))
theorem it_pastJoin : FnIs Try.prog 20 6 [.cell 2 25] t_pastJoin := ⟨Try.f20, _, Try.func20, rfl, rfl, rfl, rfl, by kernel_rfl⟩
end Go.Proofs.Ytdmfjkhbodbgoaa.Avm

namespace Go.Proofs.Ytdmfjkhbodbgoaa.Avm
open Go.Proofs
theorem ev_pastJoin_of (ps : List Pst) (q : Pst) (hl : ps.length ≤ 1000000000) (hw : (ps.map wt).sum ≤ 900000000) (h52 : Ev (En Try.prog rfl).P 52 [.sptr (encTs (openT ps))] (.ret (encP q))) : Ev (En Try.prog rfl).P 20 [.sl 2 (encPs ps)] (.ret (encP q)) := by
  refine Ev.of_body it_pastJoin (by simp) (Run.start ?_)
  unfold t_pastJoin
  (focus (have hF := True.intro; (repeat' (first | (with_reducible refine Nx.of ?_) | ((with_reducible apply toV); refine stV (k := ?_)) | ((with_reducible apply toG); refine stG (k := ?_); (with_reducible refine Nx.of ?_)) | ((with_reducible apply toG0); refine stG0 (k := ?_); (with_reducible refine Nx.of ?_)) | ((with_reducible apply toC); refine stC (k := ?_); (with_reducible refine Nx.of ?_)) | ((with_reducible apply toO); refine stO (k := ?_)) | ((with_reducible apply toX); refine stX (k := ?_)) | fail)); (all_goals clear hF)))
  refine awp_pure (l := [.sl 2 (encPs ps)]) rfl rfl (by simp [stbs, AVal.stb, encPs_stb]) (ev_pastopen ps hl hw) ?_
  (focus (have hF := True.intro; (repeat' (first | (with_reducible refine Nx.of ?_) | ((with_reducible apply toV); refine stV (k := ?_)) | ((with_reducible apply toG); refine stG (k := ?_); (with_reducible refine Nx.of ?_)) | ((with_reducible apply toG0); refine stG0 (k := ?_); (with_reducible refine Nx.of ?_)) | ((with_reducible apply toC); refine stC (k := ?_); (with_reducible refine Nx.of ?_)) | ((with_reducible apply toO); refine stO (k := ?_)) | ((with_reducible apply toX); refine stX (k := ?_)) | fail)); (all_goals clear hF)))
  refine awp_pure (l := [.sptr (encTs (openT ps))]) rfl rfl (by simp [stbs, AVal.stb, encTs_stb]) h52 ?_
  unfold encP
  (focus (have hF := True.intro; (repeat' (first | (with_reducible refine Nx.of ?_) | ((with_reducible apply toV); refine stV (k := ?_)) | ((with_reducible apply toG); refine stG (k := ?_); (with_reducible refine Nx.of ?_)) | ((with_reducible apply toG0); refine stG0 (k := ?_); (with_reducible refine Nx.of ?_)) | ((with_reducible apply toC); refine stC (k := ?_); (with_reducible refine Nx.of ?_)) | ((with_reducible apply toO); refine stO (k := ?_)) | ((with_reducible apply toX); refine stX (k := ?_)) | fail)); (all_goals clear hF)))
  exact Fin.all rfl (by simp [stbs, AVal.stb, encIs_stb, encSs_stb, fzc, allK]) rfl
theorem ev_pastNorm_of (p : Pst) (q : Pst) (hw : wt p ≤ 900000000) (h52 : Ev (En Try.prog rfl).P 52 [.sptr (encTs (openT [p]))] (.ret (encP q))) : Ev (En Try.prog rfl).P 17 [encP p] (.ret (encP q)) := by
  refine Ev.of_body it_pastNorm (by simp) (Run.start ?_)
  have hpx : encP p = .agg [.sl 1 (encIs p.vec), .sl 3 (encSs p.cloud)] := rfl
  unfold t_pastNorm
  rw [hpx]
  (focus (have hF := True.intro; (repeat' (first | (with_reducible refine Nx.of ?_) | ((with_reducible apply toV); refine stV (k := ?_)) | ((with_reducible apply toG); refine stG (k := ?_); (with_reducible refine Nx.of ?_)) | ((with_reducible apply toG0); refine stG0 (k := ?_); (with_reducible refine Nx.of ?_)) | ((with_reducible apply toC); refine stC (k := ?_); (with_reducible refine Nx.of ?_)) | ((with_reducible apply toO); refine stO (k := ?_)) | ((with_reducible apply toX); refine stX (k := ?_)) | fail)); (all_goals clear hF)))
  refine awp_pure (l := [.sl 2 (encPs [p])]) rfl rfl (by simp [stbs, AVal.stb, encPs_stb]) (ev_pastopen [p] (by simp) (by simpa using hw)) ?_
  (focus (have hF := True.intro; (repeat' (first | (with_reducible refine Nx.of ?_) | ((with_reducible apply toV); refine stV (k := ?_)) | ((with_reducible apply toG); refine stG (k := ?_); (with_reducible refine Nx.of ?_)) | ((with_reducible apply toG0); refine stG0 (k := ?_); (with_reducible refine Nx.of ?_)) | ((with_reducible apply toC); refine stC (k := ?_); (with_reducible refine Nx.of ?_)) | ((with_reducible apply toO); refine stO (k := ?_)) | ((with_reducible apply toX); refine stX (k := ?_)) | fail)); (all_goals clear hF)))
  refine awp_pure (l := [.sptr (encTs (openT [p]))]) rfl rfl (by simp [stbs, AVal.stb, encTs_stb]) h52 ?_
  unfold encP
  (focus (have hF := True.intro; (repeat' (first | (with_reducible refine Nx.of ?_) | ((with_reducible apply toV); refine stV (k := ?_)) | ((with_reducible apply toG); refine stG (k := ?_); (with_reducible refine Nx.of ?_)) | ((with_reducible apply toG0); refine stG0 (k := ?_); (with_reducible refine Nx.of ?_)) | ((with_reducible apply toC); refine stC (k := ?_); (with_reducible refine Nx.of ?_)) | ((with_reducible apply toO); refine stO (k := ?_)) | ((with_reducible apply toX); refine stX (k := ?_)) | fail)); (all_goals clear hF)))
  exact Fin.all rfl (by simp [stbs, AVal.stb, encIs_stb, encSs_stb, fzc, allK]) rfl
end Go.Proofs.Ytdmfjkhbodbgoaa.Avm

namespace Go.Proofs.Ytdmfjkhbodbgoaa.Avm
open Go.Proofs
def r_pastPut_1 : List SOp :=
  [⟨(some 2), (.box 25 (.tmp 0)), none⟩, ⟨(some 3), (.box 32 (.tmp 1)), none⟩, ⟨(some 4), (.alloc 25), none⟩]
instance : Live r_pastPut_1 := ⟨[0, 1]⟩
def r_pastPut_2 : List SOp :=
  [⟨(some 5), (.load 25 (.tmp 2)), none⟩, ⟨(some 6), (.load 32 (.tmp 3)), none⟩, ⟨(some 7), (.buildSlice 26 1 #[(0, .tmp 6)]), none⟩, ⟨(some 8), (.call ⟨.value (.func 33), #[.tmp 7], #[26]⟩), none⟩, ⟨(some 9), (.buildSlice 51 2 #[(0, .tmp 5), (1, .tmp 8)]), none⟩, ⟨(some 10), (.call ⟨.value (.func 20), #[.tmp 9], #[51]⟩), none⟩, ⟨none, (.store 25 (.tmp 4) (.tmp 10)), none⟩]
instance : Live r_pastPut_2 := ⟨[2, 3, 4]⟩
def t_pastPut : SC :=
  (.seq (.ops false r_pastPut_1) (.seq (.ops true r_pastPut_2) .ret))
theorem it_pastPut : FnIs Try.prog 16 11 [.cell 4 25] t_pastPut := ⟨Try.f16, _, Try.func16, rfl, rfl, rfl, rfl, by kernel_rfl⟩
end Go.Proofs.Ytdmfjkhbodbgoaa.Avm

namespace Go.Proofs.Ytdmfjkhbodbgoaa.Avm
open Go.Proofs
theorem ev_pastOf_of (ds : List Rn) (q : Pst) (hl : ds.length ≤ 1000000000) (h52 : Ev (En Try.prog rfl).P 52 [.sptr (encTs (ofT ds))] (.ret (encP q))) : Ev (En Try.prog rfl).P 33 [.sl 2 (encRs ds)] (.ret (encP q)) := by
  refine Ev.of_body it_pastOf (by simp) (Run.start ?_)
  unfold t_pastOf
  have e0 : (encRs ds).length = ds.length := encRs_len _
  (focus (have hF := @e0; (repeat' (first | (with_reducible refine Nx.of ?_) | ((with_reducible apply toV); refine stV (k := ?_)) | ((with_reducible apply toG); refine stG (k := ?_); (with_reducible refine Nx.of ?_)) | ((with_reducible apply toG0); refine stG0 (k := ?_); (with_reducible refine Nx.of ?_)) | ((with_reducible apply toC); refine stC (k := ?_); (with_reducible refine Nx.of ?_)) | ((with_reducible apply toO); refine stO (k := ?_)) | ((with_reducible apply toX); refine stX (k := ?_)) | fail)); (all_goals clear hF)))
  refine Run.wk (Wk.trans (Wk.own_cells (k := 7) (cs' := encT tab0) rfl rfl ?_) (Wk.toL [(2, .ptr 2 0), (3, .ptr 7 0), (8, .sl 2 (encRs ds)), (9, .int .i64 ds.length), (10, .int .i64 0)] [(7, .cells (encT tab0)), (2, .cells [.nil, .nil])] ⟨rfl, rfl, rfl, rfl, rfl, trivial⟩ ⟨rfl, rfl, trivial⟩ ⟨rfl, rfl, encRs_stb ds, rfl, rfl, trivial⟩ ⟨encT_no _ _, rfl, trivial⟩)) ?_
  · intro i x y hx hy
    have hx' : (List.replicate 16 AVal.nil)[i]? = some x := hx
    rw [List.getElem?_replicate] at hx'
    have hy' : (List.replicate 16 (AVal.own 2 []))[i]? = some y := hy
    rw [List.getElem?_replicate] at hy'
    split at hx'
    · rename_i h16
      rw [if_pos h16] at hy'
      cases hx'; cases hy'
      exact .inr ⟨rfl, 2, rfl⟩
    · cases hx'
  refine of_l1 ds hl ?_
  (focus (have hF := @e0; (repeat' (first | (with_reducible refine Nx.of ?_) | ((with_reducible apply toV); refine stV (k := ?_)) | ((with_reducible apply toG); refine stG (k := ?_); (with_reducible refine Nx.of ?_)) | ((with_reducible apply toG0); refine stG0 (k := ?_); (with_reducible refine Nx.of ?_)) | ((with_reducible apply toC); refine stC (k := ?_); (with_reducible refine Nx.of ?_)) | ((with_reducible apply toO); refine stO (k := ?_)) | ((with_reducible apply toX); refine stX (k := ?_)) | fail)); (all_goals clear hF)))
  refine awp_give (fun j => j == 7) (l := [.sptr (encTs (ofT ds))]) rfl ?hl (by simp [stbs, AVal.stb, encTs_stb]) h52 rfl ?k
  case hl =>
    show [AVal.sptr (((encT (ofT ds)).map (fzc (fun j => j == 7) _)).drop 0)] = _
    simp [encT, encTs, fzc]
  unfold encP
  (focus (have hF := True.intro; (repeat' (first | (with_reducible refine Nx.of ?_) | ((with_reducible apply toV); refine stV (k := ?_)) | ((with_reducible apply toG); refine stG (k := ?_); (with_reducible refine Nx.of ?_)) | ((with_reducible apply toG0); refine stG0 (k := ?_); (with_reducible refine Nx.of ?_)) | ((with_reducible apply toC); refine stC (k := ?_); (with_reducible refine Nx.of ?_)) | ((with_reducible apply toO); refine stO (k := ?_)) | ((with_reducible apply toX); refine stX (k := ?_)) | fail)); (all_goals clear hF)))
  exact Fin.all rfl (by simp [stbs, AVal.stb, encIs_stb, encSs_stb, fzc, allK]) rfl
theorem ev_pastPut_of (p : Pst) (d : Rn) (q1 q2 : Pst) (hs : wt p + wt q1 ≤ 900000000) (h33 : Ev (En Try.prog rfl).P 52 [.sptr (encTs (ofT [d]))] (.ret (encP q1))) (h52 : Ev (En Try.prog rfl).P 52 [.sptr (encTs (openT [p, q1]))] (.ret (encP q2))) :
    Ev (En Try.prog rfl).P 16 [encP p, encR d] (.ret (encP q2)) := by
  refine Ev.of_body it_pastPut (by simp) (Run.start ?_)
  have hpx : encP p = .agg [.sl 1 (encIs p.vec), .sl 3 (encSs p.cloud)] := rfl
  have hdx : encR d = .agg [.int .i64 d.1, .int .i64 d.2] := rfl
  have c1 := ev_pastOf_of [d] q1 (by simp) h33
  have c2 := ev_pastJoin_of [p, q1] q2 (by simp) (by simpa using hs) h52
  unfold t_pastPut
  rw [hpx, hdx]
  (focus (have hF := True.intro; (repeat' (first | (with_reducible refine Nx.of ?_) | ((with_reducible apply toV); refine stV (k := ?_)) | ((with_reducible apply toG); refine stG (k := ?_); (with_reducible refine Nx.of ?_)) | ((with_reducible apply toG0); refine stG0 (k := ?_); (with_reducible refine Nx.of ?_)) | ((with_reducible apply toC); refine stC (k := ?_); (with_reducible refine Nx.of ?_)) | ((with_reducible apply toO); refine stO (k := ?_)) | ((with_reducible apply toX); refine stX (k := ?_)) | fail)); (all_goals clear hF)))
  refine awp_pure (l := [.sl 2 (encRs [d])]) rfl rfl (by simp [stbs, AVal.stb, encRs_stb]) c1 ?_
  have hq1 : encP q1 = .agg [.sl 1 (encIs q1.vec), .sl 3 (encSs q1.cloud)] := rfl
  rw [hq1]
  (focus (have hF := True.intro; (repeat' (first | (with_reducible refine Nx.of ?_) | ((with_reducible apply toV); refine stV (k := ?_)) | ((with_reducible apply toG); refine stG (k := ?_); (with_reducible refine Nx.of ?_)) | ((with_reducible apply toG0); refine stG0 (k := ?_); (with_reducible refine Nx.of ?_)) | ((with_reducible apply toC); refine stC (k := ?_); (with_reducible refine Nx.of ?_)) | ((with_reducible apply toO); refine stO (k := ?_)) | ((with_reducible apply toX); refine stX (k := ?_)) | fail)); (all_goals clear hF)))
  refine awp_pure (l := [.sl 2 (encPs [p, q1])]) rfl rfl (by simp [stbs, AVal.stb, encPs_stb]) c2 ?_
  have hq2 : encP q2 = .agg [.sl 1 (encIs q2.vec), .sl 3 (encSs q2.cloud)] := rfl
  rw [hq2]
  (focus (have hF := True.intro; (repeat' (first | (with_reducible refine Nx.of ?_) | ((with_reducible apply toV); refine stV (k := ?_)) | ((with_reducible apply toG); refine stG (k := ?_); (with_reducible refine Nx.of ?_)) | ((with_reducible apply toG0); refine stG0 (k := ?_); (with_reducible refine Nx.of ?_)) | ((with_reducible apply toC); refine stC (k := ?_); (with_reducible refine Nx.of ?_)) | ((with_reducible apply toO); refine stO (k := ?_)) | ((with_reducible apply toX); refine stX (k := ?_)) | fail)); (all_goals clear hF)))
  exact Fin.all rfl (by simp [stbs, AVal.stb, encIs_stb, encSs_stb, fzc, allK]) rfl
end Go.Proofs.Ytdmfjkhbodbgoaa.Avm

namespace Go.Proofs.Ytdmfjkhbodbgoaa.Avm
def inT (t : Tab) (r : Nat) (n : Int) : Prop := mem1 (t.getD r []) n
def inP (p : Pst) (r : Nat) (n : Int) : Prop := r < 16 ∧ 1 ≤ n ∧ n ≤ 1000000000 ∧ ((r < p.vec.length ∧ n ≤ vecAt p.vec r) ∨ ∃ s ∈ p.cloud, s.1 = (r : Int) ∧ s.2.1 ≤ n ∧ n ≤ s.2.2)
theorem inP_pos {p : Pst} {r : Nat} {n : Int} (h : inP p r n) : 1 ≤ n := h.2.1
theorem addAt_row {t : Tab} (k : Nat) (x : Rn) (r : Nat) : (addAt t k x).getD r [] = if r = k ∧ k < t.length then t.getD r [] ++ [x] else t.getD r [] := by
  unfold addAt
  simp only [List.getD_eq_getElem?_getD, List.getElem?_set]
  by_cases h : k = r
  · subst h
    by_cases h2 : k < t.length
    · simp [h2]
    · simp [h2]
  · rw [if_neg h, if_neg (fun hh => h hh.1.symm)]
theorem range_row (v : List Int) (t : Tab) (ht : t.length = 16) : ∀ i, i ≤ 16 → ((List.range i).foldl (putVec v) t).length = 16 ∧ ∀ r, ((List.range i).foldl (putVec v) t).getD r [] = if r < i then t.getD r [] ++ [(1, vecAt v r)] else t.getD r []
  | 0, _ => ⟨ht, fun r => by simp⟩
  | i + 1, hi => by
    obtain ⟨h1, h2⟩ := range_row v t ht i (by omega)
    rw [range_fold]
    generalize (List.range i).foldl (putVec v) t = u at h1 h2 ⊢
    refine ⟨by unfold putVec; rw [addAt_len, h1], fun r => ?_⟩
    unfold putVec
    rw [addAt_row, h1, h2]
    by_cases hr : r = i
    · subst hr
      rw [if_pos ⟨rfl, by omega⟩, if_neg (by omega), if_pos (by omega)]
    · rw [if_neg (fun h => hr h.1)]
      by_cases hlt : r < i
      · rw [if_pos hlt, if_pos (by omega)]
      · rw [if_neg hlt, if_neg (by omega)]
def spansAt (c : List Sn) (r : Nat) : List Rn := (c.filter fun s => decide (s.1 = (r : Int))).map fun s => s.2
theorem cloud_row (r : Nat) (hr : r < 16) : ∀ (c : List Sn) (t : Tab), t.length = 16 → (addCloud c t).length = 16 ∧ (addCloud c t).getD r [] = t.getD r [] ++ spansAt c r
  | [], t, ht => ⟨ht, by simp [addCloud, spansAt]⟩
  | s :: c, t, ht => by
    have hl : (putSn t s).length = 16 := by
      unfold putSn
      split
      · rw [addAt_len, ht]
      · exact ht
    obtain ⟨h1, h2⟩ := cloud_row r hr c (putSn t s) hl
    refine ⟨h1, ?_⟩
    show (addCloud c (putSn t s)).getD r [] = _
    rw [h2]
    unfold putSn spansAt
    rw [List.filter_cons]
    by_cases hs : s.1 = (r : Int)
    · rw [if_pos (by omega), addAt_row, if_pos ⟨by omega, by omega⟩]
      simp [hs]
    · simp only [hs, decide_false, Bool.false_eq_true, if_false]
      split
      · rw [addAt_row, if_neg (by omega)]
      · rfl
theorem spansAt_in (c : List Sn) (r : Nat) (n : Int) : inR (spansAt c r) n ↔ ∃ s ∈ c, s.1 = (r : Int) ∧ s.2.1 ≤ n ∧ n ≤ s.2.2 := by
  constructor
  · rintro ⟨x, hx, h1, h2⟩
    simp only [spansAt, List.mem_map, List.mem_filter, decide_eq_true_eq] at hx
    obtain ⟨s, ⟨hs, hr⟩, rfl⟩ := hx
    exact ⟨s, hs, hr, h1, h2⟩
  · rintro ⟨s, hs, hr, h1, h2⟩
    exact ⟨s.2, by simp only [spansAt, List.mem_map, List.mem_filter, decide_eq_true_eq]; exact ⟨s, ⟨hs, hr⟩, rfl⟩, h1, h2⟩
theorem one_row {t : Tab} (ht : t.length = 16) (p : Pst) {r : Nat} (hr : r < 16) : (openOne t p).length = 16 ∧ (openOne t p).getD r [] = (if r < p.vec.length then t.getD r [] ++ [(1, vecAt p.vec r)] else t.getD r []) ++ spansAt p.cloud r := by
  obtain ⟨h1, h2⟩ := range_row p.vec t ht (min p.vec.length 16) (by omega)
  obtain ⟨h3, h4⟩ := cloud_row r hr p.cloud (addVec p.vec t) h1
  refine ⟨h3, ?_⟩
  show (addCloud p.cloud (addVec p.vec t)).getD r [] = _
  rw [h4]
  unfold addVec
  rw [h2]
  by_cases h : r < p.vec.length
  · rw [if_pos h, if_pos (by omega)]
  · rw [if_neg h, if_neg (by omega)]
theorem one_in {t : Tab} (ht : t.length = 16) (p : Pst) {r : Nat} (hr : r < 16) (n : Int) : inT (openOne t p) r n ↔ inT t r n ∨ inP p r n := by
  unfold inT mem1
  rw [(one_row ht p hr).2, inR_append, spansAt_in]
  unfold inP
  constructor
  · rintro ⟨h1, h2, h | h⟩
    · split at h
      · rename_i hv
        rcases (inR_append _ _ _).1 h with h | h
        · exact .inl ⟨h1, h2, h⟩
        · exact .inr ⟨hr, h1, h2, .inl ⟨hv, ((inR_one _ _).1 h).2⟩⟩
      · exact .inl ⟨h1, h2, h⟩
    · exact .inr ⟨hr, h1, h2, .inr h⟩
  · rintro (⟨h1, h2, h⟩ | ⟨_, h1, h2, h | h⟩)
    · refine ⟨h1, h2, .inl ?_⟩
      split
      · exact (inR_append _ _ _).2 (.inl h)
      · exact h
    · refine ⟨h1, h2, .inl ?_⟩
      rw [if_pos h.1]
      exact (inR_append _ _ _).2 (.inr ((inR_one _ _).2 ⟨h1, h.2⟩))
    · exact ⟨h1, h2, .inr h⟩
theorem tab0_in (r : Nat) (n : Int) : ¬ inT tab0 r n := by
  unfold inT mem1
  rintro ⟨_, _, h⟩
  have : tab0.getD r [] = [] := by
    unfold tab0
    rw [List.getD_eq_getElem?_getD, List.getElem?_replicate]
    split <;> rfl
  rw [this] at h
  exact inR_nil n h
theorem open_in_aux {r : Nat} (hr : r < 16) (n : Int) : ∀ (ps : List Pst) (t : Tab), t.length = 16 → (inT (ps.foldl openOne t) r n ↔ inT t r n ∨ ∃ p ∈ ps, inP p r n)
  | [], t, ht => by simp
  | p :: ps, t, ht => by
    rw [List.foldl_cons, open_in_aux hr n ps _ (one_row ht p hr).1, one_in ht p hr]
    constructor
    · rintro ((h | h) | ⟨q, hq, h⟩)
      · exact .inl h
      · exact .inr ⟨p, by simp, h⟩
      · exact .inr ⟨q, by simp [hq], h⟩
    · rintro (h | ⟨q, hq, h⟩)
      · exact .inl (.inl h)
      · rcases List.mem_cons.1 hq with rfl | hq
        · exact .inl (.inr h)
        · exact .inr ⟨q, hq, h⟩
theorem open_in {r : Nat} (hr : r < 16) (ps : List Pst) (n : Int) : inT (openT ps) r n ↔ ∃ p ∈ ps, inP p r n := by
  unfold openT
  rw [open_in_aux hr n ps tab0 rfl]
  exact ⟨fun h => h.elim (fun h => absurd h (tab0_in r n)) id, .inr⟩
theorem leadOf_in {m : List Rn} (h : Can m) (n : Int) : inR m n ↔ (1 ≤ n ∧ n ≤ (leadOf m).1) ∨ inR (leadOf m).2 n := by
  cases m with
  | nil =>
    simp only [leadOf]
    constructor
    · exact .inr
    · rintro (h | h)
      · omega
      · exact h
  | cons x l =>
    have hx := (Can.cons_iff.1 h).1
    unfold okR at hx
    by_cases h1 : x.1 = 1
    · rw [leadOf_1 h1, inR_cons]
      simp only [h1]
    · rw [leadOf_2 h1]
      constructor
      · exact .inr
      · rintro (h | h)
        · omega
        · exact h
theorem leadOf_can {m : List Rn} (h : Can m) : Can (leadOf m).2 ∧ 0 ≤ (leadOf m).1 ∧ (leadOf m).1 ≤ 1000000000 ∧ ∀ n, inR (leadOf m).2 n → (leadOf m).1 + 1 < n := by
  cases m with
  | nil => exact ⟨Can.nil, by simp [leadOf], by simp [leadOf], fun n hn => absurd hn (inR_nil n)⟩
  | cons x l =>
    have hx := (Can.cons_iff.1 h).1
    unfold okR at hx
    by_cases h1 : x.1 = 1
    · rw [leadOf_1 h1]
      exact ⟨h.tail, by show 0 ≤ x.2; omega, hx.2.2, fun n hn => h.above hn⟩
    · rw [leadOf_2 h1]
      refine ⟨h, Int.le_refl _, by show (0 : Int) ≤ _; omega, fun n hn => ?_⟩
      show (0 : Int) + 1 < n
      rcases (inR_cons x l n).1 hn with hn | hn
      · omega
      · have := h.above hn; omega
theorem size_above (t : Tab) : ∀ (m r : Nat), r < m → sizeT t m ≤ r → leadT t r ≤ 0
  | 0, r, hr, _ => by omega
  | m + 1, r, hr, h => by
    rw [sizeT_succ] at h
    split at h
    · omega
    · rename_i hl
      by_cases hrm : r = m
      · subst hrm; omega
      · exact size_above t m r (by omega) h
theorem leadsT_get (t : Tab) {m r : Nat} (h : r < m) : (leadsT t m)[r]? = some (leadT t r) := by simp [leadsT, h]
theorem cloudT_in (t : Tab) {m r : Nat} (hr : r < m) (n : Int) : (∃ s ∈ cloudT t m, s.1 = (r : Int) ∧ s.2.1 ≤ n ∧ n ≤ s.2.2) ↔ inR (restT t r) n := by
  constructor
  · rintro ⟨s, hs, h1, h2, h3⟩
    simp only [cloudT, List.mem_flatMap, List.mem_range, cloudRow, List.mem_map] at hs
    obtain ⟨k, hk, x, hx, rfl⟩ := hs
    simp only [spanOf] at h1 h2 h3
    have : k = r := by omega
    subst this
    exact ⟨x, hx, h2, h3⟩
  · rintro ⟨x, hx, h2, h3⟩
    refine ⟨spanOf r x, ?_, rfl, h2, h3⟩
    simp only [cloudT, List.mem_flatMap, List.mem_range, cloudRow, List.mem_map]
    exact ⟨r, hr, x, hx, rfl⟩
theorem past_in (t : Tab) {r : Nat} (hr : r < 16) (n : Int) : inP (pastT t) r n ↔ inT t r n := by
  have hc := normR_can (t.getD r [])
  have hlead := leadOf_in hc n
  rw [normR_in] at hlead
  have hb := leadOf_can hc
  have hcl := cloudT_in t hr n
  have hsz := sizeT_le t 16
  unfold inP inT
  show r < 16 ∧ 1 ≤ n ∧ n ≤ 1000000000 ∧ ((r < ((leadsT t 16).take (sizeT t 16)).length ∧ n ≤ vecAt ((leadsT t 16).take (sizeT t 16)) r) ∨ ∃ s ∈ cloudT t 16, s.1 = (r : Int) ∧ s.2.1 ≤ n ∧ n ≤ s.2.2) ↔ _
  rw [hcl, hlead, List.length_take, leadsT_len]
  have hv : r < sizeT t 16 → vecAt ((leadsT t 16).take (sizeT t 16)) r = leadT t r := fun h => by
    unfold vecAt
    rw [List.getD_eq_getElem?_getD, List.getElem?_take, if_pos h, leadsT_get t hr]
    rfl
  constructor
  · rintro ⟨_, h1, h2, ⟨h3, h4⟩ | h⟩
    · rw [hv (by omega)] at h4
      exact .inl ⟨h1, h4⟩
    · exact .inr h
  · rintro (⟨h1, h2⟩ | h)
    · refine ⟨hr, h1, by omega, .inl ?_⟩
      have : r < sizeT t 16 := by
        rcases Nat.lt_or_ge r (sizeT t 16) with h | h
        · exact h
        · have := size_above t 16 r hr h
          unfold leadT at this
          omega
      exact ⟨by omega, by rw [hv this]; exact h2⟩
    · have h1 := hb.1.bound h
      exact ⟨hr, h1.1, h1.2, .inr h⟩
theorem isDot_iff (a b : Int) : isDotR a b = true ↔ 0 ≤ a ∧ a < 16 ∧ 1 ≤ b ∧ b ≤ 1000000000 := by
  simp only [isDotR, Bool.and_eq_true, decide_eq_true_eq]
theorem hasP_iff (p : Pst) (d : Rn) : hasP p d = true ↔ 0 ≤ d.1 ∧ inP p d.1.toNat d.2 := by
  unfold hasP inP
  rw [Bool.and_eq_true, isDot_iff, Bool.or_eq_true, Bool.and_eq_true, decide_eq_true_eq, decide_eq_true_eq, List.any_eq_true]
  constructor
  · rintro ⟨⟨h1, h2, h3, h4⟩, h⟩
    refine ⟨h1, by omega, h3, h4, ?_⟩
    rcases h with h | ⟨s, hs, h⟩
    · exact .inl ⟨by omega, h.2⟩
    · simp only [inSn, Bool.and_eq_true, decide_eq_true_eq] at h
      exact .inr ⟨s, hs, by omega, h.2⟩
  · rintro ⟨h1, h2, h3, h4, h⟩
    refine ⟨⟨h1, by omega, h3, h4⟩, ?_⟩
    rcases h with h | ⟨s, hs, h⟩
    · exact .inl ⟨by omega, h.2⟩
    · refine .inr ⟨s, hs, ?_⟩
      simp only [inSn, Bool.and_eq_true, decide_eq_true_eq]
      exact ⟨by omega, h.2⟩
theorem lastP_top (p : Pst) {r : Nat} (hr : r < 16) : IsTop (inP p r) (lastP p (r : Int)) := by
  rw [lastP_in (by omega), Int.toNat_natCast]
  refine (lastR_top _).iff fun n => ?_
  have := open_in hr [p] n
  unfold inT at this
  rw [this]
  simp
theorem meanT_len (ps : List Pst) : (meanT ps).length = 16 := by
  unfold meanT
  rw [List.length_map]
  exact (openT_le ps).1
theorem meanT_row (ps : List Pst) {r : Nat} (hr : r < 16) : (meanT ps).getD r [] = turnsR ((openT ps).getD r []) := by
  have h := (openT_le ps).1
  unfold meanT
  simp [List.getD_eq_getElem?_getD, h, hr]
theorem lastSet_top (p : Pst) {r : Nat} (hr : r < 16) : IsTop (inP p r) (lastSet (meanT [p]) (r : Int)) := by
  rw [lastSet_in (by omega), Int.toNat_natCast, meanT_row [p] hr]
  refine ((turnsC_ok (normR_can ((openT [p]).getD r []))).top).iff fun n => ?_
  have := open_in hr [p] n
  unfold inT at this
  rw [normR_in, this]
  simp
theorem last_eq (p : Pst) (r : Int) : lastSet (meanT [p]) r = lastP p r := by
  by_cases h : 0 ≤ r ∧ r < 16
  · obtain ⟨k, rfl⟩ : ∃ k : Nat, r = k := ⟨r.toNat, by omega⟩
    exact (lastSet_top p (by omega)).uniq (fun n hn => inP_pos hn) (lastP_top p (by omega))
  · rw [lastP_out h, lastSet_out h]
theorem dots_row (r : Nat) (hr : r < 16) (n : Int) : ∀ (ds : List Rn) (t : Tab), t.length = 16 → (inT (ds.foldl putDot t) r n ↔ inT t r n ∨ (1 ≤ n ∧ n ≤ 1000000000 ∧ ((r : Int), n) ∈ ds))
  | [], t, ht => by simp
  | d :: ds, t, ht => by
    have hl : (putDot t d).length = 16 := by
      unfold putDot
      split
      · rw [addAt_len, ht]
      · exact ht
    rw [List.foldl_cons, dots_row r hr n ds _ hl]
    have hd : inT (putDot t d) r n ↔ inT t r n ∨ (1 ≤ n ∧ n ≤ 1000000000 ∧ ((r : Int), n) = d) := by
      unfold inT mem1 putDot
      split
      · rename_i h
        have hdot := (isDot_iff _ _).1 h
        rw [addAt_row]
        split
        · rename_i hk
          rw [inR_append, inR_one]
          constructor
          · rintro ⟨h1, h2, h3 | h3⟩
            · exact .inl ⟨h1, h2, h3⟩
            · exact .inr ⟨h1, h2, Prod.ext (by show (r : Int) = d.1; omega) (by show n = d.2; omega)⟩
          · rintro (⟨h1, h2, h3⟩ | ⟨h1, h2, rfl⟩)
            · exact ⟨h1, h2, .inl h3⟩
            · exact ⟨h1, h2, .inr ⟨Int.le_refl _, Int.le_refl _⟩⟩
        · rename_i hk
          constructor
          · exact .inl
          · rintro (h1 | ⟨h1, h2, rfl⟩)
            · exact h1
            · exact absurd ⟨by simp, by omega⟩ hk
      · rename_i h
        constructor
        · exact .inl
        · rintro (h1 | ⟨h1, h2, rfl⟩)
          · exact h1
          · exact absurd ((isDot_iff _ _).2 ⟨by omega, by omega, h1, h2⟩) h
    rw [hd, List.mem_cons]
    constructor
    · rintro ((h | ⟨h1, h2, h3⟩) | ⟨h1, h2, h3⟩)
      · exact .inl h
      · exact .inr ⟨h1, h2, .inl h3⟩
      · exact .inr ⟨h1, h2, .inr h3⟩
    · rintro (h | ⟨h1, h2, h3 | h3⟩)
      · exact .inl (.inl h)
      · exact .inl (.inr ⟨h1, h2, h3⟩)
      · exact .inr ⟨h1, h2, h3⟩
def normP (p : Pst) : Pst := pastT (openT [p])
def joinP (ps : List Pst) : Pst := pastT (openT ps)
def ofP (ds : List Rn) : Pst := pastT (ofT ds)
def putP (p : Pst) (d : Rn) : Pst := joinP [p, ofP [d]]
theorem ofP_in (ds : List Rn) {r : Nat} (hr : r < 16) (n : Int) : inP (ofP ds) r n ↔ 1 ≤ n ∧ n ≤ 1000000000 ∧ ((r : Int), n) ∈ ds := by
  unfold ofP
  rw [past_in _ hr]
  unfold ofT
  rw [dots_row r hr n ds tab0 rfl]
  exact ⟨fun h => h.elim (fun h => absurd h (tab0_in r n)) id, .inr⟩
theorem joinP_in (ps : List Pst) {r : Nat} (hr : r < 16) (n : Int) : inP (joinP ps) r n ↔ ∃ p ∈ ps, inP p r n := by
  unfold joinP
  rw [past_in _ hr, open_in hr]
theorem putP_in (p : Pst) (d : Rn) {r : Nat} (hr : r < 16) (n : Int) : inP (putP p d) r n ↔ inP p r n ∨ (1 ≤ n ∧ n ≤ 1000000000 ∧ ((r : Int), n) = d) := by
  unfold putP
  rw [joinP_in _ hr]
  constructor
  · rintro ⟨q, hq, h⟩
    simp only [List.mem_cons, List.not_mem_nil, or_false] at hq
    rcases hq with rfl | rfl
    · exact .inl h
    · have := (ofP_in [d] hr n).1 h
      simpa using Or.inr this
  · rintro (h | h)
    · exact ⟨p, by simp, h⟩
    · exact ⟨ofP [d], by simp, (ofP_in [d] hr n).2 ⟨h.1, h.2.1, by simp [h.2.2]⟩⟩
theorem next_ok (p : Pst) (r m : Int) (h : (nextOf (lastP p) r m).2 = 0) : hasP p (nextOf (lastP p) r m).1 = false ∧ lastP (putP p (nextOf (lastP p) r m).1) (nextOf (lastP p) r m).1.1 = (nextOf (lastP p) r m).1.2 := by
  by_cases h1 : r < 0 ∨ 16 ≤ r
  · rw [nextOf_1 h1] at h; simp at h
  · by_cases h2 : min m 1000000000 ≤ lastP p r
    · rw [nextOf_2 h1 h2] at h; simp at h
    · rw [nextOf_3 h1 h2]
      obtain ⟨k, rfl⟩ : ∃ k : Nat, r = k := ⟨r.toNat, by omega⟩
      have hk : k < 16 := by omega
      have ht := lastP_top p hk
      have h0 := lastP_nonneg p k
      constructor
      · cases hh : hasP p ((k : Int), lastP p k + 1) with
        | false => rfl
        | true =>
          have := ((hasP_iff _ _).1 hh).2
          simp only [Int.toNat_natCast] at this
          have := ht.2 _ this
          omega
      · refine (lastP_top (putP p ((k : Int), lastP p k + 1)) hk).uniq (fun n hn => inP_pos hn) ⟨.inr ?_, fun n hn => ?_⟩
        · show inP (putP p ((k : Int), lastP p k + 1)) k (lastP p k + 1)
          rw [putP_in _ _ hk]
          exact .inr ⟨by show 1 ≤ lastP p k + 1; omega, by show lastP p k + 1 ≤ _; omega, rfl⟩
        · rcases (putP_in _ _ hk n).1 hn with hn | ⟨_, _, hn⟩
          · have := ht.2 n hn
            show n ≤ lastP p k + 1
            omega
          · have := congrArg Prod.snd hn
            exact Int.le_of_eq this
end Go.Proofs.Ytdmfjkhbodbgoaa.Avm
