/- Part 4 of the proof: lemmas. -/
import Derived.Test.YtdmfjkhbodbgoaaM3
import Derived.Test.YtdmfjkhbodbgoaaProg
import Derived.KernelRfl
import Derived.Test.YtdmfjkhbodbgoaaRows
import Derived.WalkKit
import Derived.ProofKit
import Derived.OpenShut
import Derived.JoinedCond
import Derived.Carry
set_option maxRecDepth 100000
set_option maxHeartbeats 4000000
set_option linter.unusedVariables false
set_option linter.unusedSimpArgs false
set_option linter.unusedSectionVars false
set_option linter.defProp false
namespace Go.Proofs.Ytdmfjkhbodbgoaa.Avm
def inT (t : Tab) (r : Nat) (n : Int) : Prop := mem1 (t.getD r []) n
def inP (p : Pst) (r : Nat) (n : Int) : Prop := r < 16 ∧ 1 ≤ n ∧ n ≤ 1000000000 ∧ ((r < p.vec.length ∧ n ≤ vecAt p.vec r) ∨ ∃ s ∈ p.cloud, s.1 = (r : Int) ∧ s.2.1 ≤ n ∧ n ≤ s.2.2)
theorem inP_pos {p : Pst} {r : Nat} {n : Int} (h : inP p r n) : 1 ≤ n := h.2.1
theorem addAt_row {t : Tab} (k : Nat) (x : Rn) (r : Nat) : (addAt t k x).getD r [] = if r = k ∧ k < t.length then t.getD r [] ++ [x] else t.getD r [] := by
  unfold addAt
  simp only [List.getD_eq_getElem?_getD, List.getElem?_set]
  by_cases h : k = r
  · subst h
    by_cases h2 : k < t.length
    · simp [h2]
    · simp [h2]
  · rw [if_neg h, if_neg (fun hh => h hh.1.symm)]
theorem range_row (v : List Int) (t : Tab) (ht : t.length = 16) : ∀ i, i ≤ 16 → ((List.range i).foldl (putVec v) t).length = 16 ∧ ∀ r, ((List.range i).foldl (putVec v) t).getD r [] = if r < i then t.getD r [] ++ [(1, vecAt v r)] else t.getD r []
  | 0, _ => ⟨ht, fun r => by simp⟩
  | i + 1, hi => by
    obtain ⟨h1, h2⟩ := range_row v t ht i (by omega)
    rw [range_fold]
    generalize (List.range i).foldl (putVec v) t = u at h1 h2 ⊢
    refine ⟨by unfold putVec; rw [addAt_len, h1], fun r => ?_⟩
    unfold putVec
    rw [addAt_row, h1, h2]
    by_cases hr : r = i
    · subst hr
      rw [if_pos ⟨rfl, by omega⟩, if_neg (by omega), if_pos (by omega)]
    · rw [if_neg (fun h => hr h.1)]
      by_cases hlt : r < i
      · rw [if_pos hlt, if_pos (by omega)]
      · rw [if_neg hlt, if_neg (by omega)]
def spansAt (c : List Sn) (r : Nat) : List Rn := (c.filter fun s => decide (s.1 = (r : Int))).map fun s => s.2
theorem cloud_row (r : Nat) (hr : r < 16) : ∀ (c : List Sn) (t : Tab), t.length = 16 → (addCloud c t).length = 16 ∧ (addCloud c t).getD r [] = t.getD r [] ++ spansAt c r
  | [], t, ht => ⟨ht, by simp [addCloud, spansAt]⟩
  | s :: c, t, ht => by
    have hl : (putSn t s).length = 16 := by
      unfold putSn
      split
      · rw [addAt_len, ht]
      · exact ht
    obtain ⟨h1, h2⟩ := cloud_row r hr c (putSn t s) hl
    refine ⟨h1, ?_⟩
    show (addCloud c (putSn t s)).getD r [] = _
    rw [h2]
    unfold putSn spansAt
    rw [List.filter_cons]
    by_cases hs : s.1 = (r : Int)
    · rw [if_pos (by omega), addAt_row, if_pos ⟨by omega, by omega⟩]
      simp [hs]
    · simp only [hs, decide_false, Bool.false_eq_true, if_false]
      split
      · rw [addAt_row, if_neg (by omega)]
      · rfl
theorem spansAt_in (c : List Sn) (r : Nat) (n : Int) : inR (spansAt c r) n ↔ ∃ s ∈ c, s.1 = (r : Int) ∧ s.2.1 ≤ n ∧ n ≤ s.2.2 := by
  constructor
  · rintro ⟨x, hx, h1, h2⟩
    simp only [spansAt, List.mem_map, List.mem_filter, decide_eq_true_eq] at hx
    obtain ⟨s, ⟨hs, hr⟩, rfl⟩ := hx
    exact ⟨s, hs, hr, h1, h2⟩
  · rintro ⟨s, hs, hr, h1, h2⟩
    exact ⟨s.2, by simp only [spansAt, List.mem_map, List.mem_filter, decide_eq_true_eq]; exact ⟨s, ⟨hs, hr⟩, rfl⟩, h1, h2⟩
theorem one_row {t : Tab} (ht : t.length = 16) (p : Pst) {r : Nat} (hr : r < 16) : (openOne t p).length = 16 ∧ (openOne t p).getD r [] = (if r < p.vec.length then t.getD r [] ++ [(1, vecAt p.vec r)] else t.getD r []) ++ spansAt p.cloud r := by
  obtain ⟨h1, h2⟩ := range_row p.vec t ht (min p.vec.length 16) (by omega)
  obtain ⟨h3, h4⟩ := cloud_row r hr p.cloud (addVec p.vec t) h1
  refine ⟨h3, ?_⟩
  show (addCloud p.cloud (addVec p.vec t)).getD r [] = _
  rw [h4]
  unfold addVec
  rw [h2]
  by_cases h : r < p.vec.length
  · rw [if_pos h, if_pos (by omega)]
  · rw [if_neg h, if_neg (by omega)]
theorem one_in {t : Tab} (ht : t.length = 16) (p : Pst) {r : Nat} (hr : r < 16) (n : Int) : inT (openOne t p) r n ↔ inT t r n ∨ inP p r n := by
  unfold inT mem1
  rw [(one_row ht p hr).2, inR_append, spansAt_in]
  unfold inP
  constructor
  · rintro ⟨h1, h2, h | h⟩
    · split at h
      · rename_i hv
        rcases (inR_append _ _ _).1 h with h | h
        · exact .inl ⟨h1, h2, h⟩
        · exact .inr ⟨hr, h1, h2, .inl ⟨hv, ((inR_one _ _).1 h).2⟩⟩
      · exact .inl ⟨h1, h2, h⟩
    · exact .inr ⟨hr, h1, h2, .inr h⟩
  · rintro (⟨h1, h2, h⟩ | ⟨_, h1, h2, h | h⟩)
    · refine ⟨h1, h2, .inl ?_⟩
      split
      · exact (inR_append _ _ _).2 (.inl h)
      · exact h
    · refine ⟨h1, h2, .inl ?_⟩
      rw [if_pos h.1]
      exact (inR_append _ _ _).2 (.inr ((inR_one _ _).2 ⟨h1, h.2⟩))
    · exact ⟨h1, h2, .inr h⟩
theorem tab0_in (r : Nat) (n : Int) : ¬ inT tab0 r n := by
  unfold inT mem1
  rintro ⟨_, _, h⟩
  have : tab0.getD r [] = [] := by
    unfold tab0
    rw [List.getD_eq_getElem?_getD, List.getElem?_replicate]
    split <;> rfl
  rw [this] at h
  exact inR_nil n h
theorem open_in_aux {r : Nat} (hr : r < 16) (n : Int) : ∀ (ps : List Pst) (t : Tab), t.length = 16 → (inT (ps.foldl openOne t) r n ↔ inT t r n ∨ ∃ p ∈ ps, inP p r n)
  | [], t, ht => by simp
  | p :: ps, t, ht => by
    rw [List.foldl_cons, open_in_aux hr n ps _ (one_row ht p hr).1, one_in ht p hr]
    constructor
    · rintro ((h | h) | ⟨q, hq, h⟩)
      · exact .inl h
      · exact .inr ⟨p, by simp, h⟩
      · exact .inr ⟨q, by simp [hq], h⟩
    · rintro (h | ⟨q, hq, h⟩)
      · exact .inl (.inl h)
      · rcases List.mem_cons.1 hq with rfl | hq
        · exact .inl (.inr h)
        · exact .inr ⟨q, hq, h⟩
theorem open_in {r : Nat} (hr : r < 16) (ps : List Pst) (n : Int) : inT (openT ps) r n ↔ ∃ p ∈ ps, inP p r n := by
  unfold openT
  rw [open_in_aux hr n ps tab0 rfl]
  exact ⟨fun h => h.elim (fun h => absurd h (tab0_in r n)) id, .inr⟩
theorem leadOf_in {m : List Rn} (h : Can m) (n : Int) : inR m n ↔ (1 ≤ n ∧ n ≤ (leadOf m).1) ∨ inR (leadOf m).2 n := by
  cases m with
  | nil =>
    simp only [leadOf]
    constructor
    · exact .inr
    · rintro (h | h)
      · omega
      · exact h
  | cons x l =>
    have hx := (Can.cons_iff.1 h).1
    unfold okR at hx
    by_cases h1 : x.1 = 1
    · rw [leadOf_1 h1, inR_cons]
      simp only [h1]
    · rw [leadOf_2 h1]
      constructor
      · exact .inr
      · rintro (h | h)
        · omega
        · exact h
theorem leadOf_can {m : List Rn} (h : Can m) : Can (leadOf m).2 ∧ 0 ≤ (leadOf m).1 ∧ (leadOf m).1 ≤ 1000000000 ∧ ∀ n, inR (leadOf m).2 n → (leadOf m).1 + 1 < n := by
  cases m with
  | nil => exact ⟨Can.nil, by simp [leadOf], by simp [leadOf], fun n hn => absurd hn (inR_nil n)⟩
  | cons x l =>
    have hx := (Can.cons_iff.1 h).1
    unfold okR at hx
    by_cases h1 : x.1 = 1
    · rw [leadOf_1 h1]
      exact ⟨h.tail, by show 0 ≤ x.2; omega, hx.2.2, fun n hn => h.above hn⟩
    · rw [leadOf_2 h1]
      refine ⟨h, Int.le_refl _, by show (0 : Int) ≤ _; omega, fun n hn => ?_⟩
      show (0 : Int) + 1 < n
      rcases (inR_cons x l n).1 hn with hn | hn
      · omega
      · have := h.above hn; omega
theorem size_above (t : Tab) : ∀ (m r : Nat), r < m → sizeT t m ≤ r → leadT t r ≤ 0
  | 0, r, hr, _ => by omega
  | m + 1, r, hr, h => by
    rw [sizeT_succ] at h
    split at h
    · omega
    · rename_i hl
      by_cases hrm : r = m
      · subst hrm; omega
      · exact size_above t m r (by omega) h
theorem leadsT_get (t : Tab) {m r : Nat} (h : r < m) : (leadsT t m)[r]? = some (leadT t r) := by simp [leadsT, h]
theorem cloudT_in (t : Tab) {m r : Nat} (hr : r < m) (n : Int) : (∃ s ∈ cloudT t m, s.1 = (r : Int) ∧ s.2.1 ≤ n ∧ n ≤ s.2.2) ↔ inR (restT t r) n := by
  constructor
  · rintro ⟨s, hs, h1, h2, h3⟩
    simp only [cloudT, List.mem_flatMap, List.mem_range, cloudRow, List.mem_map] at hs
    obtain ⟨k, hk, x, hx, rfl⟩ := hs
    simp only [spanOf] at h1 h2 h3
    have : k = r := by omega
    subst this
    exact ⟨x, hx, h2, h3⟩
  · rintro ⟨x, hx, h2, h3⟩
    refine ⟨spanOf r x, ?_, rfl, h2, h3⟩
    simp only [cloudT, List.mem_flatMap, List.mem_range, cloudRow, List.mem_map]
    exact ⟨r, hr, x, hx, rfl⟩
theorem past_in (t : Tab) {r : Nat} (hr : r < 16) (n : Int) : inP (pastT t) r n ↔ inT t r n := by
  have hc := normR_can (t.getD r [])
  have hlead := leadOf_in hc n
  rw [normR_in] at hlead
  have hb := leadOf_can hc
  have hcl := cloudT_in t hr n
  have hsz := sizeT_le t 16
  unfold inP inT
  show r < 16 ∧ 1 ≤ n ∧ n ≤ 1000000000 ∧ ((r < ((leadsT t 16).take (sizeT t 16)).length ∧ n ≤ vecAt ((leadsT t 16).take (sizeT t 16)) r) ∨ ∃ s ∈ cloudT t 16, s.1 = (r : Int) ∧ s.2.1 ≤ n ∧ n ≤ s.2.2) ↔ _
  rw [hcl, hlead, List.length_take, leadsT_len]
  have hv : r < sizeT t 16 → vecAt ((leadsT t 16).take (sizeT t 16)) r = leadT t r := fun h => by
    unfold vecAt
    rw [List.getD_eq_getElem?_getD, List.getElem?_take, if_pos h, leadsT_get t hr]
    rfl
  constructor
  · rintro ⟨_, h1, h2, ⟨h3, h4⟩ | h⟩
    · rw [hv (by omega)] at h4
      exact .inl ⟨h1, h4⟩
    · exact .inr h
  · rintro (⟨h1, h2⟩ | h)
    · refine ⟨hr, h1, by omega, .inl ?_⟩
      have : r < sizeT t 16 := by
        rcases Nat.lt_or_ge r (sizeT t 16) with h | h
        · exact h
        · have := size_above t 16 r hr h
          unfold leadT at this
          omega
      exact ⟨by omega, by rw [hv this]; exact h2⟩
    · have h1 := hb.1.bound h
      exact ⟨hr, h1.1, h1.2, .inr h⟩
theorem isDot_iff (a b : Int) : isDotR a b = true ↔ 0 ≤ a ∧ a < 16 ∧ 1 ≤ b ∧ b ≤ 1000000000 := by
  simp only [isDotR, Bool.and_eq_true, decide_eq_true_eq]
theorem hasP_iff (p : Pst) (d : Rn) : hasP p d = true ↔ 0 ≤ d.1 ∧ inP p d.1.toNat d.2 := by
  unfold hasP inP
  rw [Bool.and_eq_true, isDot_iff, Bool.or_eq_true, Bool.and_eq_true, decide_eq_true_eq, decide_eq_true_eq, List.any_eq_true]
  constructor
  · rintro ⟨⟨h1, h2, h3, h4⟩, h⟩
    refine ⟨h1, by omega, h3, h4, ?_⟩
    rcases h with h | ⟨s, hs, h⟩
    · exact .inl ⟨by omega, h.2⟩
    · simp only [inSn, Bool.and_eq_true, decide_eq_true_eq] at h
      exact .inr ⟨s, hs, by omega, h.2⟩
  · rintro ⟨h1, h2, h3, h4, h⟩
    refine ⟨⟨h1, by omega, h3, h4⟩, ?_⟩
    rcases h with h | ⟨s, hs, h⟩
    · exact .inl ⟨by omega, h.2⟩
    · refine .inr ⟨s, hs, ?_⟩
      simp only [inSn, Bool.and_eq_true, decide_eq_true_eq]
      exact ⟨by omega, h.2⟩
theorem lastP_top (p : Pst) {r : Nat} (hr : r < 16) : IsTop (inP p r) (lastP p (r : Int)) := by
  rw [lastP_in (by omega), Int.toNat_natCast]
  refine (lastR_top _).iff fun n => ?_
  have := open_in hr [p] n
  unfold inT at this
  rw [this]
  simp
theorem meanT_len (ps : List Pst) : (meanT ps).length = 16 := by
  unfold meanT
  rw [List.length_map]
  exact (openT_le ps).1
theorem meanT_row (ps : List Pst) {r : Nat} (hr : r < 16) : (meanT ps).getD r [] = turnsR ((openT ps).getD r []) := by
  have h := (openT_le ps).1
  unfold meanT
  simp [List.getD_eq_getElem?_getD, h, hr]
theorem lastSet_top (p : Pst) {r : Nat} (hr : r < 16) : IsTop (inP p r) (lastSet (meanT [p]) (r : Int)) := by
  rw [lastSet_in (by omega), Int.toNat_natCast, meanT_row [p] hr]
  refine ((turnsC_ok (normR_can ((openT [p]).getD r []))).top).iff fun n => ?_
  have := open_in hr [p] n
  unfold inT at this
  rw [normR_in, this]
  simp
theorem last_eq (p : Pst) (r : Int) : lastSet (meanT [p]) r = lastP p r := by
  by_cases h : 0 ≤ r ∧ r < 16
  · obtain ⟨k, rfl⟩ : ∃ k : Nat, r = k := ⟨r.toNat, by omega⟩
    exact (lastSet_top p (by omega)).uniq (fun n hn => inP_pos hn) (lastP_top p (by omega))
  · rw [lastP_out h, lastSet_out h]
theorem dots_row (r : Nat) (hr : r < 16) (n : Int) : ∀ (ds : List Rn) (t : Tab), t.length = 16 → (inT (ds.foldl putDot t) r n ↔ inT t r n ∨ (1 ≤ n ∧ n ≤ 1000000000 ∧ ((r : Int), n) ∈ ds))
  | [], t, ht => by simp
  | d :: ds, t, ht => by
    have hl : (putDot t d).length = 16 := by
      unfold putDot
      split
      · rw [addAt_len, ht]
      · exact ht
    rw [List.foldl_cons, dots_row r hr n ds _ hl]
    have hd : inT (putDot t d) r n ↔ inT t r n ∨ (1 ≤ n ∧ n ≤ 1000000000 ∧ ((r : Int), n) = d) := by
      unfold inT mem1 putDot
      split
      · rename_i h
        have hdot := (isDot_iff _ _).1 h
        rw [addAt_row]
        split
        · rename_i hk
          rw [inR_append, inR_one]
          constructor
          · rintro ⟨h1, h2, h3 | h3⟩
            · exact .inl ⟨h1, h2, h3⟩
            · exact .inr ⟨h1, h2, Prod.ext (by show (r : Int) = d.1; omega) (by show n = d.2; omega)⟩
          · rintro (⟨h1, h2, h3⟩ | ⟨h1, h2, rfl⟩)
            · exact ⟨h1, h2, .inl h3⟩
            · exact ⟨h1, h2, .inr ⟨Int.le_refl _, Int.le_refl _⟩⟩
        · rename_i hk
          constructor
          · exact .inl
          · rintro (h1 | ⟨h1, h2, rfl⟩)
            · exact h1
            · exact absurd ⟨by simp, by omega⟩ hk
      · rename_i h
        constructor
        · exact .inl
        · rintro (h1 | ⟨h1, h2, rfl⟩)
          · exact h1
          · exact absurd ((isDot_iff _ _).2 ⟨by omega, by omega, h1, h2⟩) h
    rw [hd, List.mem_cons]
    constructor
    · rintro ((h | ⟨h1, h2, h3⟩) | ⟨h1, h2, h3⟩)
      · exact .inl h
      · exact .inr ⟨h1, h2, .inl h3⟩
      · exact .inr ⟨h1, h2, .inr h3⟩
    · rintro (h | ⟨h1, h2, h3 | h3⟩)
      · exact .inl (.inl h)
      · exact .inl (.inr ⟨h1, h2, h3⟩)
      · exact .inr ⟨h1, h2, h3⟩
def normP (p : Pst) : Pst := pastT (openT [p])
def joinP (ps : List Pst) : Pst := pastT (openT ps)
def ofP (ds : List Rn) : Pst := pastT (ofT ds)
def putP (p : Pst) (d : Rn) : Pst := joinP [p, ofP [d]]
theorem ofP_in (ds : List Rn) {r : Nat} (hr : r < 16) (n : Int) : inP (ofP ds) r n ↔ 1 ≤ n ∧ n ≤ 1000000000 ∧ ((r : Int), n) ∈ ds := by
  unfold ofP
  rw [past_in _ hr]
  unfold ofT
  rw [dots_row r hr n ds tab0 rfl]
  exact ⟨fun h => h.elim (fun h => absurd h (tab0_in r n)) id, .inr⟩
theorem joinP_in (ps : List Pst) {r : Nat} (hr : r < 16) (n : Int) : inP (joinP ps) r n ↔ ∃ p ∈ ps, inP p r n := by
  unfold joinP
  rw [past_in _ hr, open_in hr]
theorem putP_in (p : Pst) (d : Rn) {r : Nat} (hr : r < 16) (n : Int) : inP (putP p d) r n ↔ inP p r n ∨ (1 ≤ n ∧ n ≤ 1000000000 ∧ ((r : Int), n) = d) := by
  unfold putP
  rw [joinP_in _ hr]
  constructor
  · rintro ⟨q, hq, h⟩
    simp only [List.mem_cons, List.not_mem_nil, or_false] at hq
    rcases hq with rfl | rfl
    · exact .inl h
    · have := (ofP_in [d] hr n).1 h
      simpa using Or.inr this
  · rintro (h | h)
    · exact ⟨p, by simp, h⟩
    · exact ⟨ofP [d], by simp, (ofP_in [d] hr n).2 ⟨h.1, h.2.1, by simp [h.2.2]⟩⟩
theorem next_ok (p : Pst) (r m : Int) (h : (nextOf (lastP p) r m).2 = 0) : hasP p (nextOf (lastP p) r m).1 = false ∧ lastP (putP p (nextOf (lastP p) r m).1) (nextOf (lastP p) r m).1.1 = (nextOf (lastP p) r m).1.2 := by
  by_cases h1 : r < 0 ∨ 16 ≤ r
  · rw [nextOf_1 h1] at h; simp at h
  · by_cases h2 : min m 1000000000 ≤ lastP p r
    · rw [nextOf_2 h1 h2] at h; simp at h
    · rw [nextOf_3 h1 h2]
      obtain ⟨k, rfl⟩ : ∃ k : Nat, r = k := ⟨r.toNat, by omega⟩
      have hk : k < 16 := by omega
      have ht := lastP_top p hk
      have h0 := lastP_nonneg p k
      constructor
      · cases hh : hasP p ((k : Int), lastP p k + 1) with
        | false => rfl
        | true =>
          have := ((hasP_iff _ _).1 hh).2
          simp only [Int.toNat_natCast] at this
          have := ht.2 _ this
          omega
      · refine (lastP_top (putP p ((k : Int), lastP p k + 1)) hk).uniq (fun n hn => inP_pos hn) ⟨.inr ?_, fun n hn => ?_⟩
        · show inP (putP p ((k : Int), lastP p k + 1)) k (lastP p k + 1)
          rw [putP_in _ _ hk]
          exact .inr ⟨by show 1 ≤ lastP p k + 1; omega, by show lastP p k + 1 ≤ _; omega, rfl⟩
        · rcases (putP_in _ _ hk n).1 hn with hn | ⟨_, _, hn⟩
          · have := ht.2 n hn
            show n ≤ lastP p k + 1
            omega
          · have := congrArg Prod.snd hn
            exact Int.le_of_eq this
end Go.Proofs.Ytdmfjkhbodbgoaa.Avm

namespace Go.Proofs.Ytdmfjkhbodbgoaa.Avm
open Go.Proofs
def r_spanSize_1 : List SOp :=
  [⟨(some 2), (.assign (.const (.int .i64 0))), none⟩]
instance : Live r_spanSize_1 := ⟨[0]⟩
def r_spanSize_2 : List SOp :=
  [⟨(some 3), (.assign (.const (.int .i64 0))), none⟩]
instance : Live r_spanSize_2 := ⟨[0]⟩
def r_spanSize_3 : List SOp :=
  [⟨(some 6), (.move (.tmp 0)), none⟩, ⟨(some 7), (.call ⟨.value (.func 92), #[.tmp 6], #[58]⟩), none⟩, ⟨(some 8), (.call ⟨.builtin .len, #[.tmp 7], #[58]⟩), none⟩, ⟨(some 9), (.move (.const (.int .i64 0))), none⟩]
instance : Live r_spanSize_3 := ⟨[0, 3]⟩
def r_spanSize_4 : List SOp :=
  [⟨(some 10), (.binOp .lss 3 (.tmp 9) (.tmp 8) 3), none⟩]
instance : Live r_spanSize_4 := ⟨[3, 7, 8, 9]⟩
def r_spanSize_5 : List SOp :=
  [⟨(some 11), (.indexAddr 58 (.tmp 7) (.tmp 9)), none⟩, ⟨(some 12), (.load 73 (.tmp 11)), none⟩, ⟨(some 5), (.alloc 73), none⟩, ⟨none, (.store 73 (.tmp 5) (.tmp 12)), none⟩]
instance : Live r_spanSize_5 := ⟨[3, 7, 8, 9]⟩
def r_spanSize_6 : List SOp :=
  [⟨(some 13), (.move (.tmp 3)), none⟩, ⟨(some 14), (.fieldAddr 73 (.tmp 5) 1), none⟩, ⟨(some 15), (.load 3 (.tmp 14)), none⟩, ⟨(some 16), (.fieldAddr 73 (.tmp 5) 0), none⟩, ⟨(some 17), (.load 3 (.tmp 16)), none⟩, ⟨(some 18), (.binOp .sub 3 (.tmp 15) (.tmp 17) 3), none⟩, ⟨(some 19), (.binOp .add 3 (.tmp 18) (.const (.int .i64 1)) 3), none⟩, ⟨(some 20), (.binOp .add 3 (.tmp 13) (.tmp 19) 3), none⟩, ⟨(some 3), (.assign (.tmp 20)), none⟩]
instance : Live r_spanSize_6 := ⟨[3, 5, 7, 8, 9]⟩
def r_spanSize_7 : List SOp :=
  [⟨(some 21), (.binOp .add 3 (.tmp 9) (.const (.int .i64 1)) 3), none⟩, ⟨(some 9), (.move (.tmp 21)), none⟩]
instance : Live r_spanSize_7 := ⟨[3, 7, 8, 9]⟩
def r_spanSize_8 : List SOp :=
  [⟨(some 22), (.move (.tmp 3)), none⟩, ⟨(some 2), (.assign (.tmp 22)), none⟩]
instance : Live r_spanSize_8 := ⟨[3]⟩
def t_spanSize_l1 : SC :=
  (.seq (.ops false r_spanSize_4) (.seq (.cond (.tmp 10) .skip (.exit 0)) (.seq (.block 1 (.seq (.ops false r_spanSize_5) (.ops false r_spanSize_6))) (.ops false r_spanSize_7))))
def t_spanSize : SC :=
  (.seq (.ops false r_spanSize_1) (.seq (.ops false r_spanSize_2) (.seq (.seq (.ops false r_spanSize_3) (.block 0 (.loop t_spanSize_l1))) (.seq (.ops false r_spanSize_8) .ret))))
theorem it_spanSize : FnIs Try.prog 53 23 [.tmp 2] t_spanSize := ⟨Try.f53, _, Try.func53, rfl, rfl, rfl, rfl, by kernel_rfl⟩
end Go.Proofs.Ytdmfjkhbodbgoaa.Avm

namespace Go.Proofs.Ytdmfjkhbodbgoaa.Avm
open Go.Proofs
def sizeStep (a : Int) (r : Rn) : Int := a + (r.2 - r.1 + 1)
def sizeR (m : List Rn) : Int := m.foldl sizeStep 0
def okRuns (m : List Rn) : Prop := ∀ r ∈ m, 1 ≤ r.1 ∧ r.1 ≤ r.2 ∧ r.2 ≤ 1000000000
theorem sizeFold_le {m : List Rn} (h : okRuns m) (a : Int) : a ≤ m.foldl sizeStep a ∧ m.foldl sizeStep a ≤ a + 1000000000 * (m.length : Int) := by
  induction m generalizing a with
  | nil => simp
  | cons r m ih =>
    have h1 := h r (by simp)
    have h2 := ih (fun x hx => h x (by simp [hx])) (sizeStep a r)
    simp only [List.foldl_cons, List.length_cons]
    unfold sizeStep at h2 ⊢
    omega
theorem ev_spanSize_of (l m : List Rn) (hm : m.length ≤ 1000000000) (hr : okRuns m) (hN : Ev (En Try.prog rfl).P 92 [.sl 2 (encRs l)] (.ret (.sl 2 (encRs m)))) : Ev (En Try.prog rfl).P 53 [.sl 2 (encRs l)] (.ret (.int .i64 (sizeR m))) := by
  refine Ev.of_body it_spanSize (by simp) (Run.start ?_)
  unfold t_spanSize
  have e0 : (encRs m).length = m.length := encRs_len m
  (focus (have hF := True.intro; (repeat' (first | (with_reducible refine Nx.of ?_) | ((with_reducible apply toV); refine stV (k := ?_)) | ((with_reducible apply toG); refine stG (k := ?_); (with_reducible refine Nx.of ?_)) | ((with_reducible apply toG0); refine stG0 (k := ?_); (with_reducible refine Nx.of ?_)) | ((with_reducible apply toC); refine stC (k := ?_); (with_reducible refine Nx.of ?_)) | ((with_reducible apply toO); refine stO (k := ?_)) | ((with_reducible apply toX); refine stX (k := ?_)) | fail)); (all_goals clear hF)))
  refine awp_pure (l := [.sl 2 (encRs l)]) rfl rfl (by simp [stbs, AVal.stb, encRs_stb]) hN ?_
  (focus (have hF := @e0; (repeat' (first | (with_reducible refine Nx.of ?_) | ((with_reducible apply toV); refine stV (k := ?_)) | ((with_reducible apply toG); refine stG (k := ?_); (with_reducible refine Nx.of ?_)) | ((with_reducible apply toG0); refine stG0 (k := ?_); (with_reducible refine Nx.of ?_)) | ((with_reducible apply toC); refine stC (k := ?_); (with_reducible refine Nx.of ?_)) | ((with_reducible apply toO); refine stO (k := ?_)) | ((with_reducible apply toX); refine stX (k := ?_)) | fail)); (all_goals clear hF)))
  refine Run.range m.length (fun i => ⟨tms [(3, .int .i64 ((m.take i).foldl sizeStep 0)), (7, .sl 2 (encRs m)), (8, .int .i64 m.length), (9, .int .i64 i)], NoM⟩) (Wk.clean _ ⟨rfl, rfl, rfl, rfl, trivial⟩ ⟨rfl, encRs_stb m, rfl, rfl, trivial⟩) (fun i hi => ?_) ?_
  · obtain ⟨r, hx⟩ : ∃ r, m[i]? = some r := ⟨m[i], by simp [hi]⟩
    have hrr := hr r (List.mem_of_getElem? hx)
    have hb := sizeFold_le (m := m.take i) (fun x hx => hr x (List.mem_of_mem_take hx)) 0
    have hlen : (m.take i).length ≤ 1000000000 := by rw [List.length_take]; omega
    rw [foldl_take sizeStep 0 m hx]
    generalize (m.take i).foldl sizeStep 0 = a at hb ⊢
    have e1 : ((i : Int) < (m.length : Int)) = True := by simp only [eq_iff_iff, iff_true]; omega
    have e2 : (0 ≤ (i : Int)) = True := by simp
    have e3 : (encRs m)[i]? = some (.agg [.int .i64 r.1, .int .i64 r.2]) := encRs_get hx
    have e4 : IntKind.i64.wrap (r.2 - r.1) = r.2 - r.1 := wrap_id (by omega)
    have e5 : IntKind.i64.wrap (r.2 - r.1 + 1) = r.2 - r.1 + 1 := wrap_id (by omega)
    have e6 : IntKind.i64.wrap (a + (r.2 - r.1 + 1)) = a + (r.2 - r.1 + 1) := wrap_id (by omega)
    have e13 : IntKind.i64.wrap ((i : Int) + 1) = ((i + 1 : Nat) : Int) := by rw [wrap_id (by omega)]; omega
    unfold t_spanSize_l1
    (focus (have hF := (And.intro (And.intro (And.intro @e0 @e1) (And.intro @e2 @e3)) (And.intro (And.intro @e4 @e5) (And.intro @e6 @e13))); (repeat' (first | (with_reducible refine Nx.of ?_) | ((with_reducible apply toV); refine stV (k := ?_)) | ((with_reducible apply toG); refine stG (k := ?_); (with_reducible refine Nx.of ?_)) | ((with_reducible apply toG0); refine stG0 (k := ?_); (with_reducible refine Nx.of ?_)) | ((with_reducible apply toC); refine stC (k := ?_); (with_reducible refine Nx.of ?_)) | ((with_reducible apply toO); refine stO (k := ?_)) | ((with_reducible apply toX); refine stX (k := ?_)) | fail)); (all_goals clear hF)))
    exact Fin.next (Wk.clean _ ⟨rfl, rfl, rfl, rfl, trivial⟩ ⟨rfl, encRs_stb m, rfl, rfl, trivial⟩)
  · have e1 : ((m.length : Int) < (m.length : Int)) = False := by simp
    have e3 : m.take m.length = m := List.take_length
    rw [e3]
    unfold t_spanSize_l1
    (focus (have hF := (And.intro @e0 @e1); (repeat' (first | (with_reducible refine Nx.of ?_) | ((with_reducible apply toV); refine stV (k := ?_)) | ((with_reducible apply toG); refine stG (k := ?_); (with_reducible refine Nx.of ?_)) | ((with_reducible apply toG0); refine stG0 (k := ?_); (with_reducible refine Nx.of ?_)) | ((with_reducible apply toC); refine stC (k := ?_); (with_reducible refine Nx.of ?_)) | ((with_reducible apply toO); refine stO (k := ?_)) | ((with_reducible apply toX); refine stX (k := ?_)) | fail)); (all_goals clear hF)))
    exact Fin.tmp' rfl rfl
end Go.Proofs.Ytdmfjkhbodbgoaa.Avm

namespace Go.Proofs.Ytdmfjkhbodbgoaa.Avm
open Go.Proofs
def r_ref04Same_1 : List SOp :=
  [⟨(some 2), (.box 25 (.tmp 0)), none⟩, ⟨(some 3), (.box 25 (.tmp 1)), none⟩, ⟨(some 4), (.assign (.const (.bool false))), none⟩]
instance : Live r_ref04Same_1 := ⟨[0, 1]⟩
def r_ref04Same_2 : List SOp :=
  [⟨(some 7), (.fieldAddr 25 (.tmp 2) 0), none⟩, ⟨(some 8), (.load 22 (.tmp 7)), none⟩, ⟨(some 9), (.call ⟨.builtin .len, #[.tmp 8], #[22]⟩), none⟩, ⟨(some 10), (.fieldAddr 25 (.tmp 3) 0), none⟩, ⟨(some 11), (.load 22 (.tmp 10)), none⟩, ⟨(some 12), (.call ⟨.builtin .len, #[.tmp 11], #[22]⟩), none⟩, ⟨(some 13), (.binOp .neq 3 (.tmp 9) (.tmp 12) 3), none⟩, ⟨(some 14), (.move (.tmp 13)), none⟩, ⟨(some 15), (.fieldAddr 25 (.tmp 2) 1), (some ((some 14), false))⟩, ⟨(some 16), (.load 23 (.tmp 15)), (some ((some 14), false))⟩, ⟨(some 17), (.call ⟨.builtin .len, #[.tmp 16], #[23]⟩), (some ((some 14), false))⟩, ⟨(some 18), (.fieldAddr 25 (.tmp 3) 1), (some ((some 14), false))⟩, ⟨(some 19), (.load 23 (.tmp 18)), (some ((some 14), false))⟩, ⟨(some 20), (.call ⟨.builtin .len, #[.tmp 19], #[23]⟩), (some ((some 14), false))⟩, ⟨(some 21), (.binOp .neq 3 (.tmp 17) (.tmp 20) 3), (some ((some 14), false))⟩, ⟨(some 22), (.pick (.tmp 14) (.const (.bool true)) (.tmp 21)), none⟩]
instance : Live r_ref04Same_2 := ⟨[2, 3]⟩
def r_ref04Same_3 : List SOp :=
  [⟨(some 4), (.assign (.const (.bool false))), none⟩]
instance : Live r_ref04Same_3 := ⟨[]⟩
def r_ref04Same_4 : List SOp :=
  [⟨(some 5), (.assign (.const (.int .i64 0))), none⟩]
instance : Live r_ref04Same_4 := ⟨[2, 3]⟩
def r_ref04Same_5 : List SOp :=
  [⟨(some 23), (.move (.tmp 5)), none⟩, ⟨(some 24), (.fieldAddr 25 (.tmp 2) 0), none⟩, ⟨(some 25), (.load 22 (.tmp 24)), none⟩, ⟨(some 26), (.call ⟨.builtin .len, #[.tmp 25], #[22]⟩), none⟩, ⟨(some 27), (.binOp .lss 3 (.tmp 23) (.tmp 26) 3), none⟩]
instance : Live r_ref04Same_5 := ⟨[2, 3, 5]⟩
def r_ref04Same_6 : List SOp :=
  [⟨(some 30), (.fieldAddr 25 (.tmp 2) 0), none⟩, ⟨(some 31), (.load 22 (.tmp 30)), none⟩, ⟨(some 32), (.move (.tmp 5)), none⟩, ⟨(some 33), (.indexAddr 22 (.tmp 31) (.tmp 32)), none⟩, ⟨(some 34), (.load 3 (.tmp 33)), none⟩, ⟨(some 35), (.fieldAddr 25 (.tmp 3) 0), none⟩, ⟨(some 36), (.load 22 (.tmp 35)), none⟩, ⟨(some 37), (.move (.tmp 5)), none⟩, ⟨(some 38), (.indexAddr 22 (.tmp 36) (.tmp 37)), none⟩, ⟨(some 39), (.load 3 (.tmp 38)), none⟩, ⟨(some 40), (.binOp .neq 3 (.tmp 34) (.tmp 39) 3), none⟩]
instance : Live r_ref04Same_6 := ⟨[2, 3, 5]⟩
def r_ref04Same_7 : List SOp :=
  [⟨(some 4), (.assign (.const (.bool false))), none⟩]
instance : Live r_ref04Same_7 := ⟨[]⟩
def r_ref04Same_8 : List SOp :=
  [⟨(some 28), (.move (.tmp 5)), none⟩, ⟨(some 29), (.binOp .add 3 (.tmp 28) (.const (.int .i64 1)) 3), none⟩, ⟨(some 5), (.assign (.tmp 29)), none⟩]
instance : Live r_ref04Same_8 := ⟨[2, 3, 5]⟩
def r_ref04Same_9 : List SOp :=
  [⟨(some 6), (.assign (.const (.int .i64 0))), none⟩]
instance : Live r_ref04Same_9 := ⟨[2, 3]⟩
def r_ref04Same_10 : List SOp :=
  [⟨(some 41), (.move (.tmp 6)), none⟩, ⟨(some 42), (.fieldAddr 25 (.tmp 2) 1), none⟩, ⟨(some 43), (.load 23 (.tmp 42)), none⟩, ⟨(some 44), (.call ⟨.builtin .len, #[.tmp 43], #[23]⟩), none⟩, ⟨(some 45), (.binOp .lss 3 (.tmp 41) (.tmp 44) 3), none⟩]
instance : Live r_ref04Same_10 := ⟨[2, 3, 6]⟩
def r_ref04Same_11 : List SOp :=
  [⟨(some 48), (.fieldAddr 25 (.tmp 2) 1), none⟩, ⟨(some 49), (.load 23 (.tmp 48)), none⟩, ⟨(some 50), (.move (.tmp 6)), none⟩, ⟨(some 51), (.indexAddr 23 (.tmp 49) (.tmp 50)), none⟩, ⟨(some 52), (.load 41 (.tmp 51)), none⟩, ⟨(some 53), (.fieldAddr 25 (.tmp 3) 1), none⟩, ⟨(some 54), (.load 23 (.tmp 53)), none⟩, ⟨(some 55), (.move (.tmp 6)), none⟩, ⟨(some 56), (.indexAddr 23 (.tmp 54) (.tmp 55)), none⟩, ⟨(some 57), (.load 41 (.tmp 56)), none⟩, ⟨(some 58), (.binOp .neq 41 (.tmp 52) (.tmp 57) 41), none⟩]
instance : Live r_ref04Same_11 := ⟨[2, 3, 6]⟩
def r_ref04Same_12 : List SOp :=
  [⟨(some 4), (.assign (.const (.bool false))), none⟩]
instance : Live r_ref04Same_12 := ⟨[]⟩
def r_ref04Same_13 : List SOp :=
  [⟨(some 46), (.move (.tmp 6)), none⟩, ⟨(some 47), (.binOp .add 3 (.tmp 46) (.const (.int .i64 1)) 3), none⟩, ⟨(some 6), (.assign (.tmp 47)), none⟩]
instance : Live r_ref04Same_13 := ⟨[2, 3, 6]⟩
def r_ref04Same_14 : List SOp :=
  [⟨(some 4), (.assign (.const (.bool true))), none⟩]
instance : Live r_ref04Same_14 := ⟨[]⟩
def t_ref04Same_l1 : SC :=
  (.seq (.seq (.ops false r_ref04Same_5) (.cond (.tmp 27) .skip (.exit 0))) (.seq (.block 1 (.seq (.ops true r_ref04Same_6) (.cond (.tmp 40) (.seq (.ops false r_ref04Same_7) .ret) .skip))) (.ops false r_ref04Same_8)))
def t_ref04Same_l2 : SC :=
  (.seq (.seq (.ops false r_ref04Same_10) (.cond (.tmp 45) .skip (.exit 2))) (.seq (.block 3 (.seq (.ops true r_ref04Same_11) (.cond (.tmp 58) (.seq (.ops false r_ref04Same_12) .ret) .skip))) (.ops false r_ref04Same_13)))
def t_ref04Same : SC :=
  (.seq (.ops false r_ref04Same_1) (.seq (.seq (.ops false r_ref04Same_2) (.cond (.tmp 22) (.seq (.ops false r_ref04Same_3) .ret) .skip)) (.seq (.seq (.ops false r_ref04Same_4) (.block 0 (.loop t_ref04Same_l1))) (.seq (.seq (.ops false r_ref04Same_9) (.block 2 (.loop t_ref04Same_l2))) (.seq (.ops false r_ref04Same_14) .ret)))))
theorem it_ref04Same : FnIs Try.prog 23 59 [.tmp 4] t_ref04Same := ⟨Try.f23, _, Try.func23, rfl, rfl, rfl, rfl, by kernel_rfl⟩
end Go.Proofs.Ytdmfjkhbodbgoaa.Avm

namespace Go.Proofs.Ytdmfjkhbodbgoaa.Avm
open Go.Proofs
def sameP (a b : Pst) : Bool := decide (a.vec = b.vec ∧ a.cloud = b.cloud)
theorem sameP_false {a b : Pst} (h : ¬ (a.vec = b.vec ∧ a.cloud = b.cloud)) : sameP a b = false := by simp [sameP, h]
theorem sameP_true {a b : Pst} (h : a.vec = b.vec ∧ a.cloud = b.cloud) : sameP a b = true := by simp [sameP, h]
theorem take_succ_eq {α : Type} {l m : List α} {i : Nat} {x : α} (h : l.take i = m.take i) (h1 : l[i]? = some x) (h2 : m[i]? = some x) : l.take (i + 1) = m.take (i + 1) := by
  rw [List.take_add_one, List.take_add_one, h, h1, h2]
theorem ev_ref04Same (a b : Pst) (ha : a.vec.length ≤ 1000000000) (hb : a.cloud.length ≤ 1000000000) : Ev (En Try.prog rfl).P 23 [encP a, encP b] (.ret (.bool (sameP a b))) := by
  refine Ev.of_body it_ref04Same (by simp) (Run.start ?_)
  have e0 : (encIs a.vec).length = a.vec.length := encIs_len _
  have e1 : (encIs b.vec).length = b.vec.length := encIs_len _
  have e2 : (encSs a.cloud).length = a.cloud.length := encSs_len _
  have e3 : (encSs b.cloud).length = b.cloud.length := encSs_len _
  unfold t_ref04Same encP
  by_cases c1 : a.vec.length = b.vec.length
  · have d1 : (!decide ((a.vec.length : Int) = (b.vec.length : Int))) = false := by simp; omega
    by_cases c2 : a.cloud.length = b.cloud.length
    · have d2 : (!decide ((a.cloud.length : Int) = (b.cloud.length : Int))) = false := by simp; omega
      (focus (have hF := (And.intro (And.intro @e0 (And.intro @e1 @e2)) (And.intro @e3 (And.intro @d1 @d2))); (repeat' (first | (with_reducible refine Nx.of ?_) | ((with_reducible apply toV); refine stV (k := ?_)) | ((with_reducible apply toG); refine stG (k := ?_); (with_reducible refine Nx.of ?_)) | ((with_reducible apply toG0); refine stG0 (k := ?_); (with_reducible refine Nx.of ?_)) | ((with_reducible apply toC); refine stC (k := ?_); (with_reducible refine Nx.of ?_)) | ((with_reducible apply toO); refine stO (k := ?_)) | ((with_reducible apply toX); refine stX (k := ?_)) | fail)); (all_goals clear hF)))
      refine Run.rangeP a.vec.length (fun i => ⟨tms [(2, .ptr 2 0), (3, .ptr 3 0), (5, .int .i64 i)], mms [(2, .cells [.sl 1 (encIs a.vec), .sl 3 (encSs a.cloud)]), (3, .cells [.sl 1 (encIs b.vec), .sl 3 (encSs b.cloud)])]⟩) (fun i => a.vec.take i = b.vec.take i)
        (Wk.toL _ _ ⟨rfl, rfl, rfl, trivial⟩ ⟨rfl, rfl, trivial⟩ ⟨rfl, rfl, rfl, trivial⟩ ⟨by simp [ABlk.no, AVal.noC, AVal.no, AVal.stb, encIs_stb, encSs_stb], by simp [ABlk.no, AVal.noC, AVal.no, AVal.stb, encIs_stb, encSs_stb], trivial⟩) (by simp) (fun i hi hI => ?_) (fun hI => ?_)
      · obtain ⟨x, hx⟩ : ∃ x, a.vec[i]? = some x := ⟨a.vec[i], by simp [hi]⟩
        obtain ⟨y, hy⟩ : ∃ y, b.vec[i]? = some y := ⟨b.vec[i]'(by omega), by simp [show i < b.vec.length by omega]⟩
        have f1 : ((i : Int) < (a.vec.length : Int)) = True := by simp only [eq_iff_iff, iff_true]; omega
        have f2 : (0 ≤ (i : Int)) = True := by simp
        have f3 : ((i : Int) < (b.vec.length : Int)) = True := by simp only [eq_iff_iff, iff_true]; omega
        have f4 := encIs_get hx
        have f5 := encIs_get hy
        have e13 : IntKind.i64.wrap ((i : Int) + 1) = ((i + 1 : Nat) : Int) := by rw [wrap_id (by omega)]; omega
        unfold t_ref04Same_l1
        by_cases c3 : x = y
        · have d3 : (!decide (x = y)) = false := by simpa using c3
          (focus (have hF := (And.intro (And.intro (And.intro @e0 @e1) (And.intro @e2 (And.intro @e3 @f1))) (And.intro (And.intro @f2 (And.intro @f3 @f4)) (And.intro @f5 (And.intro @d3 @e13)))); (repeat' (first | (with_reducible refine Nx.of ?_) | ((with_reducible apply toV); refine stV (k := ?_)) | ((with_reducible apply toG); refine stG (k := ?_); (with_reducible refine Nx.of ?_)) | ((with_reducible apply toG0); refine stG0 (k := ?_); (with_reducible refine Nx.of ?_)) | ((with_reducible apply toC); refine stC (k := ?_); (with_reducible refine Nx.of ?_)) | ((with_reducible apply toO); refine stO (k := ?_)) | ((with_reducible apply toX); refine stX (k := ?_)) | fail)); (all_goals clear hF)))
          exact Fin.nextP (Wk.toL _ _ ⟨rfl, rfl, rfl, trivial⟩ ⟨rfl, rfl, trivial⟩ ⟨rfl, rfl, rfl, trivial⟩ ⟨by simp [ABlk.no, AVal.noC, AVal.no, AVal.stb, encIs_stb, encSs_stb], by simp [ABlk.no, AVal.noC, AVal.no, AVal.stb, encIs_stb, encSs_stb], trivial⟩) (take_succ_eq hI hx (c3 ▸ hy))
        · have d3 : (!decide (x = y)) = true := by simpa using c3
          rw [sameP_false (fun h => c3 (by have := hx; rw [h.1, hy] at this; exact (Option.some.inj this).symm))]
          (focus (have hF := (And.intro (And.intro (And.intro @e0 @e1) (And.intro @e2 (And.intro @e3 @f1))) (And.intro (And.intro @f2 (And.intro @f3 @f4)) (And.intro @f5 (And.intro @d3 @e13)))); (repeat' (first | (with_reducible refine Nx.of ?_) | ((with_reducible apply toV); refine stV (k := ?_)) | ((with_reducible apply toG); refine stG (k := ?_); (with_reducible refine Nx.of ?_)) | ((with_reducible apply toG0); refine stG0 (k := ?_); (with_reducible refine Nx.of ?_)) | ((with_reducible apply toC); refine stC (k := ?_); (with_reducible refine Nx.of ?_)) | ((with_reducible apply toO); refine stO (k := ?_)) | ((with_reducible apply toX); refine stX (k := ?_)) | fail)); (all_goals clear hF)))
          exact Fin.outP_ret (Fin.block_ret (Fin.seq_ret (Fin.tmp' rfl rfl)))
      · have hv : a.vec = b.vec := by
          rw [List.take_length] at hI
          rw [hI, c1, List.take_length]
        have f1 : ((a.vec.length : Int) < (a.vec.length : Int)) = False := by simp
        unfold t_ref04Same_l1
        (focus (have hF := (And.intro (And.intro @e0 @e1) (And.intro @e2 (And.intro @e3 @f1))); (repeat' (first | (with_reducible refine Nx.of ?_) | ((with_reducible apply toV); refine stV (k := ?_)) | ((with_reducible apply toG); refine stG (k := ?_); (with_reducible refine Nx.of ?_)) | ((with_reducible apply toG0); refine stG0 (k := ?_); (with_reducible refine Nx.of ?_)) | ((with_reducible apply toC); refine stC (k := ?_); (with_reducible refine Nx.of ?_)) | ((with_reducible apply toO); refine stO (k := ?_)) | ((with_reducible apply toX); refine stX (k := ?_)) | fail)); (all_goals clear hF)))
        refine Run.rangeP a.cloud.length (fun i => ⟨tms [(2, .ptr 2 0), (3, .ptr 3 0), (6, .int .i64 i)], mms [(2, .cells [.sl 1 (encIs a.vec), .sl 3 (encSs a.cloud)]), (3, .cells [.sl 1 (encIs b.vec), .sl 3 (encSs b.cloud)])]⟩) (fun i => a.cloud.take i = b.cloud.take i)
          (Wk.toL _ _ ⟨rfl, rfl, rfl, trivial⟩ ⟨rfl, rfl, trivial⟩ ⟨rfl, rfl, rfl, trivial⟩ ⟨by simp [ABlk.no, AVal.noC, AVal.no, AVal.stb, encIs_stb, encSs_stb], by simp [ABlk.no, AVal.noC, AVal.no, AVal.stb, encIs_stb, encSs_stb], trivial⟩) (by simp) (fun i hi hI2 => ?_) (fun hI2 => ?_)
        · obtain ⟨x, hx⟩ : ∃ x, a.cloud[i]? = some x := ⟨a.cloud[i], by simp [hi]⟩
          obtain ⟨y, hy⟩ : ∃ y, b.cloud[i]? = some y := ⟨b.cloud[i]'(by omega), by simp [show i < b.cloud.length by omega]⟩
          have g1 : ((i : Int) < (a.cloud.length : Int)) = True := by simp only [eq_iff_iff, iff_true]; omega
          have g2 : (0 ≤ (i : Int)) = True := by simp
          have g3 : ((i : Int) < (b.cloud.length : Int)) = True := by simp only [eq_iff_iff, iff_true]; omega
          have g4 : (encSs a.cloud)[i]? = some (.agg [.int .i64 x.1, .int .i64 x.2.1, .int .i64 x.2.2]) := encSs_get hx
          have g5 : (encSs b.cloud)[i]? = some (.agg [.int .i64 y.1, .int .i64 y.2.1, .int .i64 y.2.2]) := encSs_get hy
          have e13 : IntKind.i64.wrap ((i : Int) + 1) = ((i + 1 : Nat) : Int) := by rw [wrap_id (by omega)]; omega
          unfold t_ref04Same_l2
          by_cases c3 : x = y
          · have d3 : decide (x.1 = y.1) = true := by simp [c3]
            have d4 : decide (x.2.1 = y.2.1) = true := by simp [c3]
            have d5 : decide (x.2.2 = y.2.2) = true := by simp [c3]
            (focus (have hF := (And.intro (And.intro (And.intro @e0 (And.intro @e1 @e2)) (And.intro @e3 (And.intro @g1 @g2))) (And.intro (And.intro @g3 (And.intro @g4 @g5)) (And.intro (And.intro @d3 @d4) (And.intro @d5 @e13)))); (repeat' (first | (with_reducible refine Nx.of ?_) | ((with_reducible apply toV); refine stV (k := ?_)) | ((with_reducible apply toG); refine stG (k := ?_); (with_reducible refine Nx.of ?_)) | ((with_reducible apply toG0); refine stG0 (k := ?_); (with_reducible refine Nx.of ?_)) | ((with_reducible apply toC); refine stC (k := ?_); (with_reducible refine Nx.of ?_)) | ((with_reducible apply toO); refine stO (k := ?_)) | ((with_reducible apply toX); refine stX (k := ?_)) | fail)); (all_goals clear hF)))
            exact Fin.nextP (Wk.toL _ _ ⟨rfl, rfl, rfl, trivial⟩ ⟨rfl, rfl, trivial⟩ ⟨rfl, rfl, rfl, trivial⟩ ⟨by simp [ABlk.no, AVal.noC, AVal.no, AVal.stb, encIs_stb, encSs_stb], by simp [ABlk.no, AVal.noC, AVal.no, AVal.stb, encIs_stb, encSs_stb], trivial⟩) (take_succ_eq hI2 hx (c3 ▸ hy))
          · rw [sameP_false (fun h => c3 (by have := hx; rw [h.2, hy] at this; exact (Option.some.inj this).symm))]
            by_cases h1 : x.1 = y.1
            · have d3 : decide (x.1 = y.1) = true := by simpa using h1
              by_cases h2 : x.2.1 = y.2.1
              · have d4 : decide (x.2.1 = y.2.1) = true := by simpa using h2
                have h3 : ¬ x.2.2 = y.2.2 := fun h3 => c3 (Prod.ext h1 (Prod.ext h2 h3))
                have d5 : decide (x.2.2 = y.2.2) = false := by simpa using h3
                (focus (have hF := (And.intro (And.intro (And.intro @e0 (And.intro @e1 @e2)) (And.intro @e3 (And.intro @g1 @g2))) (And.intro (And.intro @g3 (And.intro @g4 @g5)) (And.intro (And.intro @d3 @d4) (And.intro @d5 @e13)))); (repeat' (first | (with_reducible refine Nx.of ?_) | ((with_reducible apply toV); refine stV (k := ?_)) | ((with_reducible apply toG); refine stG (k := ?_); (with_reducible refine Nx.of ?_)) | ((with_reducible apply toG0); refine stG0 (k := ?_); (with_reducible refine Nx.of ?_)) | ((with_reducible apply toC); refine stC (k := ?_); (with_reducible refine Nx.of ?_)) | ((with_reducible apply toO); refine stO (k := ?_)) | ((with_reducible apply toX); refine stX (k := ?_)) | fail)); (all_goals clear hF)))
                exact Fin.outP_ret (Fin.block_ret (Fin.seq_ret (Fin.tmp' rfl rfl)))
              · have d4 : decide (x.2.1 = y.2.1) = false := by simpa using h2
                (focus (have hF := (And.intro (And.intro (And.intro @e0 (And.intro @e1 @e2)) (And.intro @e3 (And.intro @g1 @g2))) (And.intro (And.intro @g3 (And.intro @g4 @g5)) (And.intro @d3 (And.intro @d4 @e13)))); (repeat' (first | (with_reducible refine Nx.of ?_) | ((with_reducible apply toV); refine stV (k := ?_)) | ((with_reducible apply toG); refine stG (k := ?_); (with_reducible refine Nx.of ?_)) | ((with_reducible apply toG0); refine stG0 (k := ?_); (with_reducible refine Nx.of ?_)) | ((with_reducible apply toC); refine stC (k := ?_); (with_reducible refine Nx.of ?_)) | ((with_reducible apply toO); refine stO (k := ?_)) | ((with_reducible apply toX); refine stX (k := ?_)) | fail)); (all_goals clear hF)))
                exact Fin.outP_ret (Fin.block_ret (Fin.seq_ret (Fin.tmp' rfl rfl)))
            · have d3 : decide (x.1 = y.1) = false := by simpa using h1
              (focus (have hF := (And.intro (And.intro (And.intro @e0 @e1) (And.intro @e2 (And.intro @e3 @g1))) (And.intro (And.intro @g2 (And.intro @g3 @g4)) (And.intro @g5 (And.intro @d3 @e13)))); (repeat' (first | (with_reducible refine Nx.of ?_) | ((with_reducible apply toV); refine stV (k := ?_)) | ((with_reducible apply toG); refine stG (k := ?_); (with_reducible refine Nx.of ?_)) | ((with_reducible apply toG0); refine stG0 (k := ?_); (with_reducible refine Nx.of ?_)) | ((with_reducible apply toC); refine stC (k := ?_); (with_reducible refine Nx.of ?_)) | ((with_reducible apply toO); refine stO (k := ?_)) | ((with_reducible apply toX); refine stX (k := ?_)) | fail)); (all_goals clear hF)))
              exact Fin.outP_ret (Fin.block_ret (Fin.seq_ret (Fin.tmp' rfl rfl)))
        · have hc : a.cloud = b.cloud := by
            rw [List.take_length] at hI2
            rw [hI2, c2, List.take_length]
          have f1 : ((a.cloud.length : Int) < (a.cloud.length : Int)) = False := by simp
          rw [sameP_true ⟨hv, hc⟩]
          unfold t_ref04Same_l2
          (focus (have hF := (And.intro (And.intro @e0 @e1) (And.intro @e2 (And.intro @e3 @f1))); (repeat' (first | (with_reducible refine Nx.of ?_) | ((with_reducible apply toV); refine stV (k := ?_)) | ((with_reducible apply toG); refine stG (k := ?_); (with_reducible refine Nx.of ?_)) | ((with_reducible apply toG0); refine stG0 (k := ?_); (with_reducible refine Nx.of ?_)) | ((with_reducible apply toC); refine stC (k := ?_); (with_reducible refine Nx.of ?_)) | ((with_reducible apply toO); refine stO (k := ?_)) | ((with_reducible apply toX); refine stX (k := ?_)) | fail)); (all_goals clear hF)))
          exact Fin.tmp' rfl rfl
    · rw [sameP_false (fun h => c2 (by rw [h.2]))]
      have d2 : (!decide ((a.cloud.length : Int) = (b.cloud.length : Int))) = true := by simp; omega
      (focus (have hF := (And.intro (And.intro @e0 (And.intro @e1 @e2)) (And.intro @e3 (And.intro @d1 @d2))); (repeat' (first | (with_reducible refine Nx.of ?_) | ((with_reducible apply toV); refine stV (k := ?_)) | ((with_reducible apply toG); refine stG (k := ?_); (with_reducible refine Nx.of ?_)) | ((with_reducible apply toG0); refine stG0 (k := ?_); (with_reducible refine Nx.of ?_)) | ((with_reducible apply toC); refine stC (k := ?_); (with_reducible refine Nx.of ?_)) | ((with_reducible apply toO); refine stO (k := ?_)) | ((with_reducible apply toX); refine stX (k := ?_)) | fail)); (all_goals clear hF)))
      exact Fin.tmp' rfl rfl
  · rw [sameP_false (fun h => c1 (by rw [h.1]))]
    have d1 : (!decide ((a.vec.length : Int) = (b.vec.length : Int))) = true := by simp; omega
    (focus (have hF := (And.intro (And.intro @e0 @e1) (And.intro @e2 (And.intro @e3 @d1))); (repeat' (first | (with_reducible refine Nx.of ?_) | ((with_reducible apply toV); refine stV (k := ?_)) | ((with_reducible apply toG); refine stG (k := ?_); (with_reducible refine Nx.of ?_)) | ((with_reducible apply toG0); refine stG0 (k := ?_); (with_reducible refine Nx.of ?_)) | ((with_reducible apply toC); refine stC (k := ?_); (with_reducible refine Nx.of ?_)) | ((with_reducible apply toO); refine stO (k := ?_)) | ((with_reducible apply toX); refine stX (k := ?_)) | fail)); (all_goals clear hF)))
    exact Fin.tmp' rfl rfl
end Go.Proofs.Ytdmfjkhbodbgoaa.Avm

namespace Go.Proofs.Ytdmfjkhbodbgoaa.Avm
open Go.Proofs
def r_ref04Next_1 : List SOp :=
  [⟨(some 3), (.box 25 (.tmp 0)), none⟩, ⟨(some 6), (.alloc 32), none⟩, ⟨(some 7), (.assign (.const (.int .i64 0))), none⟩]
instance : Live r_ref04Next_1 := ⟨[0, 1, 2]⟩
def r_ref04Next_2 : List SOp :=
  [⟨(some 9), (.move (.tmp 1)), none⟩, ⟨(some 10), (.binOp .lss 3 (.tmp 9) (.const (.int .i64 0)) 3), none⟩, ⟨(some 11), (.move (.tmp 10)), none⟩, ⟨(some 12), (.move (.tmp 1)), (some ((some 11), false))⟩, ⟨(some 13), (.binOp .geq 3 (.tmp 12) (.const (.int .i64 16)) 3), (some ((some 11), false))⟩, ⟨(some 14), (.pick (.tmp 11) (.const (.bool true)) (.tmp 13)), none⟩]
instance : Live r_ref04Next_2 := ⟨[1, 2, 3, 6]⟩
def r_ref04Next_3 : List SOp :=
  [⟨(some 15), (.build 32 #[]), none⟩, ⟨none, (.store 32 (.tmp 6) (.tmp 15)), none⟩, ⟨(some 7), (.assign (.const (.int .i64 3))), none⟩]
instance : Live r_ref04Next_3 := ⟨[6]⟩
def r_ref04Next_4 : List SOp :=
  [⟨(some 16), (.load 25 (.tmp 3)), none⟩, ⟨(some 17), (.move (.tmp 1)), none⟩, ⟨(some 18), (.call ⟨.value (.func 48), #[.tmp 16, .tmp 17], #[25, 3]⟩), none⟩, ⟨(some 8), (.assign (.tmp 18)), none⟩]
instance : Live r_ref04Next_4 := ⟨[1, 2, 3, 6]⟩
def r_ref04Next_5 : List SOp :=
  [⟨(some 19), (.move (.tmp 8)), none⟩, ⟨(some 20), (.move (.tmp 2)), none⟩, ⟨(some 21), (.call ⟨.builtin .min, #[.tmp 20, .const (.int .i64 1000000000)], #[3, 3]⟩), none⟩, ⟨(some 22), (.binOp .geq 3 (.tmp 19) (.tmp 21) 3), none⟩]
instance : Live r_ref04Next_5 := ⟨[1, 2, 6, 8]⟩
def r_ref04Next_6 : List SOp :=
  [⟨(some 23), (.build 32 #[]), none⟩, ⟨none, (.store 32 (.tmp 6) (.tmp 23)), none⟩, ⟨(some 7), (.assign (.const (.int .i64 9))), none⟩]
instance : Live r_ref04Next_6 := ⟨[6]⟩
def r_ref04Next_7 : List SOp :=
  [⟨(some 24), (.move (.tmp 1)), none⟩, ⟨(some 25), (.move (.tmp 8)), none⟩, ⟨(some 26), (.binOp .add 3 (.tmp 25) (.const (.int .i64 1)) 3), none⟩, ⟨(some 27), (.build 32 #[(0, .tmp 24), (1, .tmp 26)]), none⟩, ⟨none, (.store 32 (.tmp 6) (.tmp 27)), none⟩, ⟨(some 7), (.assign (.const (.int .i64 0))), none⟩]
instance : Live r_ref04Next_7 := ⟨[1, 6, 8]⟩
def t_ref04Next : SC :=
  (.seq (.ops false r_ref04Next_1) (.seq (.seq (.ops false r_ref04Next_2) (.cond (.tmp 14) (.seq (.ops false r_ref04Next_3) .ret) .skip)) (.seq (.ops false r_ref04Next_4) (.seq (.seq (.ops false r_ref04Next_5) (.cond (.tmp 22) (.seq (.ops false r_ref04Next_6) .ret) .skip)) (.seq (.ops false r_ref04Next_7) .ret)))))
theorem it_ref04Next : FnIs Try.prog 14 28 [.cell 6 32, .tmp 7] t_ref04Next := ⟨Try.f14, _, Try.func14, rfl, rfl, rfl, rfl, by kernel_rfl⟩
end Go.Proofs.Ytdmfjkhbodbgoaa.Avm

namespace Go.Proofs.Ytdmfjkhbodbgoaa.Avm
open Go.Proofs
theorem ev_ref04Next_of (p : Pst) (last : Int → Int) (hlast : ∀ r, 0 ≤ last r) (r most : Int) (hcall : Ev (En Try.prog rfl).P 48 [encP p, .int .i64 r] (.ret (.int .i64 (last r)))) : Ev (En Try.prog rfl).P 14 [encP p, .int .i64 r, .int .i64 most] (.ret (.tup [encR (nextOf last r most).1, .int .i64 (nextOf last r most).2])) := by
  refine Ev.of_body it_ref04Next (by simp) (Run.start ?_)
  have hpx : encP p = .agg [.sl 1 (encIs p.vec), .sl 3 (encSs p.cloud)] := rfl
  unfold t_ref04Next
  rw [hpx]
  by_cases c1 : r < 0
  · have d1 : decide (r < 0) = true := by simpa using c1
    rw [nextOf_1 (.inl c1)]
    (focus (have hF := @d1; (repeat' (first | (with_reducible refine Nx.of ?_) | ((with_reducible apply toV); refine stV (k := ?_)) | ((with_reducible apply toG); refine stG (k := ?_); (with_reducible refine Nx.of ?_)) | ((with_reducible apply toG0); refine stG0 (k := ?_); (with_reducible refine Nx.of ?_)) | ((with_reducible apply toC); refine stC (k := ?_); (with_reducible refine Nx.of ?_)) | ((with_reducible apply toO); refine stO (k := ?_)) | ((with_reducible apply toX); refine stX (k := ?_)) | fail)); (all_goals clear hF)))
    exact Fin.all rfl rfl rfl
  · have d1 : decide (r < 0) = false := by simpa using c1
    by_cases c2 : 16 ≤ r
    · have d2 : decide (16 ≤ r) = true := by simpa using c2
      rw [nextOf_1 (.inr c2)]
      (focus (have hF := (And.intro @d1 @d2); (repeat' (first | (with_reducible refine Nx.of ?_) | ((with_reducible apply toV); refine stV (k := ?_)) | ((with_reducible apply toG); refine stG (k := ?_); (with_reducible refine Nx.of ?_)) | ((with_reducible apply toG0); refine stG0 (k := ?_); (with_reducible refine Nx.of ?_)) | ((with_reducible apply toC); refine stC (k := ?_); (with_reducible refine Nx.of ?_)) | ((with_reducible apply toO); refine stO (k := ?_)) | ((with_reducible apply toX); refine stX (k := ?_)) | fail)); (all_goals clear hF)))
      exact Fin.all rfl rfl rfl
    · have d2 : decide (16 ≤ r) = false := by simpa using c2
      have hn : ¬ (r < 0 ∨ 16 ≤ r) := by omega
      (focus (have hF := (And.intro @d1 @d2); (repeat' (first | (with_reducible refine Nx.of ?_) | ((with_reducible apply toV); refine stV (k := ?_)) | ((with_reducible apply toG); refine stG (k := ?_); (with_reducible refine Nx.of ?_)) | ((with_reducible apply toG0); refine stG0 (k := ?_); (with_reducible refine Nx.of ?_)) | ((with_reducible apply toC); refine stC (k := ?_); (with_reducible refine Nx.of ?_)) | ((with_reducible apply toO); refine stO (k := ?_)) | ((with_reducible apply toX); refine stX (k := ?_)) | fail)); (all_goals clear hF)))
      refine awp_pure (l := [encP p, .int .i64 r]) rfl rfl (by simp [stbs, encP_stb, AVal.stb]) hcall ?_
      have h0 := hlast r
      by_cases c3 : min most 1000000000 ≤ last r
      · have d3 : decide (min most 1000000000 ≤ last r) = true := by simpa using c3
        rw [nextOf_2 hn c3]
        (focus (have hF := (And.intro @d1 (And.intro @d2 @d3)); (repeat' (first | (with_reducible refine Nx.of ?_) | ((with_reducible apply toV); refine stV (k := ?_)) | ((with_reducible apply toG); refine stG (k := ?_); (with_reducible refine Nx.of ?_)) | ((with_reducible apply toG0); refine stG0 (k := ?_); (with_reducible refine Nx.of ?_)) | ((with_reducible apply toC); refine stC (k := ?_); (with_reducible refine Nx.of ?_)) | ((with_reducible apply toO); refine stO (k := ?_)) | ((with_reducible apply toX); refine stX (k := ?_)) | fail)); (all_goals clear hF)))
        exact Fin.all rfl rfl rfl
      · have d3 : decide (min most 1000000000 ≤ last r) = false := by simpa using c3
        rw [nextOf_3 hn c3]
        have e1 : IntKind.i64.wrap (last r + 1) = last r + 1 := wrap_id (by omega)
        (focus (have hF := (And.intro (And.intro @d1 @d2) (And.intro @d3 @e1)); (repeat' (first | (with_reducible refine Nx.of ?_) | ((with_reducible apply toV); refine stV (k := ?_)) | ((with_reducible apply toG); refine stG (k := ?_); (with_reducible refine Nx.of ?_)) | ((with_reducible apply toG0); refine stG0 (k := ?_); (with_reducible refine Nx.of ?_)) | ((with_reducible apply toC); refine stC (k := ?_); (with_reducible refine Nx.of ?_)) | ((with_reducible apply toO); refine stO (k := ?_)) | ((with_reducible apply toX); refine stX (k := ?_)) | fail)); (all_goals clear hF)))
        exact Fin.all rfl rfl rfl
end Go.Proofs.Ytdmfjkhbodbgoaa.Avm

namespace Go.Proofs.Ytdmfjkhbodbgoaa.Avm
open Go.Proofs
def r_pastSize_1 : List SOp :=
  [⟨(some 1), (.box 25 (.tmp 0)), none⟩, ⟨(some 2), (.assign (.const (.int .i64 0))), none⟩]
instance : Live r_pastSize_1 := ⟨[0]⟩
def r_pastSize_2 : List SOp :=
  [⟨(some 3), (.assign (.const (.int .i64 0))), none⟩]
instance : Live r_pastSize_2 := ⟨[1]⟩
def r_pastSize_3 : List SOp :=
  [⟨(some 6), (.load 25 (.tmp 1)), none⟩, ⟨(some 7), (.buildSlice 51 1 #[(0, .tmp 6)]), none⟩, ⟨(some 8), (.call ⟨.value (.func 47), #[.tmp 7], #[51]⟩), none⟩, ⟨(some 9), (.nilCheck (.tmp 8)), none⟩, ⟨(some 10), (.move (.const (.int .i64 0))), none⟩]
instance : Live r_pastSize_3 := ⟨[1, 3]⟩
def r_pastSize_4 : List SOp :=
  [⟨(some 11), (.binOp .lss 3 (.tmp 10) (.const (.int .i64 16)) 3), none⟩]
instance : Live r_pastSize_4 := ⟨[3, 8, 10]⟩
def r_pastSize_5 : List SOp :=
  [⟨(some 12), (.nilCheck (.tmp 8)), none⟩, ⟨(some 13), (.indexAddr 70 (.tmp 12) (.tmp 10)), none⟩, ⟨(some 14), (.load 58 (.tmp 13)), none⟩, ⟨(some 5), (.assign (.tmp 14)), none⟩]
instance : Live r_pastSize_5 := ⟨[3, 8, 10]⟩
def r_pastSize_6 : List SOp :=
  [⟨(some 15), (.move (.tmp 3)), none⟩, ⟨(some 16), (.move (.tmp 5)), none⟩, ⟨(some 17), (.call ⟨.value (.func 53), #[.tmp 16], #[58]⟩), none⟩, ⟨(some 18), (.binOp .add 3 (.tmp 15) (.tmp 17) 3), none⟩, ⟨(some 3), (.assign (.tmp 18)), none⟩]
instance : Live r_pastSize_6 := ⟨[3, 5, 8, 10]⟩
def r_pastSize_7 : List SOp :=
  [⟨(some 19), (.binOp .add 3 (.tmp 10) (.const (.int .i64 1)) 3), none⟩, ⟨(some 10), (.move (.tmp 19)), none⟩]
instance : Live r_pastSize_7 := ⟨[3, 8, 10]⟩
def r_pastSize_8 : List SOp :=
  [⟨(some 20), (.move (.tmp 3)), none⟩, ⟨(some 2), (.assign (.tmp 20)), none⟩]
instance : Live r_pastSize_8 := ⟨[3]⟩
def t_pastSize_l1 : SC :=
  (.seq (.ops false r_pastSize_4) (.seq (.cond (.tmp 11) .skip (.exit 0)) (.seq (.block 1 (.seq (.ops false r_pastSize_5) (.ops false r_pastSize_6))) (.ops false r_pastSize_7))))
def t_pastSize : SC :=
  (.seq (.ops false r_pastSize_1) (.seq (.ops false r_pastSize_2) (.seq (.seq (.ops false r_pastSize_3) (.block 0 (.loop t_pastSize_l1))) (.seq (.ops false r_pastSize_8) .ret))))
theorem it_pastSize : FnIs Try.prog 18 21 [.tmp 2] t_pastSize := ⟨Try.f18, _, Try.func18, rfl, rfl, rfl, rfl, by kernel_rfl⟩
end Go.Proofs.Ytdmfjkhbodbgoaa.Avm

namespace Go.Proofs.Ytdmfjkhbodbgoaa.Avm
open Go.Proofs
def r_law04fixed_1 : List SOp :=
  [⟨(some 0), (.assign (.const (.bool false))), none⟩]
instance : Live r_law04fixed_1 := ⟨[]⟩
def r_law04fixed_2 : List SOp :=
  [⟨(some 2), (.buildSlice 22 3 #[(0, .const (.int .i64 2)), (1, .const (.int .i64 0)), (2, .const (.int .i64 0))]), none⟩, ⟨(some 3), (.build 41 #[(0, .const (.int .i64 0)), (1, .const (.int .i64 3)), (2, .const (.int .i64 4))]), none⟩, ⟨(some 4), (.build 41 #[(0, .const (.int .i64 1)), (1, .const (.int .i64 2)), (2, .const (.int .i64 2))]), none⟩, ⟨(some 5), (.buildSlice 23 2 #[(0, .tmp 3), (1, .tmp 4)]), none⟩, ⟨(some 6), (.build 25 #[(0, .tmp 2), (1, .tmp 5)]), none⟩, ⟨(some 7), (.call ⟨.value (.func 17), #[.tmp 6], #[25]⟩), none⟩, ⟨(some 1), (.alloc 25), none⟩, ⟨none, (.store 25 (.tmp 1) (.tmp 7)), none⟩]
instance : Live r_law04fixed_2 := ⟨[]⟩
def r_law04fixed_3 : List SOp :=
  [⟨(some 8), (.load 25 (.tmp 1)), none⟩, ⟨(some 9), (.buildSlice 22 1 #[(0, .const (.int .i64 4))]), none⟩, ⟨(some 10), (.build 41 #[(0, .const (.int .i64 1)), (1, .const (.int .i64 2)), (2, .const (.int .i64 2))]), none⟩, ⟨(some 11), (.buildSlice 23 1 #[(0, .tmp 10)]), none⟩, ⟨(some 12), (.build 25 #[(0, .tmp 9), (1, .tmp 11)]), none⟩, ⟨(some 13), (.call ⟨.value (.func 23), #[.tmp 8, .tmp 12], #[25, 25]⟩), none⟩, ⟨(some 14), (.unOp .not 4 (.tmp 13)), none⟩]
instance : Live r_law04fixed_3 := ⟨[1]⟩
def r_law04fixed_4 : List SOp :=
  [⟨(some 0), (.assign (.const (.bool false))), none⟩]
instance : Live r_law04fixed_4 := ⟨[]⟩
def r_law04fixed_5 : List SOp :=
  [⟨(some 15), (.load 25 (.tmp 1)), none⟩, ⟨(some 16), (.build 32 #[(0, .const (.int .i64 0)), (1, .const (.int .i64 4))]), none⟩, ⟨(some 17), (.call ⟨.value (.func 15), #[.tmp 15, .tmp 16], #[25, 32]⟩), none⟩, ⟨(some 18), (.move (.tmp 17)), none⟩, ⟨(some 19), (.load 25 (.tmp 1)), (some ((some 18), true))⟩, ⟨(some 20), (.call ⟨.value (.func 18), #[.tmp 19], #[25]⟩), (some ((some 18), true))⟩, ⟨(some 21), (.binOp .eql 3 (.tmp 20) (.const (.int .i64 5)) 3), (some ((some 18), true))⟩, ⟨(some 22), (.pick (.tmp 18) (.tmp 21) (.const (.bool false))), none⟩, ⟨(some 0), (.assign (.tmp 22)), none⟩]
instance : Live r_law04fixed_5 := ⟨[1]⟩
def t_law04fixed : SC :=
  (.seq (.ops false r_law04fixed_1) (.seq (.ops false r_law04fixed_2) (.seq (.seq (.ops false r_law04fixed_3) (.cond (.tmp 14) (.seq (.ops false r_law04fixed_4) .ret) .skip)) (.seq (.ops false r_law04fixed_5) .ret))))
theorem it_law04fixed : FnIs Try.prog 11 23 [.tmp 0] t_law04fixed := ⟨Try.f11, _, Try.func11, rfl, rfl, rfl, rfl, by kernel_rfl⟩
end Go.Proofs.Ytdmfjkhbodbgoaa.Avm

namespace Go.Proofs.Ytdmfjkhbodbgoaa.Avm
open Go.Proofs
theorem pastT_wt {t : Tab} {n : Nat} (h : TabLe t n) : wt (pastT t) ≤ 16 + 16 * n := by
  have h1 := cloudT_len h 16
  show ((leadsT t 16).take (sizeT t 16)).length + (cloudT t 16).length ≤ _
  rw [List.length_take, leadsT_len]
  omega
theorem ofT_le (ds : List Rn) : TabLe (ofT ds) ds.length := by
  have := TabLe.dots tab0_le ds
  simpa [ofT] using this
theorem ev_pastNorm (p : Pst) (hw : wt p ≤ 50000000) : Ev (En Try.prog rfl).P 17 [encP p] (.ret (encP (normP p))) :=
  ev_pastNorm_of p _ (by omega) (ev_pasttablepast _ (n := wt p) (by simpa using openT_le [p]) hw)
theorem ev_pastJoin (ps : List Pst) (hl : ps.length ≤ 1000000000) (hw : (ps.map wt).sum ≤ 50000000) : Ev (En Try.prog rfl).P 20 [.sl 2 (encPs ps)] (.ret (encP (joinP ps))) :=
  ev_pastJoin_of ps _ hl (by omega) (ev_pasttablepast _ (openT_le ps) hw)
theorem ev_pastOf (ds : List Rn) (hl : ds.length ≤ 50000000) : Ev (En Try.prog rfl).P 33 [.sl 2 (encRs ds)] (.ret (encP (ofP ds))) :=
  ev_pastOf_of ds _ (by omega) (ev_pasttablepast _ (ofT_le ds) hl)
theorem ev_pastPut (p : Pst) (d : Rn) (hw : wt p ≤ 40000000) : Ev (En Try.prog rfl).P 16 [encP p, encR d] (.ret (encP (putP p d))) := by
  have h1 : wt (ofP [d]) ≤ 32 := pastT_wt (ofT_le [d])
  exact ev_pastPut_of p d _ _ (by show wt p + wt (ofP [d]) ≤ 900000000; omega) (ev_pasttablepast _ (ofT_le [d]) (by simp)) (ev_pasttablepast _ (openT_le [p, ofP [d]]) (by simp; omega))
theorem can_okRuns {m : List Rn} (h : Can m) : okRuns m := fun r hr => by have := h.2 r hr; unfold okR at this; omega
theorem ev_spanSize (l : List Rn) (hl : l.length ≤ 50000000) : Ev (En Try.prog rfl).P 53 [.sl 2 (encRs l)] (.ret (.int .i64 (sizeR (normR l)))) := by
  have h := normR_len l
  exact ev_spanSize_of l (normR l) (by omega) (can_okRuns (normR_can l)) (ev_spanNorm l (by omega))
def sizeTab (t : Tab) (n : Nat) : Int := (List.range n).foldl (fun a r => a + sizeR (normR (t.getD r []))) 0
theorem sizeTab_succ (t : Tab) (n : Nat) : sizeTab t (n + 1) = sizeTab t n + sizeR (normR (t.getD n [])) := by
  unfold sizeTab
  rw [List.range_succ, List.foldl_append]
  rfl
theorem sizeR_bound (l : List Rn) {n : Nat} (h : l.length ≤ n) : 0 ≤ sizeR (normR l) ∧ sizeR (normR l) ≤ 1000000000 * (n : Int) := by
  have h1 := sizeFold_le (can_okRuns (normR_can l)) 0
  have h2 := normR_len l
  unfold sizeR
  omega
theorem sizeTab_bound {t : Tab} {n : Nat} (h : TabLe t n) : ∀ m : Nat, 0 ≤ sizeTab t m ∧ sizeTab t m ≤ (m : Int) * (1000000000 * (n : Int))
  | 0 => by simp [sizeTab]
  | m + 1 => by
    have h1 := sizeTab_bound h m
    have h2 := sizeR_bound (t.getD m []) (h.2 m)
    rw [sizeTab_succ, Int.natCast_add, Int.add_mul]
    omega
def sizeP (p : Pst) : Int := sizeTab (openT [p]) 16
theorem ev_pastSize (p : Pst) (hw : wt p ≤ 50000000) : Ev (En Try.prog rfl).P 18 [encP p] (.ret (.int .i64 (sizeP p))) := by
  refine Ev.of_body it_pastSize (by simp) (Run.start ?_)
  unfold t_pastSize encP
  have ht : TabLe (openT [p]) (wt p) := by simpa using openT_le [p]
  have h16 : (encTs (openT [p])).length = 16 := by rw [encTs_len, ht.1]
  (focus (have hF := @h16; (repeat' (first | (with_reducible refine Nx.of ?_) | ((with_reducible apply toV); refine stV (k := ?_)) | ((with_reducible apply toG); refine stG (k := ?_)) | ((with_reducible apply toG0); refine stG0 (k := ?_)) | ((with_reducible apply toC); refine stC (k := ?_)) | ((with_reducible apply toO); refine stO (k := ?_)) | ((with_reducible apply toX); refine stX (k := ?_)) | (with_reducible refine Ny.of ?_ ?_) | (refine Hyp.of ?_; intro hc; (try simp only [hc]); (try simp only [Bh] at hc)) | fail)); (all_goals clear hF)))
  refine stCall [.sl 2 (encPs [p])] (he := ev_pastopen [p] (by simp) (by simpa using (show wt p ≤ 900000000 by omega))) (k := ?_)
  (focus (have hF := @h16; (repeat' (first | (with_reducible refine Nx.of ?_) | ((with_reducible apply toV); refine stV (k := ?_)) | ((with_reducible apply toG); refine stG (k := ?_)) | ((with_reducible apply toG0); refine stG0 (k := ?_)) | ((with_reducible apply toC); refine stC (k := ?_)) | ((with_reducible apply toO); refine stO (k := ?_)) | ((with_reducible apply toX); refine stX (k := ?_)) | (with_reducible refine Ny.of ?_ ?_) | (refine Hyp.of ?_; intro hc; (try simp only [hc]); (try simp only [Bh] at hc)) | fail)); (all_goals clear hF)))
  have hs : sizeP p = sizeTab (openT [p]) 16 := rfl
  rw [hs]
  generalize openT [p] = t at ht h16 ⊢
  refine Run.while (σ := Nat) (fun r => ⟨tms [(3, .int .i64 (sizeTab t r)), (8, .sptr (encTs t)), (10, .int .i64 r)], NoM⟩) (fun r => r ≤ 16) (fun r => 16 - r) 0 (Wk.clean _ ⟨rfl, rfl, rfl, trivial⟩ ⟨rfl, encTs_stb t, rfl, trivial⟩) (Nat.zero_le _) ?_
  intro r hr
  unfold t_pastSize_l1
  by_cases hlt : r < 16
  · have hrt : r < t.length := by rw [ht.1]; exact hlt
    have hq := ht.2 r
    have g1 := drop_head (encTs_get hrt)
    have hb := sizeTab_bound ht r
    have hb2 := sizeR_bound (t.getD r []) hq
    have hnx := sizeTab_succ t r
    have hr16 : (r : Int) * (1000000000 * (wt p : Int)) ≤ 16 * (1000000000 * (wt p : Int)) := Int.mul_le_mul_of_nonneg_right (by omega) (by omega)
    (focus (have hF := (And.intro @h16 @g1); (repeat' (first | (with_reducible refine Nx.of ?_) | ((with_reducible apply toV); refine stV (k := ?_)) | ((with_reducible apply toG); refine stG (k := ?_)) | ((with_reducible apply toG0); refine stG0 (k := ?_)) | ((with_reducible apply toC); refine stC (k := ?_)) | ((with_reducible apply toO); refine stO (k := ?_)) | ((with_reducible apply toX); refine stX (k := ?_)) | (with_reducible refine Ny.of ?_ ?_) | (refine Hyp.of ?_; intro hc; (try simp only [hc]); (try simp only [Bh] at hc)) | fail)); (all_goals clear hF)))
    refine stCall [.sl 2 (encRs (t.getD r []))] (he := ev_spanSize _ (by omega)) (k := ?_)
    (focus (have hF := (And.intro @h16 @g1); (repeat' (first | (with_reducible refine Nx.of ?_) | ((with_reducible apply toV); refine stV (k := ?_)) | ((with_reducible apply toG); refine stG (k := ?_)) | ((with_reducible apply toG0); refine stG0 (k := ?_)) | ((with_reducible apply toC); refine stC (k := ?_)) | ((with_reducible apply toO); refine stO (k := ?_)) | ((with_reducible apply toX); refine stX (k := ?_)) | (with_reducible refine Ny.of ?_ ?_) | (refine Hyp.of ?_; intro hc; (try simp only [hc]); (try simp only [Bh] at hc)) | fail)); (all_goals clear hF)))
    apply Fin.nextW (r + 1)
    case h => exact Wk.clean _ ⟨by simp [↓upd_app, ↓tms_cons', hnx], rfl, rfl, trivial⟩ ⟨rfl, encTs_stb t, rfl, trivial⟩
    omega
  · rw [show r = 16 by omega]
    (focus (have hF := @h16; (repeat' (first | (with_reducible refine Nx.of ?_) | ((with_reducible apply toV); refine stV (k := ?_)) | ((with_reducible apply toG); refine stG (k := ?_)) | ((with_reducible apply toG0); refine stG0 (k := ?_)) | ((with_reducible apply toC); refine stC (k := ?_)) | ((with_reducible apply toO); refine stO (k := ?_)) | ((with_reducible apply toX); refine stX (k := ?_)) | (with_reducible refine Ny.of ?_ ?_) | (refine Hyp.of ?_; intro hc; (try simp only [hc]); (try simp only [Bh] at hc)) | fail)); (all_goals clear hF)))
    exact Fin.tmp' rfl rfl
theorem normR_sorted {l c : List Rn} (hc : clips l = c) (h : c.Pairwise leLo) : normR l = c.foldl addR [] := by
  subst hc
  exact (normR_eq h (List.Perm.refl _)).symm
def fix0 : Pst := ⟨[2, 0, 0], [(0, 3, 4), (1, 2, 2)]⟩
def fix1 : Pst := ⟨[4], [(1, 2, 2)]⟩
theorem fix_rows : openT [fix0] = [[(1, 2), (3, 4)], [(1, 0), (2, 2)], [(1, 0)], [], [], [], [], [], [], [], [], [], [], [], [], []] := by decide
theorem fix_norm : (openT [fix0]).map normR = [[(1, 4)], [(2, 2)], [], [], [], [], [], [], [], [], [], [], [], [], [], []] := by
  rw [fix_rows]
  have n0 : normR [] = [] := normR_of_can Can.nil
  have n1 : normR [(1, 2), (3, 4)] = [(1, 4)] := (normR_sorted (c := [(1, 2), (3, 4)]) (by decide) (by simp [leLo])).trans (by decide)
  have n2 : normR [(1, 0), (2, 2)] = [(2, 2)] := (normR_sorted (c := [(2, 2)]) (by decide) (by simp)).trans (by decide)
  have n3 : normR [(1, 0)] = [] := (normR_sorted (c := []) (by decide) (by simp)).trans (by decide)
  simp only [List.map_cons, List.map_nil, n0, n1, n2, n3]
theorem getD_norm (t : Tab) (r : Nat) : normR (t.getD r []) = (t.map normR).getD r [] := by
  simp only [List.getD_eq_getElem?_getD, List.getElem?_map]
  cases t[r]? with
  | none => exact normR_of_can Can.nil
  | some l => rfl
def pastN (m : Tab) : Pst :=
  ⟨((List.range 16).map fun r => (leadOf (m.getD r [])).1).take ((List.range 16).foldl (fun a r => if 0 < (leadOf (m.getD r [])).1 then r + 1 else a) 0), (List.range 16).flatMap fun r => (leadOf (m.getD r [])).2.map (spanOf r)⟩
theorem pastT_N (t : Tab) : pastT t = pastN (t.map normR) := by
  unfold pastT pastN leadsT sizeT cloudT cloudRow restT leadT
  simp only [getD_norm]
theorem fix_normP : normP fix0 = fix1 := by
  unfold normP
  rw [pastT_N, fix_norm]
  rfl
theorem fix_size : sizeP fix1 = 5 := by
  have h : openT [fix1] = [[(1, 4)], [(2, 2)], [], [], [], [], [], [], [], [], [], [], [], [], [], []] := by decide
  have hm : (openT [fix1]).map normR = openT [fix1] := by
    rw [h]
    have n0 : normR [] = [] := normR_of_can Can.nil
    have n1 : normR [(1, 4)] = [(1, 4)] := (normR_sorted (c := [(1, 4)]) (by decide) (by simp)).trans (by decide)
    have n2 : normR [(2, 2)] = [(2, 2)] := (normR_sorted (c := [(2, 2)]) (by decide) (by simp)).trans (by decide)
    simp only [List.map_cons, List.map_nil, n0, n1, n2]
  unfold sizeP sizeTab
  simp only [getD_norm, hm]
  rw [h]
  rfl
theorem ev_law04fixed : Ev (En Try.prog rfl).P 11 [] (.ret (.bool true)) := by
  refine Ev.of_body it_law04fixed (by simp) (Run.start ?_)
  unfold t_law04fixed
  have h1 : sameP fix1 fix1 = true := by decide
  have h2 : hasP fix1 (0, 4) = true := by decide
  have c1 := ev_pastNorm fix0 (by decide)
  rw [fix_normP] at c1
  have c2 := ev_ref04Same fix1 fix1 (by decide) (by decide)
  rw [h1] at c2
  have c3 := ev_pastHas fix1 (0, 4) (by decide)
  rw [h2] at c3
  have c4 := ev_pastSize fix1 (by decide)
  rw [fix_size] at c4
  (focus (have hF := True.intro; (repeat' (first | (with_reducible refine Nx.of ?_) | ((with_reducible apply toV); refine stV (k := ?_)) | ((with_reducible apply toG); refine stG (k := ?_)) | ((with_reducible apply toG0); refine stG0 (k := ?_)) | ((with_reducible apply toC); refine stC (k := ?_)) | ((with_reducible apply toO); refine stO (k := ?_)) | ((with_reducible apply toX); refine stX (k := ?_)) | (with_reducible refine Ny.of ?_ ?_) | (refine Hyp.of ?_; intro hc; (try simp only [hc]); (try simp only [Bh] at hc)) | fail)); (all_goals clear hF)))
  refine stCall [encP fix0] (he := c1) (k := ?_)
  unfold encP
  (focus (have hF := True.intro; (repeat' (first | (with_reducible refine Nx.of ?_) | ((with_reducible apply toV); refine stV (k := ?_)) | ((with_reducible apply toG); refine stG (k := ?_)) | ((with_reducible apply toG0); refine stG0 (k := ?_)) | ((with_reducible apply toC); refine stC (k := ?_)) | ((with_reducible apply toO); refine stO (k := ?_)) | ((with_reducible apply toX); refine stX (k := ?_)) | (with_reducible refine Ny.of ?_ ?_) | (refine Hyp.of ?_; intro hc; (try simp only [hc]); (try simp only [Bh] at hc)) | fail)); (all_goals clear hF)))
  refine stCall [encP fix1, encP fix1] (he := c2) (k := ?_)
  (focus (have hF := True.intro; (repeat' (first | (with_reducible refine Nx.of ?_) | ((with_reducible apply toV); refine stV (k := ?_)) | ((with_reducible apply toG); refine stG (k := ?_)) | ((with_reducible apply toG0); refine stG0 (k := ?_)) | ((with_reducible apply toC); refine stC (k := ?_)) | ((with_reducible apply toO); refine stO (k := ?_)) | ((with_reducible apply toX); refine stX (k := ?_)) | (with_reducible refine Ny.of ?_ ?_) | (refine Hyp.of ?_; intro hc; (try simp only [hc]); (try simp only [Bh] at hc)) | fail)); (all_goals clear hF)))
  refine stCall [encP fix1, encR (0, 4)] (he := c3) (k := ?_)
  (focus (have hF := True.intro; (repeat' (first | (with_reducible refine Nx.of ?_) | ((with_reducible apply toV); refine stV (k := ?_)) | ((with_reducible apply toG); refine stG (k := ?_)) | ((with_reducible apply toG0); refine stG0 (k := ?_)) | ((with_reducible apply toC); refine stC (k := ?_)) | ((with_reducible apply toO); refine stO (k := ?_)) | ((with_reducible apply toX); refine stX (k := ?_)) | (with_reducible refine Ny.of ?_ ?_) | (refine Hyp.of ?_; intro hc; (try simp only [hc]); (try simp only [Bh] at hc)) | fail)); (all_goals clear hF)))
  refine stCall [encP fix1] (he := c4) (k := ?_)
  (focus (have hF := True.intro; (repeat' (first | (with_reducible refine Nx.of ?_) | ((with_reducible apply toV); refine stV (k := ?_)) | ((with_reducible apply toG); refine stG (k := ?_)) | ((with_reducible apply toG0); refine stG0 (k := ?_)) | ((with_reducible apply toC); refine stC (k := ?_)) | ((with_reducible apply toO); refine stO (k := ?_)) | ((with_reducible apply toX); refine stX (k := ?_)) | (with_reducible refine Ny.of ?_ ?_) | (refine Hyp.of ?_; intro hc; (try simp only [hc]); (try simp only [Bh] at hc)) | fail)); (all_goals clear hF)))
  exact Fin.tmp' rfl rfl
end Go.Proofs.Ytdmfjkhbodbgoaa.Avm

namespace Go.Proofs.Ytdmfjkhbodbgoaa.Avm
theorem pastT_ext {t t' : Tab} (h : t.length = 16) (h' : t'.length = 16) (hx : ∀ r, r < 16 → ∀ n, inT t r n ↔ inT t' r n) : pastT t = pastT t' := by
  have : t.map normR = t'.map normR := by
    refine List.ext_getElem (by simp [h, h']) fun i h1 h2 => ?_
    rw [List.length_map] at h1 h2
    rw [List.getElem_map, List.getElem_map]
    refine normR_ext fun n => ?_
    have := hx i (by omega) n
    unfold inT at this
    simpa [List.getD_eq_getElem?_getD, h1, h2] using this
  rw [pastT_N, pastT_N, this]
theorem joinP_ext {ps qs : List Pst} (h : ∀ r, r < 16 → ∀ n, (∃ p ∈ ps, inP p r n) ↔ ∃ p ∈ qs, inP p r n) : joinP ps = joinP qs :=
  pastT_ext (openT_le ps).1 (openT_le qs).1 fun r hr n => by rw [open_in hr, open_in hr, h r hr]
theorem normP_join (p : Pst) : normP p = joinP [p] := rfl
theorem normP_in (p : Pst) {r : Nat} (hr : r < 16) (n : Int) : inP (normP p) r n ↔ inP p r n := by
  rw [normP_join, joinP_in _ hr]; simp
theorem normP_ext {p q : Pst} (h : ∀ r, r < 16 → ∀ n, inP p r n ↔ inP q r n) : normP p = normP q := joinP_ext fun r hr n => by simp [h r hr]
def CanP (p : Pst) : Prop := normP p = p
theorem canP_of (t : Tab) (h : t.length = 16) : CanP (pastT t) := pastT_ext (openT_le _).1 h fun r hr n => by rw [open_in hr]; simp [past_in t hr]
theorem canP_join (ps : List Pst) : CanP (joinP ps) := canP_of _ (openT_le ps).1
theorem canP_norm (p : Pst) : CanP (normP p) := canP_join [p]
theorem CanP.ext {p q : Pst} (hp : CanP p) (hq : CanP q) (h : ∀ r, r < 16 → ∀ n, inP p r n ↔ inP q r n) : p = q := by
  rw [← hp, ← hq]
  exact normP_ext h
theorem inP_iff_norm {p q : Pst} (h : normP p = normP q) {r : Nat} (hr : r < 16) (n : Int) : inP p r n ↔ inP q r n := by
  rw [← normP_in p hr, h, normP_in q hr]
def tot (t : Tab) : Nat := (t.map List.length).sum
theorem sum_get : ∀ (l : List Nat) (i : Nat), (l.getD i 0) ≤ l.sum
  | [], i => by simp
  | x :: l, 0 => by simp
  | x :: l, i + 1 => by have := sum_get l i; simp at this ⊢; omega
theorem tot_row (t : Tab) (r : Nat) : (t.getD r []).length ≤ tot t := by
  have := sum_get (t.map List.length) r
  unfold tot
  simp only [List.getD_eq_getElem?_getD, List.getElem?_map] at this ⊢
  cases h : t[r]? with
  | none => simp
  | some l => simpa [h] using this
theorem tot_le {t : Tab} (h : t.length = 16) : TabLe t (tot t) := ⟨h, tot_row t⟩
theorem sum_set_le : ∀ (t : Tab) (r : Nat) (l : List Rn), ((t.set r l).map List.length).sum ≤ (t.map List.length).sum + (l.length - (t.getD r []).length)
  | [], r, l => by simp
  | x :: t, 0, l => by simp; omega
  | x :: t, r + 1, l => by have := sum_set_le t r l; simp at this ⊢; omega
theorem tot_add (t : Tab) (r : Nat) (x : Rn) : tot (addAt t r x) ≤ tot t + 1 := by
  have := sum_set_le t r (t.getD r [] ++ [x])
  unfold tot addAt
  simp only [List.length_append, List.length_cons, List.length_nil] at this
  omega
theorem tot_range (v : List Int) (t : Tab) : ∀ i, tot ((List.range i).foldl (putVec v) t) ≤ tot t + i
  | 0 => Nat.le_refl _
  | i + 1 => by
    rw [range_fold]
    have h1 := tot_range v t i
    have h2 := tot_add ((List.range i).foldl (putVec v) t) i (1, vecAt v i)
    unfold putVec at *
    omega
theorem tot_cloud : ∀ (c : List Sn) (t : Tab), tot (addCloud c t) ≤ tot t + c.length
  | [], t => Nat.le_refl _
  | s :: c, t => by
    have h1 := tot_cloud c (putSn t s)
    have h2 : tot (putSn t s) ≤ tot t + 1 := by
      unfold putSn
      split
      · exact tot_add _ _ _
      · omega
    show tot (addCloud c (putSn t s)) ≤ _
    simp only [List.length_cons]
    omega
theorem tot_open : ∀ (ps : List Pst) (t : Tab), tot (ps.foldl openOne t) ≤ tot t + (ps.map wt).sum
  | [], t => Nat.le_refl _
  | p :: ps, t => by
    have h1 := tot_open ps (openOne t p)
    have h2 : tot (openOne t p) ≤ tot t + wt p := by
      have a := tot_range p.vec t (min p.vec.length 16)
      have b := tot_cloud p.cloud (addVec p.vec t)
      unfold openOne addVec wt at *
      omega
    simp only [List.foldl_cons, List.map_cons, List.sum_cons]
    omega
theorem tot_openT (ps : List Pst) : tot (openT ps) ≤ (ps.map wt).sum := by
  have h0 : tot tab0 = 0 := by decide
  have := tot_open ps tab0
  unfold openT
  omega
theorem tot_dots : ∀ (ds : List Rn) (t : Tab), tot (ds.foldl putDot t) ≤ tot t + ds.length
  | [], t => Nat.le_refl _
  | d :: ds, t => by
    have h1 := tot_dots ds (putDot t d)
    have h2 : tot (putDot t d) ≤ tot t + 1 := by
      unfold putDot
      split
      · exact tot_add _ _ _
      · omega
    simp only [List.foldl_cons, List.length_cons]
    omega
theorem tot_ofT (ds : List Rn) : tot (ofT ds) ≤ ds.length := by
  have h0 : tot tab0 = 0 := by decide
  have := tot_dots ds tab0
  unfold ofT
  omega
theorem rest_sum (t : Tab) : ∀ m, (cloudT t m).length ≤ ((List.range m).map fun r => (t.getD r []).length).sum
  | 0 => by simp [cloudT]
  | m + 1 => by
    rw [cloudT_succ, List.length_append, List.range_succ, List.map_append, List.sum_append]
    have h1 := rest_sum t m
    have h2 : (cloudRow t m).length ≤ (t.getD m []).length := by
      have a := leadOf_len (normR (t.getD m []))
      have b := normR_len (t.getD m [])
      simp only [cloudRow, restT, List.length_map]
      omega
    simp only [List.map_cons, List.map_nil, List.sum_cons, List.sum_nil]
    omega
theorem range_getD : ∀ (t : Tab), ((List.range t.length).map fun r => (t.getD r []).length).sum = tot t
  | t => by
    unfold tot
    congr 1
    refine List.ext_getElem (by simp) fun i h1 h2 => ?_
    simp at h1 h2 ⊢
    simp [h1]
theorem pastT_tot {t : Tab} (h : t.length = 16) : wt (pastT t) ≤ 16 + tot t := by
  have h1 := rest_sum t 16
  have h2 := range_getD t
  rw [h] at h2
  show ((leadsT t 16).take (sizeT t 16)).length + (cloudT t 16).length ≤ _
  rw [List.length_take, leadsT_len]
  omega
theorem joinP_wt (ps : List Pst) : wt (joinP ps) ≤ 16 + (ps.map wt).sum := by
  have h1 := pastT_tot (openT_le ps).1
  have h2 := tot_openT ps
  show wt (pastT (openT ps)) ≤ _
  omega
theorem ofP_wt (ds : List Rn) : wt (ofP ds) ≤ 16 + ds.length := by
  have h1 := pastT_tot (ofT_le ds).1
  have h2 := tot_ofT ds
  show wt (pastT (ofT ds)) ≤ _
  omega
theorem putP_wt (p : Pst) (d : Rn) : wt (putP p d) ≤ wt p + 33 := by
  have h1 := joinP_wt [p, ofP [d]]
  have h2 := ofP_wt [d]
  simp only [List.map_cons, List.map_nil, List.sum_cons, List.sum_nil, List.length_cons, List.length_nil] at h1 h2
  show wt (joinP [p, ofP [d]]) ≤ _
  omega
theorem normP_wt (p : Pst) : wt (normP p) ≤ wt p + 16 := by
  have := joinP_wt [p]
  simp only [List.map_cons, List.map_nil, List.sum_cons, List.sum_nil] at this
  show wt (joinP [p]) ≤ _
  omega
theorem n9_ex : ∃ N : Nat, N = 1000000000 := ⟨_, rfl⟩
noncomputable def n9 : Nat := Classical.choose n9_ex
theorem n9_eq : n9 = 1000000000 := Classical.choose_spec n9_ex
open Classical in
noncomputable def card (q : Int → Prop) : Nat := (List.range n9).countP fun (i : Nat) => decide (q ((i : Int) + 1))
open Classical in
theorem card_def (q : Int → Prop) : card q = (List.range n9).countP fun (i : Nat) => decide (q ((i : Int) + 1)) := rfl
open Classical in
theorem countP_add {α : Type} (p q r s : α → Prop) (l : List α) (h : ∀ x, (if p x then 1 else 0) + (if q x then 1 else 0) = (if r x then 1 else 0) + (if s x then 1 else 0)) :
    l.countP (fun x => decide (p x)) + l.countP (fun x => decide (q x)) = l.countP (fun x => decide (r x)) + l.countP (fun x => decide (s x)) := by
  induction l with
  | nil => rfl
  | cons x l ih =>
    have := h x
    simp only [List.countP_cons, decide_eq_true_eq]
    omega
open Classical in
theorem card_union (p q : Int → Prop) : card (fun n => p n ∨ q n) + card (fun n => p n ∧ q n) = card p + card q := by
  simp only [card_def]
  refine countP_add _ _ _ _ _ fun x => ?_
  by_cases h1 : p ((x : Int) + 1) <;> by_cases h2 : q ((x : Int) + 1) <;> simp [h1, h2]
open Classical in
theorem card_part (p q : Int → Prop) : card (fun n => p n ∧ ¬ q n) + card (fun n => p n ∧ q n) = card p := by
  have h0 : card (fun _ => False) = 0 := by simp [card_def]
  have := countP_add (fun i : Nat => p ((i : Int) + 1) ∧ ¬ q ((i : Int) + 1)) (fun i : Nat => p ((i : Int) + 1) ∧ q ((i : Int) + 1)) (fun i : Nat => p ((i : Int) + 1)) (fun i : Nat => False) (List.range n9) (fun x => by
    by_cases h1 : p ((x : Int) + 1) <;> by_cases h2 : q ((x : Int) + 1) <;> simp [h1, h2])
  simp only [card_def] at h0 ⊢
  omega
theorem card_congr {p q : Int → Prop} (h : ∀ n, 1 ≤ n → n ≤ 1000000000 → (p n ↔ q n)) : card p = card q := by
  classical
  simp only [card_def]
  refine List.countP_congr fun i hi => ?_
  rw [List.mem_range, n9_eq] at hi
  simp only [decide_eq_true_eq]
  exact h _ (by omega) (by omega)
theorem count_range (a b : Nat) : ∀ N : Nat, (List.range N).countP (fun i => decide (a ≤ i ∧ i < b)) = min N b - min N a
  | 0 => by simp
  | N + 1 => by
    rw [List.range_succ, List.countP_append, count_range a b N]
    by_cases h : a ≤ N ∧ N < b
    · simp only [List.countP_cons, List.countP_nil, h, and_self, decide_true, if_true]
      omega
    · simp only [List.countP_cons, List.countP_nil, h, decide_false, Bool.false_eq_true, if_false]
      omega
theorem card_run {a b : Int} (h1 : 1 ≤ a) (h2 : a ≤ b) (h3 : b ≤ 1000000000) : (card (fun n => a ≤ n ∧ n ≤ b) : Int) = b - a + 1 := by
  classical
  have h : card (fun n => a ≤ n ∧ n ≤ b) = min n9 b.toNat - min n9 (a - 1).toNat := by
    rw [← count_range (a - 1).toNat b.toNat n9, card_def]
    refine List.countP_congr fun i hi => ?_
    simp only [decide_eq_true_eq]
    omega
  rw [h, n9_eq]
  omega
theorem sizeFold_shift (m : List Rn) (a : Int) : m.foldl sizeStep a = a + m.foldl sizeStep 0 := by
  induction m generalizing a with
  | nil => simp
  | cons x m ih =>
    simp only [List.foldl_cons]
    rw [ih, ih (sizeStep 0 x)]
    unfold sizeStep
    omega
theorem sizeR_card : ∀ {m : List Rn}, Can m → sizeR m = (card (inR m) : Int)
  | [], _ => by
    have : card (inR []) = 0 := by
      classical
      rw [card_def]
      exact List.countP_eq_zero.2 fun i _ => by simp [inR_nil]
    rw [this]; rfl
  | x :: m, h => by
    have hx := (Can.cons_iff.1 h).1
    unfold okR at hx
    have ih := sizeR_card h.tail
    have h1 := card_run hx.1 hx.2.1 hx.2.2
    have h2 := card_union (fun n => x.1 ≤ n ∧ n ≤ x.2) (inR m)
    have h3 : card (fun n => (x.1 ≤ n ∧ n ≤ x.2) ∧ inR m n) = 0 := by
      classical
      rw [card_def]
      refine List.countP_eq_zero.2 fun i _ => ?_
      simp only [decide_eq_true_eq]
      rintro ⟨q1, q2⟩
      have := h.above q2
      omega
    have h4 : card (inR (x :: m)) = card (fun n => (x.1 ≤ n ∧ n ≤ x.2) ∨ inR m n) := card_congr fun n _ _ => inR_cons x m n
    unfold sizeR at *
    rw [List.foldl_cons, sizeFold_shift, ih, h4]
    unfold sizeStep
    omega
noncomputable def cardT (q : Nat → Int → Prop) : Nat → Nat
  | 0 => 0
  | m + 1 => cardT q m + card (q m)
theorem cardT_congr {q q' : Nat → Int → Prop} : ∀ {m : Nat}, (∀ r, r < m → ∀ n, 1 ≤ n → n ≤ 1000000000 → (q r n ↔ q' r n)) → cardT q m = cardT q' m
  | 0, _ => rfl
  | m + 1, h => by
    show cardT q m + card (q m) = cardT q' m + card (q' m)
    rw [cardT_congr (m := m) fun r hr => h r (by omega), card_congr (h m (by omega))]
theorem sizeTab_card (t : Tab) : ∀ m, sizeTab t m = (cardT (inT t) m : Int)
  | 0 => rfl
  | m + 1 => by
    rw [sizeTab_succ, sizeTab_card t m, sizeR_card (normR_can _)]
    show _ = ((cardT (inT t) m + card (inT t m) : Nat) : Int)
    rw [card_congr (p := inR (normR (t.getD m []))) (q := inT t m) fun n _ _ => normR_in _ n]
    omega
theorem sizeP_card (p : Pst) : sizeP p = (cardT (inP p) 16 : Int) := by
  unfold sizeP
  rw [sizeTab_card]
  congr 1
  exact cardT_congr fun r hr n _ _ => by rw [open_in hr]; simp
theorem cardT_union (p q : Nat → Int → Prop) : ∀ m, cardT (fun r n => p r n ∨ q r n) m + cardT (fun r n => p r n ∧ q r n) m = cardT p m + cardT q m
  | 0 => rfl
  | m + 1 => by
    have h1 := cardT_union p q m
    have h2 := card_union (p m) (q m)
    simp only [cardT] at *
    omega
theorem cardT_part (p q : Nat → Int → Prop) : ∀ m, cardT (fun r n => p r n ∧ ¬ q r n) m + cardT (fun r n => p r n ∧ q r n) m = cardT p m
  | 0 => rfl
  | m + 1 => by
    have h1 := cardT_part p q m
    have h2 := card_part (p m) (q m)
    simp only [cardT] at *
    omega
end Go.Proofs.Ytdmfjkhbodbgoaa.Avm

namespace Go.Proofs.Ytdmfjkhbodbgoaa.Avm
theorem inR_one0 (x : Rn) (n : Int) : inR (one0 x) n ↔ x.1 ≤ n ∧ n ≤ x.2 := by
  unfold one0
  by_cases h : x.1 ≤ x.2
  · rw [if_pos h]; exact inR_one x n
  · rw [if_neg h]
    constructor
    · intro hh; exact absurd hh (inR_nil n)
    · intro hh; omega
theorem meetR_in : ∀ {l m : List Rn}, Can l → Can m → ∀ n, inR (meetR l m) n ↔ inR l n ∧ inR m n
  | [], m, _, _, n => by
    unfold meetR
    constructor
    · intro h; exact absurd h (inR_nil n)
    · intro h; exact absurd h.1 (inR_nil n)
  | x :: l, [], _, _, n => by
    rw [meetR_nil]
    constructor
    · intro h; exact absurd h (inR_nil n)
    · intro h; exact absurd h.2 (inR_nil n)
  | x :: l, y :: m, hl, hm, n => by
    rw [meetR_cons, inR_append, inR_one0, inR_cons, inR_cons]
    have a := fun h => hl.above (n := n) h
    have b := fun h => hm.above (n := n) h
    unfold bothR
    by_cases h : x.2 < y.2
    · rw [if_pos h, meetR_in hl.tail hm n, inR_cons]
      constructor
      · rintro (h1 | ⟨h1, h2⟩)
        · exact ⟨.inl (by omega), .inl (by omega)⟩
        · exact ⟨.inr h1, h2⟩
      · rintro ⟨h1 | h1, h2⟩
        · rcases h2 with h2 | h2
          · exact .inl (by omega)
          · have := b h2; omega
        · exact .inr ⟨h1, h2⟩
    · rw [if_neg h, meetR_in hl hm.tail n, inR_cons]
      constructor
      · rintro (h1 | ⟨h1, h2⟩)
        · exact ⟨.inl (by omega), .inl (by omega)⟩
        · exact ⟨h1, .inr h2⟩
      · rintro ⟨h1, h2 | h2⟩
        · rcases h1 with h1 | h1
          · exact .inl (by omega)
          · have := a h1; omega
        · exact .inr ⟨h1, h2⟩
termination_by l m => l.length + m.length
theorem meetR_len : ∀ l m : List Rn, (meetR l m).length ≤ l.length + m.length
  | [], m => by unfold meetR; simp
  | x :: l, [] => by rw [meetR_nil]; simp
  | x :: l, y :: m => by
    rw [meetR_cons, List.length_append]
    have h0 : (one0 (bothR x y)).length ≤ 1 := by unfold one0; split <;> simp
    by_cases h : x.2 < y.2
    · rw [if_pos h]
      have := meetR_len l (y :: m)
      simp only [List.length_cons] at *
      omega
    · rw [if_neg h]
      have := meetR_len (x :: l) m
      simp only [List.length_cons] at *
      omega
termination_by l m => l.length + m.length
theorem othersFrom_in : ∀ {l : List Rn} (k : Int), Can l → 1 ≤ k → (∀ n, inR l n → k ≤ n) → ∀ n, inR (othersFrom k l) n ↔ k ≤ n ∧ n ≤ 1000000000 ∧ ¬ inR l n
  | [], k, _, hk, _, n => by
    unfold othersFrom
    rw [inR_one0]
    constructor
    · intro h; exact ⟨h.1, h.2, inR_nil n⟩
    · intro h; exact ⟨h.1, h.2.1⟩
  | r :: l, k, hl, hk, hb, n => by
    have hr := (Can.cons_iff.1 hl).1
    unfold okR at hr
    have hkr : k ≤ r.1 := hb r.1 ((inR_cons r l _).2 (.inl ⟨Int.le_refl _, hr.2.1⟩))
    have ih := othersFrom_in (l := l) (r.2 + 1) hl.tail (by omega) (fun n h => by have := hl.above h; omega) n
    show inR ((if k < r.1 then [(k, r.1 - 1)] else []) ++ othersFrom (r.2 + 1) l) n ↔ _
    rw [inR_append, ih, inR_cons]
    have a := fun h => hl.above (n := n) h
    by_cases h : k < r.1
    · rw [if_pos h, inR_one]
      constructor
      · rintro (h1 | ⟨h1, h2, h3⟩)
        · exact ⟨by omega, by omega, fun h4 => by
            rcases h4 with h4 | h4
            · omega
            · have := a h4; omega⟩
        · exact ⟨by omega, h2, fun h4 => by
            rcases h4 with h4 | h4
            · omega
            · exact h3 h4⟩
      · rintro ⟨h1, h2, h3⟩
        by_cases h4 : n < r.1
        · exact .inl (by omega)
        · refine .inr ⟨?_, h2, fun h5 => h3 (.inr h5)⟩
          have : ¬ (r.1 ≤ n ∧ n ≤ r.2) := fun h5 => h3 (.inl h5)
          omega
    · rw [if_neg h]
      constructor
      · rintro (h1 | ⟨h1, h2, h3⟩)
        · exact absurd h1 (inR_nil n)
        · exact ⟨by omega, h2, fun h4 => by
            rcases h4 with h4 | h4
            · omega
            · exact h3 h4⟩
      · rintro ⟨h1, h2, h3⟩
        refine .inr ⟨?_, h2, fun h5 => h3 (.inr h5)⟩
        have : ¬ (r.1 ≤ n ∧ n ≤ r.2) := fun h5 => h3 (.inl h5)
        omega
theorem othersFrom_len : ∀ (l : List Rn) (k : Int), (othersFrom k l).length ≤ l.length + 1
  | [], k => by unfold othersFrom one0; split <;> simp
  | r :: l, k => by
    have := othersFrom_len l (r.2 + 1)
    show ((if k < r.1 then [(k, r.1 - 1)] else []) ++ othersFrom (r.2 + 1) l).length ≤ _
    rw [List.length_append, List.length_cons]
    split <;> simp <;> omega
theorem othersR_in {l : List Rn} (h : Can l) (n : Int) : inR (othersR l) n ↔ 1 ≤ n ∧ n ≤ 1000000000 ∧ ¬ inR l n :=
  othersFrom_in 1 h (by omega) (fun n hn => (h.bound hn).1) n
def minusR (a b : List Rn) : List Rn := meetR (normR a) (normR (othersR (normR b)))
theorem minusR_in (a b : List Rn) (n : Int) : inR (minusR a b) n ↔ mem1 a n ∧ ¬ mem1 b n := by
  unfold minusR
  rw [meetR_in (normR_can _) (normR_can _), normR_in, normR_in]
  constructor
  · rintro ⟨h1, h2⟩
    refine ⟨h1, fun h3 => ?_⟩
    have := (othersR_in (normR_can b) n).1 h2.2.2
    exact this.2.2 ((normR_in b n).2 h3)
  · rintro ⟨h1, h2⟩
    refine ⟨h1, h1.1, h1.2.1, (othersR_in (normR_can b) n).2 ⟨h1.1, h1.2.1, fun h3 => h2 ((normR_in b n).1 h3)⟩⟩
end Go.Proofs.Ytdmfjkhbodbgoaa.Avm

namespace Go.Proofs.Ytdmfjkhbodbgoaa.Avm
open Go.Proofs
def r_pastWithin_1 : List SOp :=
  [⟨(some 2), (.box 25 (.tmp 0)), none⟩, ⟨(some 3), (.box 25 (.tmp 1)), none⟩, ⟨(some 4), (.assign (.const (.bool false))), none⟩]
instance : Live r_pastWithin_1 := ⟨[0, 1]⟩
def r_pastWithin_2 : List SOp :=
  [⟨(some 8), (.load 25 (.tmp 2)), none⟩, ⟨(some 9), (.buildSlice 51 1 #[(0, .tmp 8)]), none⟩, ⟨(some 10), (.call ⟨.value (.func 47), #[.tmp 9], #[51]⟩), none⟩, ⟨(some 11), (.load 25 (.tmp 3)), none⟩, ⟨(some 12), (.buildSlice 51 1 #[(0, .tmp 11)]), none⟩, ⟨(some 13), (.call ⟨.value (.func 47), #[.tmp 12], #[51]⟩), none⟩, ⟨(some 5), (.assign (.tmp 10)), none⟩, ⟨(some 6), (.assign (.tmp 13)), none⟩]
instance : Live r_pastWithin_2 := ⟨[2, 3]⟩
def r_pastWithin_3 : List SOp :=
  [⟨(some 14), (.move (.const (.int .i64 0))), none⟩]
instance : Live r_pastWithin_3 := ⟨[5, 6]⟩
def r_pastWithin_4 : List SOp :=
  [⟨(some 15), (.binOp .lss 3 (.tmp 14) (.const (.int .i64 16)) 3), none⟩]
instance : Live r_pastWithin_4 := ⟨[5, 6, 14]⟩
def r_pastWithin_5 : List SOp :=
  [⟨(some 16), (.move (.tmp 14)), none⟩, ⟨(some 7), (.assign (.tmp 16)), none⟩]
instance : Live r_pastWithin_5 := ⟨[5, 6, 14]⟩
def r_pastWithin_6 : List SOp :=
  [⟨(some 17), (.move (.tmp 5)), none⟩, ⟨(some 18), (.move (.tmp 7)), none⟩, ⟨(some 19), (.nilCheck (.tmp 17)), none⟩, ⟨(some 20), (.indexAddr 70 (.tmp 19) (.tmp 18)), none⟩, ⟨(some 21), (.load 58 (.tmp 20)), none⟩, ⟨(some 22), (.call ⟨.builtin .len, #[.tmp 21], #[58]⟩), none⟩, ⟨(some 23), (.binOp .gtr 3 (.tmp 22) (.const (.int .i64 0)) 3), none⟩, ⟨(some 24), (.move (.tmp 23)), none⟩, ⟨(some 25), (.move (.tmp 5)), (some ((some 24), true))⟩, ⟨(some 26), (.move (.tmp 7)), (some ((some 24), true))⟩, ⟨(some 27), (.nilCheck (.tmp 25)), (some ((some 24), true))⟩, ⟨(some 28), (.indexAddr 70 (.tmp 27) (.tmp 26)), (some ((some 24), true))⟩, ⟨(some 29), (.load 58 (.tmp 28)), (some ((some 24), true))⟩, ⟨(some 30), (.move (.tmp 6)), (some ((some 24), true))⟩, ⟨(some 31), (.move (.tmp 7)), (some ((some 24), true))⟩, ⟨(some 32), (.nilCheck (.tmp 30)), (some ((some 24), true))⟩, ⟨(some 33), (.indexAddr 70 (.tmp 32) (.tmp 31)), (some ((some 24), true))⟩, ⟨(some 34), (.load 58 (.tmp 33)), (some ((some 24), true))⟩, ⟨(some 35), (.call ⟨.value (.func 59), #[.tmp 29, .tmp 34], #[58, 58]⟩), (some ((some 24), true))⟩, ⟨(some 36), (.unOp .not 4 (.tmp 35)), (some ((some 24), true))⟩, ⟨(some 37), (.pick (.tmp 24) (.tmp 36) (.const (.bool false))), none⟩]
instance : Live r_pastWithin_6 := ⟨[5, 6, 7, 14]⟩
def r_pastWithin_7 : List SOp :=
  [⟨(some 4), (.assign (.const (.bool false))), none⟩]
instance : Live r_pastWithin_7 := ⟨[]⟩
def r_pastWithin_8 : List SOp :=
  [⟨(some 38), (.binOp .add 3 (.tmp 14) (.const (.int .i64 1)) 3), none⟩, ⟨(some 14), (.move (.tmp 38)), none⟩]
instance : Live r_pastWithin_8 := ⟨[5, 6, 14]⟩
def r_pastWithin_9 : List SOp :=
  [⟨(some 4), (.assign (.const (.bool true))), none⟩]
instance : Live r_pastWithin_9 := ⟨[]⟩
def t_pastWithin_l1 : SC :=
  (.seq (.ops false r_pastWithin_4) (.seq (.cond (.tmp 15) .skip (.exit 0)) (.seq (.block 1 (.seq (.ops false r_pastWithin_5) (.seq (.ops true r_pastWithin_6) (.cond (.tmp 37) (.seq (.ops false r_pastWithin_7) .ret) .skip)))) (.ops false r_pastWithin_8))))
def t_pastWithin : SC :=
  (.seq (.ops false r_pastWithin_1) (.seq (.ops true r_pastWithin_2) (.seq (.seq (.ops false r_pastWithin_3) (.block 0 (.loop t_pastWithin_l1))) (.seq (.ops false r_pastWithin_9) .ret))))
theorem it_pastWithin : FnIs Try.prog 24 39 [.tmp 4] t_pastWithin := ⟨Try.f24, _, Try.func24, rfl, rfl, rfl, rfl, by kernel_rfl⟩
end Go.Proofs.Ytdmfjkhbodbgoaa.Avm

namespace Go.Proofs.Ytdmfjkhbodbgoaa.Avm
open Go.Proofs
def r_pastOrder_1 : List SOp :=
  [⟨(some 2), (.box 25 (.tmp 0)), none⟩, ⟨(some 3), (.box 25 (.tmp 1)), none⟩, ⟨(some 4), (.assign (.const (.int .i64 0))), none⟩]
instance : Live r_pastOrder_1 := ⟨[0, 1]⟩
def r_pastOrder_2 : List SOp :=
  [⟨(some 7), (.load 25 (.tmp 2)), none⟩, ⟨(some 8), (.load 25 (.tmp 3)), none⟩, ⟨(some 9), (.call ⟨.value (.func 24), #[.tmp 7, .tmp 8], #[25, 25]⟩), none⟩, ⟨(some 10), (.load 25 (.tmp 3)), none⟩, ⟨(some 11), (.load 25 (.tmp 2)), none⟩, ⟨(some 12), (.call ⟨.value (.func 24), #[.tmp 10, .tmp 11], #[25, 25]⟩), none⟩, ⟨(some 5), (.assign (.tmp 9)), none⟩, ⟨(some 6), (.assign (.tmp 12)), none⟩]
instance : Live r_pastOrder_2 := ⟨[2, 3]⟩
def r_pastOrder_3 : List SOp :=
  [⟨(some 14), (.move (.tmp 5)), none⟩, ⟨(some 15), (.move (.tmp 14)), none⟩, ⟨(some 16), (.move (.tmp 6)), (some ((some 15), true))⟩, ⟨(some 17), (.pick (.tmp 15) (.tmp 16) (.const (.bool false))), none⟩, ⟨(some 13), (.assign (.tmp 17)), none⟩]
instance : Live r_pastOrder_3 := ⟨[5, 6]⟩
def r_pastOrder_4 : List SOp :=
  [⟨(some 4), (.assign (.const (.int .i64 0))), none⟩]
instance : Live r_pastOrder_4 := ⟨[]⟩
def r_pastOrder_5 : List SOp :=
  [⟨(some 19), (.move (.tmp 5)), none⟩, ⟨(some 18), (.assign (.tmp 19)), none⟩]
instance : Live r_pastOrder_5 := ⟨[5, 6]⟩
def r_pastOrder_6 : List SOp :=
  [⟨(some 4), (.assign (.const (.int .i64 1))), none⟩]
instance : Live r_pastOrder_6 := ⟨[]⟩
def r_pastOrder_7 : List SOp :=
  [⟨(some 21), (.move (.tmp 6)), none⟩, ⟨(some 20), (.assign (.tmp 21)), none⟩]
instance : Live r_pastOrder_7 := ⟨[6]⟩
def r_pastOrder_8 : List SOp :=
  [⟨(some 4), (.assign (.const (.int .i64 2))), none⟩]
instance : Live r_pastOrder_8 := ⟨[]⟩
def r_pastOrder_9 : List SOp :=
  [⟨(some 4), (.assign (.const (.int .i64 3))), none⟩]
instance : Live r_pastOrder_9 := ⟨[]⟩
def t_pastOrder : SC :=
  (.seq (.ops false r_pastOrder_1) (.seq (.seq (.ops true r_pastOrder_2) (.block 0 (.seq (.ops false r_pastOrder_3) (.cond (.tmp 13) (.seq (.ops false r_pastOrder_4) .ret) (.seq (.ops false r_pastOrder_5) (.cond (.tmp 18) (.seq (.ops false r_pastOrder_6) .ret) (.seq (.ops false r_pastOrder_7) (.cond (.tmp 20) (.seq (.ops false r_pastOrder_8) .ret) .skip)))))))) (.seq (.ops false r_pastOrder_9) .ret)))
theorem it_pastOrder : FnIs Try.prog 26 22 [.tmp 4] t_pastOrder := ⟨Try.f26, _, Try.func26, rfl, rfl, rfl, rfl, by kernel_rfl⟩
end Go.Proofs.Ytdmfjkhbodbgoaa.Avm

namespace Go.Proofs.Ytdmfjkhbodbgoaa.Avm
open Go.Proofs
def r_pastEmpty_1 : List SOp :=
  [⟨(some 1), (.box 25 (.tmp 0)), none⟩, ⟨(some 2), (.assign (.const (.bool false))), none⟩]
instance : Live r_pastEmpty_1 := ⟨[0]⟩
def r_pastEmpty_2 : List SOp :=
  [⟨(some 3), (.load 25 (.tmp 1)), none⟩, ⟨(some 4), (.call ⟨.value (.func 18), #[.tmp 3], #[25]⟩), none⟩, ⟨(some 5), (.binOp .eql 3 (.tmp 4) (.const (.int .i64 0)) 3), none⟩, ⟨(some 2), (.assign (.tmp 5)), none⟩]
instance : Live r_pastEmpty_2 := ⟨[1]⟩
def t_pastEmpty : SC :=
  (.seq (.ops false r_pastEmpty_1) (.seq (.ops false r_pastEmpty_2) .ret))
theorem it_pastEmpty : FnIs Try.prog 25 6 [.tmp 2] t_pastEmpty := ⟨Try.f25, _, Try.func25, rfl, rfl, rfl, rfl, by kernel_rfl⟩
end Go.Proofs.Ytdmfjkhbodbgoaa.Avm

namespace Go.Proofs.Ytdmfjkhbodbgoaa.Avm
open Go.Proofs
theorem ev_spanMeet (a b : List Rn) (ha : a.length ≤ 300000000) (hb : b.length ≤ 300000000) : Ev (En Try.prog rfl).P 57 [.sl 2 (encRs a), .sl 2 (encRs b)] (.ret (.sl 2 (encRs (meetR (normR a) (normR b))))) :=
  ev_spanMeet_of a b _ _ (ev_spanNorm a (by omega)) (ev_spanNorm b (by omega)) (by have := normR_len a; omega) (by have := normR_len b; omega)
theorem ev_spanMinus (a b : List Rn) (ha : a.length ≤ 200000000) (hb : b.length ≤ 200000000) : Ev (En Try.prog rfl).P 58 [.sl 2 (encRs a), .sl 2 (encRs b)] (.ret (.sl 2 (encRs (minusR a b)))) := by
  have h1 := normR_len b
  have h2 := othersFrom_len (normR b) 1
  exact ev_spanMinus_of a b _ _ (ev_spanNorm b (by omega)) (ev_spanothers _ (by omega) fun r hr => by have := (normR_can b).2 r hr; unfold okR at this; omega) (ev_spanMeet a _ (by omega) (by unfold othersR; omega))
theorem minusR_len (a b : List Rn) : (minusR a b).length ≤ a.length + b.length + 1 := by
  have h1 := meetR_len (normR a) (normR (othersR (normR b)))
  have h2 := normR_len a
  have h3 := normR_len (othersR (normR b))
  have h4 := othersFrom_len (normR b) 1
  have h5 := normR_len b
  unfold minusR othersR at *
  omega
theorem ev_spanWithin (a b : List Rn) (ha : a.length ≤ 200000000) (hb : b.length ≤ 200000000) : Ev (En Try.prog rfl).P 59 [.sl 2 (encRs a), .sl 2 (encRs b)] (.ret (.bool (decide (minusR a b = [])))) :=
  ev_spanWithin_of a b _ (by have := minusR_len a b; omega) (ev_spanMinus a b ha hb)
def WithP (t u : Tab) : Prop := ∀ r, r < 16 → minusR (t.getD r []) (u.getD r []) = []
open Classical in
noncomputable def withinP (p q : Pst) : Bool := decide (WithP (openT [p]) (openT [q]))
theorem withinP_true {p q : Pst} (h : WithP (openT [p]) (openT [q])) : withinP p q = true := by
  classical
  exact decide_eq_true h
theorem withinP_false {p q : Pst} (h : ¬ WithP (openT [p]) (openT [q])) : withinP p q = false := by
  classical
  exact decide_eq_false h
theorem meetR_ok : ∀ (l m : List Rn), ∀ r ∈ meetR l m, r.1 ≤ r.2
  | [], m, r, h => by unfold meetR at h; simp at h
  | x :: l, [], r, h => by rw [meetR_nil] at h; simp at h
  | x :: l, y :: m, r, h => by
    rw [meetR_cons] at h
    rcases List.mem_append.1 h with h | h
    · unfold one0 at h
      split at h
      · rename_i hc
        simp at h
        subst h
        exact hc
      · simp at h
    · split at h
      · exact meetR_ok l (y :: m) r h
      · exact meetR_ok (x :: l) m r h
termination_by l m => l.length + m.length
theorem withP_iff {t u : Tab} : WithP t u ↔ ∀ r, r < 16 → ∀ n, inT t r n → inT u r n := by
  constructor
  · intro h r hr n hn
    by_cases h' : inT u r n
    · exact h'
    · have := (minusR_in (t.getD r []) (u.getD r []) n).2 ⟨hn, h'⟩
      rw [h r hr] at this
      exact absurd this (inR_nil n)
  · intro h r hr
    cases hm : minusR (t.getD r []) (u.getD r []) with
    | nil => rfl
    | cons x l =>
      have hx : x ∈ minusR (t.getD r []) (u.getD r []) := by rw [hm]; exact List.mem_cons_self
      have hok := meetR_ok _ _ x hx
      have := (minusR_in (t.getD r []) (u.getD r []) x.1).1 ⟨x, hx, Int.le_refl _, hok⟩
      exact absurd (h r hr x.1 this.1) this.2
theorem withinP_iff {p q : Pst} : withinP p q = true ↔ ∀ r, r < 16 → ∀ n, inP p r n → inP q r n := by
  have h : WithP (openT [p]) (openT [q]) ↔ ∀ r, r < 16 → ∀ n, inP p r n → inP q r n := by
    rw [withP_iff]
    constructor
    · intro h r hr n
      have := h r hr n
      rw [open_in hr, open_in hr] at this
      simpa using this
    · intro h r hr n
      rw [open_in hr, open_in hr]
      simpa using h r hr n
  rw [← h]
  constructor
  · intro h1
    by_cases h2 : WithP (openT [p]) (openT [q])
    · exact h2
    · rw [withinP_false h2] at h1; simp at h1
  · exact withinP_true
theorem minusR_nil (b : List Rn) : minusR [] b = [] := by
  unfold minusR
  rw [normR_of_can Can.nil]
  unfold meetR
  rfl
theorem ev_pastWithin (p q : Pst) (hp : wt p ≤ 100000000) (hq : wt q ≤ 100000000) : Ev (En Try.prog rfl).P 24 [encP p, encP q] (.ret (.bool (withinP p q))) := by
  refine Ev.of_body it_pastWithin (by simp) (Run.start ?_)
  unfold t_pastWithin encP
  have c1 := ev_pastopen [p] (by simp) (by simp; omega)
  have c2 := ev_pastopen [q] (by simp) (by simp; omega)
  have ht : TabLe (openT [p]) (wt p) := by simpa using openT_le [p]
  have hu : TabLe (openT [q]) (wt q) := by simpa using openT_le [q]
  have hr := @withinP_true p q
  have hr' := @withinP_false p q
  (focus (have hF := True.intro; (repeat' (first | (with_reducible refine Nx.of ?_) | ((with_reducible apply toV); refine stV (k := ?_)) | ((with_reducible apply toG); refine stG (k := ?_)) | ((with_reducible apply toG0); refine stG0 (k := ?_)) | ((with_reducible apply toC); refine stC (k := ?_)) | ((with_reducible apply toO); refine stO (k := ?_)) | ((with_reducible apply toX); refine stX (k := ?_)) | (with_reducible refine Ny.of ?_ ?_) | (refine Hyp.of ?_; intro hc; (try simp only [hc]); (try simp only [Bh] at hc)) | fail)); (all_goals clear hF)))
  refine stCall [.sl 2 (encPs [p])] (he := c1) (k := ?_)
  (focus (have hF := True.intro; (repeat' (first | (with_reducible refine Nx.of ?_) | ((with_reducible apply toV); refine stV (k := ?_)) | ((with_reducible apply toG); refine stG (k := ?_)) | ((with_reducible apply toG0); refine stG0 (k := ?_)) | ((with_reducible apply toC); refine stC (k := ?_)) | ((with_reducible apply toO); refine stO (k := ?_)) | ((with_reducible apply toX); refine stX (k := ?_)) | (with_reducible refine Ny.of ?_ ?_) | (refine Hyp.of ?_; intro hc; (try simp only [hc]); (try simp only [Bh] at hc)) | fail)); (all_goals clear hF)))
  refine stCall [.sl 2 (encPs [q])] (he := c2) (k := ?_)
  clear c1 c2
  generalize openT [p] = t at ht hr hr' ⊢
  generalize openT [q] = u at hu hr hr' ⊢
  have e1 : (encTs t).length = 16 := by rw [encTs_len, ht.1]
  have e2 : (encTs u).length = 16 := by rw [encTs_len, hu.1]
  (focus (have hF := (And.intro @e1 @e2); (repeat' (first | (with_reducible refine Nx.of ?_) | ((with_reducible apply toV); refine stV (k := ?_)) | ((with_reducible apply toG); refine stG (k := ?_)) | ((with_reducible apply toG0); refine stG0 (k := ?_)) | ((with_reducible apply toC); refine stC (k := ?_)) | ((with_reducible apply toO); refine stO (k := ?_)) | ((with_reducible apply toX); refine stX (k := ?_)) | (with_reducible refine Ny.of ?_ ?_) | (refine Hyp.of ?_; intro hc; (try simp only [hc]); (try simp only [Bh] at hc)) | fail)); (all_goals clear hF)))
  refine Run.while (σ := Nat) (fun i => ⟨tms [(5, .sptr (encTs t)), (6, .sptr (encTs u)), (14, .int .i64 (i : Int))], mms []⟩) (fun i => i ≤ 16 ∧ ∀ r, r < i → minusR (t.getD r []) (u.getD r []) = []) (fun i => 16 - i) 0 (have hW := @encTs_stb; stWk) ⟨Nat.zero_le _, fun j hj => absurd hj (Nat.not_lt_zero _)⟩ ?_
  rintro i ⟨hi, hp⟩
  unfold t_pastWithin_l1
  by_cases hlt : i < 16
  · have hit : i < t.length := by rw [ht.1]; exact hlt
    have hiu : i < u.length := by rw [hu.1]; exact hlt
    have h1 := ht.2 i
    have h2 := hu.2 i
    have g1 := drop_head (encTs_get hit)
    have g2 := drop_head (encTs_get hiu)
    have c3 := ev_spanWithin (t.getD i []) (u.getD i []) (by omega) (by omega)
    have hs : minusR (t.getD i []) (u.getD i []) = [] → ∀ r, r < i + 1 → minusR (t.getD r []) (u.getD r []) = [] := fun h r hr => by
      by_cases e : r = i
      · rw [e]; exact h
      · exact hp r (by omega)
    have e3 := encRs_len (t.getD i [])
    by_cases hn : t.getD i [] = []
    · have hs2 := hs (by rw [hn, minusR_nil])
      have e4 : (encRs (t.getD i [])).length = 0 := by rw [e3, hn]; rfl
      (focus (have hF := (And.intro (And.intro @e1 @e2) (And.intro @g1 (And.intro @g2 @e4))); (repeat' (first | (with_reducible refine Nx.of ?_) | ((with_reducible apply toV); refine stV (k := ?_)) | ((with_reducible apply toG); refine stG (k := ?_)) | ((with_reducible apply toG0); refine stG0 (k := ?_)) | ((with_reducible apply toC); refine stC (k := ?_)) | ((with_reducible apply toO); refine stO (k := ?_)) | ((with_reducible apply toX); refine stX (k := ?_)) | (with_reducible refine Ny.of ?_ ?_) | (refine Hyp.of ?_; intro hc; (try simp only [hc]); (try simp only [Bh] at hc)) | fail)); (all_goals clear hF)))
      (refine Fin.nextW (i + 1) ?_ (have hW := @encTs_stb; stWk); (try dsimp only))
      exact ⟨⟨hlt, hs2⟩, by omega⟩
    · have e4 : 0 < (t.getD i []).length := List.length_pos_iff.2 hn
      (focus (have hF := (And.intro (And.intro @e1 @e2) (And.intro @g1 (And.intro @g2 @e3))); (repeat' (first | (with_reducible refine Nx.of ?_) | ((with_reducible apply toV); refine stV (k := ?_)) | ((with_reducible apply toG); refine stG (k := ?_)) | ((with_reducible apply toG0); refine stG0 (k := ?_)) | ((with_reducible apply toC); refine stC (k := ?_)) | ((with_reducible apply toO); refine stO (k := ?_)) | ((with_reducible apply toX); refine stX (k := ?_)) | (with_reducible refine Ny.of ?_ ?_) | (refine Hyp.of ?_; intro hc; (try simp only [hc]); (try simp only [Bh] at hc)) | fail)); (all_goals clear hF)))
      refine stCall [.sl 2 (encRs (t.getD i [])), .sl 2 (encRs (u.getD i []))] (he := c3) (k := ?_)
      (focus (have hF := (And.intro (And.intro @e1 @e2) (And.intro @g1 (And.intro @g2 @e3))); (repeat' (first | (with_reducible refine Nx.of ?_) | ((with_reducible apply toV); refine stV (k := ?_)) | ((with_reducible apply toG); refine stG (k := ?_)) | ((with_reducible apply toG0); refine stG0 (k := ?_)) | ((with_reducible apply toC); refine stC (k := ?_)) | ((with_reducible apply toO); refine stO (k := ?_)) | ((with_reducible apply toX); refine stX (k := ?_)) | (with_reducible refine Ny.of ?_ ?_) | (refine Hyp.of ?_; intro hc; (try simp only [hc]); (try simp only [Bh] at hc)) | fail)); (all_goals clear hF)))
      · rw [hr' fun h => hc (h i hlt)]
        exact Fin.tmp' rfl rfl
      · have hs2 := hs hc
        (refine Fin.nextW (i + 1) ?_ (have hW := @encTs_stb; stWk); (try dsimp only))
        exact ⟨⟨hlt, hs2⟩, by omega⟩
  · rw [hr fun r hr => hp r (by omega)]
    (focus (have hF := (And.intro @e1 @e2); (repeat' (first | (with_reducible refine Nx.of ?_) | ((with_reducible apply toV); refine stV (k := ?_)) | ((with_reducible apply toG); refine stG (k := ?_)) | ((with_reducible apply toG0); refine stG0 (k := ?_)) | ((with_reducible apply toC); refine stC (k := ?_)) | ((with_reducible apply toO); refine stO (k := ?_)) | ((with_reducible apply toX); refine stX (k := ?_)) | (with_reducible refine Ny.of ?_ ?_) | (refine Hyp.of ?_; intro hc; (try simp only [hc]); (try simp only [Bh] at hc)) | fail)); (all_goals clear hF)))
    exact Fin.tmp' rfl rfl
noncomputable def orderP (p q : Pst) : Int := if withinP p q = true then (if withinP q p = true then 0 else 1) else if withinP q p = true then 2 else 3
theorem ev_pastOrder (p q : Pst) (hp : wt p ≤ 100000000) (hq : wt q ≤ 100000000) : Ev (En Try.prog rfl).P 26 [encP p, encP q] (.ret (.int .i64 (orderP p q))) := by
  refine Ev.of_body it_pastOrder (by simp) (Run.start ?_)
  unfold t_pastOrder encP orderP
  have c1 := ev_pastWithin p q hp hq
  have c2 := ev_pastWithin q p hq hp
  (focus (have hF := True.intro; (repeat' (first | (with_reducible refine Nx.of ?_) | ((with_reducible apply toV); refine stV (k := ?_)) | ((with_reducible apply toG); refine stG (k := ?_)) | ((with_reducible apply toG0); refine stG0 (k := ?_)) | ((with_reducible apply toC); refine stC (k := ?_)) | ((with_reducible apply toO); refine stO (k := ?_)) | ((with_reducible apply toX); refine stX (k := ?_)) | (with_reducible refine Ny.of ?_ ?_) | (refine Hyp.of ?_; intro hc; (try simp only [hc]); (try simp only [Bh] at hc)) | fail)); (all_goals clear hF)))
  refine stCall [encP p, encP q] (he := c1) (k := ?_)
  (focus (have hF := True.intro; (repeat' (first | (with_reducible refine Nx.of ?_) | ((with_reducible apply toV); refine stV (k := ?_)) | ((with_reducible apply toG); refine stG (k := ?_)) | ((with_reducible apply toG0); refine stG0 (k := ?_)) | ((with_reducible apply toC); refine stC (k := ?_)) | ((with_reducible apply toO); refine stO (k := ?_)) | ((with_reducible apply toX); refine stX (k := ?_)) | (with_reducible refine Ny.of ?_ ?_) | (refine Hyp.of ?_; intro hc; (try simp only [hc]); (try simp only [Bh] at hc)) | fail)); (all_goals clear hF)))
  refine stCall [encP q, encP p] (he := c2) (k := ?_)
  cases h1 : withinP p q <;> cases h2 : withinP q p
  all_goals
    (focus (have hF := True.intro; (repeat' (first | (with_reducible refine Nx.of ?_) | ((with_reducible apply toV); refine stV (k := ?_)) | ((with_reducible apply toG); refine stG (k := ?_)) | ((with_reducible apply toG0); refine stG0 (k := ?_)) | ((with_reducible apply toC); refine stC (k := ?_)) | ((with_reducible apply toO); refine stO (k := ?_)) | ((with_reducible apply toX); refine stX (k := ?_)) | (with_reducible refine Ny.of ?_ ?_) | (refine Hyp.of ?_; intro hc; (try simp only [hc]); (try simp only [Bh] at hc)) | fail)); (all_goals clear hF)))
    exact Fin.tmp' rfl rfl
theorem ev_pastEmpty (p : Pst) (hp : wt p ≤ 50000000) : Ev (En Try.prog rfl).P 25 [encP p] (.ret (.bool (decide (sizeP p = 0)))) := by
  refine Ev.of_body it_pastEmpty (by simp) (Run.start ?_)
  unfold t_pastEmpty encP
  (focus (have hF := True.intro; (repeat' (first | (with_reducible refine Nx.of ?_) | ((with_reducible apply toV); refine stV (k := ?_)) | ((with_reducible apply toG); refine stG (k := ?_)) | ((with_reducible apply toG0); refine stG0 (k := ?_)) | ((with_reducible apply toC); refine stC (k := ?_)) | ((with_reducible apply toO); refine stO (k := ?_)) | ((with_reducible apply toX); refine stX (k := ?_)) | (with_reducible refine Ny.of ?_ ?_) | (refine Hyp.of ?_; intro hc; (try simp only [hc]); (try simp only [Bh] at hc)) | fail)); (all_goals clear hF)))
  refine stCall [encP p] (he := ev_pastSize p hp) (k := ?_)
  (focus (have hF := True.intro; (repeat' (first | (with_reducible refine Nx.of ?_) | ((with_reducible apply toV); refine stV (k := ?_)) | ((with_reducible apply toG); refine stG (k := ?_)) | ((with_reducible apply toG0); refine stG0 (k := ?_)) | ((with_reducible apply toC); refine stC (k := ?_)) | ((with_reducible apply toO); refine stO (k := ?_)) | ((with_reducible apply toX); refine stX (k := ?_)) | (with_reducible refine Ny.of ?_ ?_) | (refine Hyp.of ?_; intro hc; (try simp only [hc]); (try simp only [Bh] at hc)) | fail)); (all_goals clear hF)))
  exact Fin.tmp' rfl rfl
end Go.Proofs.Ytdmfjkhbodbgoaa.Avm

namespace Go.Proofs.Ytdmfjkhbodbgoaa.Avm
open Go.Proofs
def NewQ (t : Tmp) (cs : List AVal) : Ex → AS → Prop
  | .ret, s => ∃ k, s.T t = .ptr k 0 ∧ s.M k = some (.cells cs) ∧ stbs cs = true
  | _, _ => False
theorem results_one {P : Program} {fn : Func} {t : Tmp} (hrs : fn.results.toList = [.tmp t]) (tm : Array Value) (w : World) : (results fn tm).run P w = .ok (tm.getD t undef) w := by
  have hm : (fn.results.mapM (fun r => match r with | .tmp t => pure (tm.getD t undef) | .cell c t => do loadVar t (← asAddr (tm.getD c undef)) : ResultVar → Sem Value)).run P w = .ok #[tm.getD t undef] w := by
    rw [Array.mapM_eq_mapM_toList, hrs]
    simp only [Sem.run_map, List.mapM_cons, List.mapM_nil, Sem.run_bind, Sem.run_pure, Result.andThen]
  unfold results
  simp only [Sem.run_bind]
  refine Eq.trans (congrArg (fun r => Result.andThen r _) hm) ?_
  simp [Result.andThen]
theorem EvNew.of_body {E : Env} {f : FuncId} {n : Nat} {t : Tmp} {sc : SC} (hf : FnIs E.P f n [.tmp t] sc) {args cs : List AVal} (hl : args.length ≤ n)
    (h : AW E n sc (NewQ t cs) ⟨initT args, NoM⟩) : EvNew E.P f args cs := by
  obtain ⟨fn, c, h1, h2, h3, rfl, hrs, h6⟩ := hf
  refine ⟨⟨fn, h1, h2, by simp [h3]⟩, fun B w vs G hG hsz hv hB => ?_⟩
  refine calls_of_wp h1 h3 ?_
  have hR : Rel fn.ntmps B G ⟨initT args, NoM⟩ { tmps := vs ++ Array.replicate (fn.ntmps - vs.size) undef, defers := [] } w := by
    refine ⟨by simp; omega, rfl, fun t => ?_, fun k blk hk => by simp [NoM] at hk, fun b hb => ⟨hB b hb, hG b⟩, fun b hb => absurd (hG b) hb⟩
    simp only [initT]
    cases ht : args[t]? with
    | none => exact .undef _
    | some x =>
      have hlt : t < vs.size := by
        rw [hsz]
        rcases Nat.lt_or_ge t args.length with h' | h'
        · exact h'
        · rw [List.getElem?_eq_none h'] at ht; cases ht
      have : (vs ++ Array.replicate (fn.ntmps - vs.size) undef).getD t undef = vs[t] := by
        rw [Array.getD_eq_getD_getElem?, Array.getElem?_append_left hlt]
        simp [hlt]
      simp only [Option.getD_some, this]
      exact hv t x _ ht (by simp [hlt])
  refine h c h6 B G _ w hR _ fun e s a' w' G' hA hR' hq => ?_
  cases e with
  | normal => exact hq.elim
  | exit id => exact hq.elim
  | pan x => exact hq.elim
  | ret =>
    obtain ⟨k, q1, q2, q3⟩ := hq
    have hx := hR'.temps t
    rw [q1] at hx
    have e1 : a'.tmps.getD t undef = .pointer (some ⟨G'.β k, 0, none⟩) := by
      generalize a'.tmps.getD t undef = tv at hx
      cases hx
      rfl
    obtain ⟨cc, el, b1, b2, b3, b4, b5⟩ := hR'.mem k _ q2
    let G2 : Gh := { G' with ow := fun b => if b = G'.β k then G'.ow b else none }
    have g2 : ∀ b, G'.ow b = none → G2.ow b = none := fun b hb => by simp only [G2]; split <;> first | exact hb | rfl
    have hge : w.heap.size ≤ G'.β k := by
      rcases Nat.lt_or_ge (G'.β k) w.heap.size with h' | h'
      · have := (hA.keep _ h' (hG _)).2
        rw [b1] at this
        cases this
      · exact h'
    refine ⟨hR'.defers, _, results_one hrs a'.tmps w', G2, G'.β k, cc, el, hge, hR'.ol _ (by rw [b1]; simp), by simp only [G2, if_true]; rw [b1]; simp,
      ⟨hA.os, hA.tape, hA.output, hA.size, fun b hb ho => ⟨(hA.keep b hb ho).1, g2 b (hA.keep b hb ho).2⟩⟩, by rw [e1], b3, b4, fun i x hx => ?_⟩
    obtain ⟨u, hu, hcr⟩ := b5 i x hx
    have hst : x.stb = true := stbs_get q3 hx
    refine ⟨u, hu, ?_⟩
    have hvr : VR (Dm s.M) G' B w' x u := by
      cases x <;> first | exact hcr | (simp [AVal.stb] at hst; done)
    exact hvr.stable (fun b _ hn ho => ⟨rfl, hn, g2 b ho⟩) hst
end Go.Proofs.Ytdmfjkhbodbgoaa.Avm

namespace Go.Proofs.Ytdmfjkhbodbgoaa.Avm
open Go.Proofs
def r_pasteach_1 : List SOp :=
  [⟨(some 3), (.box 25 (.tmp 0)), none⟩, ⟨(some 4), (.box 25 (.tmp 1)), none⟩, ⟨(some 6), (.alloc 25), none⟩]
instance : Live r_pasteach_1 := ⟨[0, 1, 2]⟩
def r_pasteach_2 : List SOp :=
  [⟨(some 10), (.load 25 (.tmp 3)), none⟩, ⟨(some 11), (.buildSlice 51 1 #[(0, .tmp 10)]), none⟩, ⟨(some 12), (.call ⟨.value (.func 47), #[.tmp 11], #[51]⟩), none⟩, ⟨(some 13), (.load 25 (.tmp 4)), none⟩, ⟨(some 14), (.buildSlice 51 1 #[(0, .tmp 13)]), none⟩, ⟨(some 15), (.call ⟨.value (.func 47), #[.tmp 14], #[51]⟩), none⟩, ⟨(some 7), (.assign (.tmp 12)), none⟩, ⟨(some 8), (.assign (.tmp 15)), none⟩]
instance : Live r_pasteach_2 := ⟨[2, 3, 4, 6]⟩
def r_pasteach_3 : List SOp :=
  [⟨(some 16), (.move (.const (.int .i64 0))), none⟩]
instance : Live r_pasteach_3 := ⟨[2, 6, 7, 8]⟩
def r_pasteach_4 : List SOp :=
  [⟨(some 17), (.binOp .lss 3 (.tmp 16) (.const (.int .i64 16)) 3), none⟩]
instance : Live r_pasteach_4 := ⟨[2, 6, 7, 8, 16]⟩
def r_pasteach_5 : List SOp :=
  [⟨(some 18), (.move (.tmp 16)), none⟩, ⟨(some 9), (.assign (.tmp 18)), none⟩]
instance : Live r_pasteach_5 := ⟨[2, 6, 7, 8, 16]⟩
def r_pasteach_6 : List SOp :=
  [⟨(some 19), (.move (.tmp 7)), none⟩, ⟨(some 20), (.move (.tmp 9)), none⟩, ⟨(some 21), (.move (.tmp 2)), none⟩, ⟨(some 22), (.move (.tmp 7)), none⟩, ⟨(some 23), (.move (.tmp 9)), none⟩, ⟨(some 24), (.nilCheck (.tmp 22)), none⟩, ⟨(some 25), (.indexAddr 70 (.tmp 24) (.tmp 23)), none⟩, ⟨(some 26), (.load 58 (.tmp 25)), none⟩, ⟨(some 27), (.move (.tmp 8)), none⟩, ⟨(some 28), (.move (.tmp 9)), none⟩, ⟨(some 29), (.nilCheck (.tmp 27)), none⟩, ⟨(some 30), (.indexAddr 70 (.tmp 29) (.tmp 28)), none⟩, ⟨(some 31), (.load 58 (.tmp 30)), none⟩, ⟨(some 32), (.call ⟨.value (.tmp 21), #[.tmp 26, .tmp 31], #[58, 58]⟩), none⟩, ⟨(some 33), (.nilCheck (.tmp 19)), none⟩, ⟨(some 34), (.indexAddr 70 (.tmp 33) (.tmp 20)), none⟩, ⟨none, (.store 58 (.tmp 34) (.tmp 32)), none⟩]
instance : Live r_pasteach_6 := ⟨[2, 6, 7, 8, 9, 16]⟩
def r_pasteach_7 : List SOp :=
  [⟨(some 35), (.binOp .add 3 (.tmp 16) (.const (.int .i64 1)) 3), none⟩, ⟨(some 16), (.move (.tmp 35)), none⟩]
instance : Live r_pasteach_7 := ⟨[2, 6, 7, 8, 16]⟩
def r_pasteach_8 : List SOp :=
  [⟨(some 36), (.move (.tmp 7)), none⟩, ⟨(some 37), (.call ⟨.value (.func 52), #[.tmp 36], #[59]⟩), none⟩, ⟨none, (.store 25 (.tmp 6) (.tmp 37)), none⟩]
instance : Live r_pasteach_8 := ⟨[6, 7]⟩
def t_pasteach_l1 : SC :=
  (.seq (.ops false r_pasteach_4) (.seq (.cond (.tmp 17) .skip (.exit 0)) (.seq (.block 1 (.seq (.ops false r_pasteach_5) (.ops true r_pasteach_6))) (.ops false r_pasteach_7))))
def t_pasteach : SC :=
  (.seq (.ops false r_pasteach_1) (.seq (.ops true r_pasteach_2) (.seq (.seq (.ops false r_pasteach_3) (.block 0 (.loop t_pasteach_l1))) (.seq (.ops false r_pasteach_8) .ret))))
theorem it_pasteach : FnIs Try.prog 56 38 [.cell 6 25] t_pasteach := ⟨Try.f56, _, Try.func56, rfl, rfl, rfl, rfl, by kernel_rfl⟩
end Go.Proofs.Ytdmfjkhbodbgoaa.Avm

namespace Go.Proofs.Ytdmfjkhbodbgoaa.Avm
open Go.Proofs
def r_pastMeet_1 : List SOp :=
  [⟨(some 2), (.box 25 (.tmp 0)), none⟩, ⟨(some 3), (.box 25 (.tmp 1)), none⟩, ⟨(some 4), (.alloc 25), none⟩]
instance : Live r_pastMeet_1 := ⟨[0, 1]⟩
def r_pastMeet_2 : List SOp :=
  [⟨(some 5), (.load 25 (.tmp 2)), none⟩, ⟨(some 6), (.load 25 (.tmp 3)), none⟩, ⟨(some 7), (.call ⟨.value (.func 56), #[.tmp 5, .tmp 6, .func 57], #[25, 25, 68]⟩), none⟩, ⟨none, (.store 25 (.tmp 4) (.tmp 7)), none⟩]
instance : Live r_pastMeet_2 := ⟨[2, 3, 4]⟩
def t_pastMeet : SC :=
  (.seq (.ops false r_pastMeet_1) (.seq (.ops false r_pastMeet_2) .ret))
theorem it_pastMeet : FnIs Try.prog 21 8 [.cell 4 25] t_pastMeet := ⟨Try.f21, _, Try.func21, rfl, rfl, rfl, rfl, by kernel_rfl⟩
end Go.Proofs.Ytdmfjkhbodbgoaa.Avm

namespace Go.Proofs.Ytdmfjkhbodbgoaa.Avm
open Go.Proofs
def r_pastMinus_1 : List SOp :=
  [⟨(some 2), (.box 25 (.tmp 0)), none⟩, ⟨(some 3), (.box 25 (.tmp 1)), none⟩, ⟨(some 4), (.alloc 25), none⟩]
instance : Live r_pastMinus_1 := ⟨[0, 1]⟩
def r_pastMinus_2 : List SOp :=
  [⟨(some 5), (.load 25 (.tmp 2)), none⟩, ⟨(some 6), (.load 25 (.tmp 3)), none⟩, ⟨(some 7), (.call ⟨.value (.func 56), #[.tmp 5, .tmp 6, .func 58], #[25, 25, 68]⟩), none⟩, ⟨none, (.store 25 (.tmp 4) (.tmp 7)), none⟩]
instance : Live r_pastMinus_2 := ⟨[2, 3, 4]⟩
def t_pastMinus : SC :=
  (.seq (.ops false r_pastMinus_1) (.seq (.ops false r_pastMinus_2) .ret))
theorem it_pastMinus : FnIs Try.prog 22 8 [.cell 4 25] t_pastMinus := ⟨Try.f22, _, Try.func22, rfl, rfl, rfl, rfl, by kernel_rfl⟩
end Go.Proofs.Ytdmfjkhbodbgoaa.Avm

namespace Go.Proofs.Ytdmfjkhbodbgoaa.Avm
open Go.Proofs
theorem new_pastopen (ps : List Pst) (hl : ps.length ≤ 1000000000) (hw : (ps.map wt).sum ≤ 900000000) : EvNew (En Try.prog rfl).P 47 [.sl 2 (encPs ps)] (encTs (openT ps)) := by
  refine EvNew.of_body it_pastopen (by simp) (Run.start ?_)
  unfold t_pastopen
  have e0 : (encPs ps).length = ps.length := encPs_len _
  (focus (have hF := @e0; (repeat' (first | (with_reducible refine Nx.of ?_) | ((with_reducible apply toV); refine stV (k := ?_)) | ((with_reducible apply toG); refine stG (k := ?_); (with_reducible refine Nx.of ?_)) | ((with_reducible apply toG0); refine stG0 (k := ?_); (with_reducible refine Nx.of ?_)) | ((with_reducible apply toC); refine stC (k := ?_); (with_reducible refine Nx.of ?_)) | ((with_reducible apply toO); refine stO (k := ?_)) | ((with_reducible apply toX); refine stX (k := ?_)) | fail)); (all_goals clear hF)))
  refine Run.wk (Wk.trans (Wk.own_cells (k := 10) (cs' := encT tab0) rfl rfl ?_) (Wk.toL [(3, .ptr 10 0), (11, .sl 2 (encPs ps)), (12, .int .i64 ps.length), (13, .int .i64 0)] [(10, .cells (encT tab0))] ⟨rfl, rfl, rfl, rfl, trivial⟩ ⟨rfl, trivial⟩ ⟨rfl, encPs_stb ps, rfl, rfl, trivial⟩ ⟨encT_no _ _, trivial⟩)) ?_
  · intro i x y hx hy
    have hx' : (List.replicate 16 AVal.nil)[i]? = some x := hx
    rw [List.getElem?_replicate] at hx'
    have hy' : (List.replicate 16 (AVal.own 2 []))[i]? = some y := hy
    rw [List.getElem?_replicate] at hy'
    split at hx'
    · rename_i h16
      rw [if_pos h16] at hy'
      cases hx'; cases hy'
      exact .inr ⟨rfl, 2, rfl⟩
    · cases hx'
  refine Run.range ps.length (fun i => ⟨tms [(3, .ptr 10 0), (11, .sl 2 (encPs ps)), (12, .int .i64 ps.length), (13, .int .i64 i)], mms [(10, .cells (encT ((ps.take i).foldl openOne tab0)))]⟩) (Wk.refl _ _) (fun i hi => ?_) ?_
  · have hq0 := TabLe.all tab0_le (ps.take i)
    obtain ⟨p, hp⟩ : ∃ p, ps[i]? = some p := ⟨ps[i], by simp [hi]⟩
    rw [foldl_take openOne tab0 ps hp]
    have hsum : ((ps.take i).map wt).sum + wt p ≤ (ps.map wt).sum := by
      have : ((ps.take (i + 1)).map wt).sum ≤ (ps.map wt).sum := by rw [List.map_take]; exact take_sum_le _
      rw [List.take_add_one, hp] at this
      simpa using this
    generalize (ps.take i).foldl openOne tab0 = u at hq0 ⊢
    generalize ((ps.take i).map wt).sum = m at hq0 hsum
    have hwt : wt p = p.vec.length + p.cloud.length := rfl
    have hv : p.vec.length ≤ 1000000000 := by omega
    have hc : p.cloud.length ≤ 1000000000 := by omega
    have e1 : ((i : Int) < (ps.length : Int)) = True := by simp only [eq_iff_iff, iff_true]; omega
    have e2 : (0 ≤ (i : Int)) = True := by simp
    have e3 : (encPs ps)[i]? = some (.agg [.sl 1 (encIs p.vec), .sl 3 (encSs p.cloud)]) := encPs_get hp
    have e4 : (encIs p.vec).length = p.vec.length := encIs_len _
    have e5 : (encSs p.cloud).length = p.cloud.length := encSs_len _
    have e13 : IntKind.i64.wrap ((i : Int) + 1) = ((i + 1 : Nat) : Int) := by rw [wrap_id (by omega)]; omega
    unfold t_pastopen_l1
    (focus (have hF := (And.intro (And.intro @e0 (And.intro @e1 @e2)) (And.intro @e3 (And.intro @e4 @e5))); (repeat' (first | (with_reducible refine Nx.of ?_) | ((with_reducible apply toV); refine stV (k := ?_)) | ((with_reducible apply toG); refine stG (k := ?_); (with_reducible refine Nx.of ?_)) | ((with_reducible apply toG0); refine stG0 (k := ?_); (with_reducible refine Nx.of ?_)) | ((with_reducible apply toC); refine stC (k := ?_); (with_reducible refine Nx.of ?_)) | ((with_reducible apply toO); refine stO (k := ?_)) | ((with_reducible apply toX); refine stX (k := ?_)) | fail)); (all_goals clear hF)))
    refine Run.wk (Wk.toL [(3, .ptr 10 0), (11, .sl 2 (encPs ps)), (12, .int .i64 ps.length), (13, .int .i64 i), (5, .ptr 5 0), (20, .int .i64 (min p.vec.length 16)), (21, .int .i64 0)] [(10, .cells (encT u)), (5, .cells [.sl 1 (encIs p.vec), .sl 3 (encSs p.cloud)])] ⟨rfl, rfl, rfl, rfl, rfl, rfl, rfl, trivial⟩ ⟨rfl, rfl, trivial⟩ ⟨rfl, encPs_stb ps, rfl, rfl, rfl, rfl, rfl, trivial⟩ ⟨encT_no _ _, by simp [ABlk.no, AVal.noC, AVal.no, AVal.stb, encIs_stb, encSs_stb], trivial⟩) ?_
    refine open_l2 (.sl 2 (encPs ps)) (encPs_stb ps) _ _ p hv u (n0 := 0 + m) hq0 (by omega) ?_
    (focus (have hF := (And.intro (And.intro @e0 (And.intro @e1 @e2)) (And.intro @e3 (And.intro @e4 @e5))); (repeat' (first | (with_reducible refine Nx.of ?_) | ((with_reducible apply toV); refine stV (k := ?_)) | ((with_reducible apply toG); refine stG (k := ?_); (with_reducible refine Nx.of ?_)) | ((with_reducible apply toG0); refine stG0 (k := ?_); (with_reducible refine Nx.of ?_)) | ((with_reducible apply toC); refine stC (k := ?_); (with_reducible refine Nx.of ?_)) | ((with_reducible apply toO); refine stO (k := ?_)) | ((with_reducible apply toX); refine stX (k := ?_)) | fail)); (all_goals clear hF)))
    refine Run.wk (Wk.toL [(3, .ptr 10 0), (11, .sl 2 (encPs ps)), (12, .int .i64 ps.length), (13, .int .i64 i), (43, .sl 3 (encSs p.cloud)), (44, .int .i64 p.cloud.length), (45, .int .i64 0)] [(10, .cells (encT (addVec p.vec u)))] ⟨rfl, rfl, rfl, rfl, rfl, rfl, rfl, trivial⟩ ⟨rfl, trivial⟩ ⟨rfl, encPs_stb ps, rfl, rfl, encSs_stb _, rfl, rfl, trivial⟩ ⟨encT_no _ _, trivial⟩) ?_
    refine open_l3 (.sl 2 (encPs ps)) (encPs_stb ps) _ _ p.cloud hc (addVec p.vec u) (n0 := 0 + m + min p.vec.length 16) (TabLe.range hq0 _) (by omega) ?_
    (focus (have hF := (And.intro (And.intro @e0 (And.intro @e1 @e2)) (And.intro (And.intro @e3 @e4) (And.intro @e5 @e13))); (repeat' (first | (with_reducible refine Nx.of ?_) | ((with_reducible apply toV); refine stV (k := ?_)) | ((with_reducible apply toG); refine stG (k := ?_); (with_reducible refine Nx.of ?_)) | ((with_reducible apply toG0); refine stG0 (k := ?_); (with_reducible refine Nx.of ?_)) | ((with_reducible apply toC); refine stC (k := ?_); (with_reducible refine Nx.of ?_)) | ((with_reducible apply toO); refine stO (k := ?_)) | ((with_reducible apply toX); refine stX (k := ?_)) | fail)); (all_goals clear hF)))
    exact Fin.next (Wk.toL _ _ ⟨rfl, rfl, rfl, rfl, trivial⟩ ⟨rfl, trivial⟩ ⟨rfl, encPs_stb ps, rfl, rfl, trivial⟩ ⟨encT_no _ _, trivial⟩)
  · have e1 : ((ps.length : Int) < (ps.length : Int)) = False := by simp
    have e3 : ps.take ps.length = ps := List.take_length
    rw [e3]
    refine Run.wk (Wk.freeze (k := 10) (cs := encT (openT ps)) rfl) ?_
    unfold t_pastopen_l1
    (focus (have hF := (And.intro @e0 @e1); (repeat' (first | (with_reducible refine Nx.of ?_) | ((with_reducible apply toV); refine stV (k := ?_)) | ((with_reducible apply toG); refine stG (k := ?_); (with_reducible refine Nx.of ?_)) | ((with_reducible apply toG0); refine stG0 (k := ?_); (with_reducible refine Nx.of ?_)) | ((with_reducible apply toC); refine stC (k := ?_); (with_reducible refine Nx.of ?_)) | ((with_reducible apply toO); refine stO (k := ?_)) | ((with_reducible apply toX); refine stX (k := ?_)) | fail)); (all_goals clear hF)))
    have hf : (encT (openT ps)).map frz = encTs (openT ps) := by
      unfold encT encTs
      rw [List.map_map]
      rfl
    refine Fin.done ⟨10, rfl, ?_, encTs_stb _⟩
    rw [← hf]
    rfl
theorem encTs_fz (K : Nat → Bool) (M : Mem) (t : Tab) : (encTs t).map (fzc K M) = encTs t := by
  unfold encTs
  rw [List.map_map]
  rfl
theorem encTs_set (t : Tab) (i : Nat) (l : List Rn) : (encTs t).set i (.sl 2 (encRs l)) = encTs (t.set i l) := by simp [encTs, List.map_set]
theorem ev_pasteach_of (p q : Pst) (g : FuncId) (h : Nat → List Rn) {N : Nat} (hp : wt p ≤ 100000000) (hq : wt q ≤ 100000000) (hN : N ≤ 50000000) (hlen : ∀ r, r < 16 → (h r).length ≤ N)
    (hf : ∀ r, r < 16 → Ev (En Try.prog rfl).P g [.sl 2 (encRs ((openT [p]).getD r [])), .sl 2 (encRs ((openT [q]).getD r []))] (.ret (.sl 2 (encRs (h r))))) :
    Ev (En Try.prog rfl).P 56 [encP p, encP q, .fn g []] (.ret (encP (pastT ((List.range 16).map h)))) := by
  refine Ev.of_body it_pasteach (by simp) (Run.start ?_)
  unfold t_pasteach encP
  have c1 := new_pastopen [p] (by simp) (by simp; omega)
  have c2 := ev_pastopen [q] (by simp) (by simp; omega)
  have ht : TabLe (openT [p]) (wt p) := by simpa using openT_le [p]
  have hu : TabLe (openT [q]) (wt q) := by simpa using openT_le [q]
  (focus (have hF := True.intro; (repeat' (first | (with_reducible refine Nx.of ?_) | ((with_reducible apply toV); refine stV (k := ?_)) | ((with_reducible apply toG); refine stG (k := ?_)) | ((with_reducible apply toG0); refine stG0 (k := ?_)) | ((with_reducible apply toC); refine stC (k := ?_)) | ((with_reducible apply toO); refine stO (k := ?_)) | ((with_reducible apply toX); refine stX (k := ?_)) | (with_reducible refine Ny.of ?_ ?_) | (refine Hyp.of ?_; intro hc; (try simp only [hc]); (try simp only [Bh] at hc)) | fail)); (all_goals clear hF)))
  refine stNew [.sl 2 (encPs [p])] (he := c1) (k := ?_)
  (focus (have hF := True.intro; (repeat' (first | (with_reducible refine Nx.of ?_) | ((with_reducible apply toV); refine stV (k := ?_)) | ((with_reducible apply toG); refine stG (k := ?_)) | ((with_reducible apply toG0); refine stG0 (k := ?_)) | ((with_reducible apply toC); refine stC (k := ?_)) | ((with_reducible apply toO); refine stO (k := ?_)) | ((with_reducible apply toX); refine stX (k := ?_)) | (with_reducible refine Ny.of ?_ ?_) | (refine Hyp.of ?_; intro hc; (try simp only [hc]); (try simp only [Bh] at hc)) | fail)); (all_goals clear hF)))
  refine stCall [.sl 2 (encPs [q])] (he := c2) (k := ?_)
  clear c1 c2
  generalize openT [p] = t at ht hf ⊢
  generalize openT [q] = u at hu hf ⊢
  have e2 : (encTs u).length = 16 := by rw [encTs_len, hu.1]
  have e1 : (encTs t).length = 16 := by rw [encTs_len, ht.1]
  (focus (have hF := (And.intro @e1 @e2); (repeat' (first | (with_reducible refine Nx.of ?_) | ((with_reducible apply toV); refine stV (k := ?_)) | ((with_reducible apply toG); refine stG (k := ?_)) | ((with_reducible apply toG0); refine stG0 (k := ?_)) | ((with_reducible apply toC); refine stC (k := ?_)) | ((with_reducible apply toO); refine stO (k := ?_)) | ((with_reducible apply toX); refine stX (k := ?_)) | (with_reducible refine Ny.of ?_ ?_) | (refine Hyp.of ?_; intro hc; (try simp only [hc]); (try simp only [Bh] at hc)) | fail)); (all_goals clear hF)))
  refine Run.while (σ := Nat × Tab) (fun z => ⟨tms [(2, .fn g []), (6, .ptr 6 0), (7, .ptr 12 0), (8, .sptr (encTs u)), (16, .int .i64 (z.1 : Int))], mms [(6, .cells [.nil, .nil]), (12, .cells (encTs z.2))]⟩)
    (fun z => z.1 ≤ 16 ∧ z.2.length = 16 ∧ ∀ r, r < 16 → z.2.getD r [] = if r < z.1 then h r else t.getD r []) (fun z => 16 - z.1) (0, t) (have hW := @encTs_stb; stWk) ⟨Nat.zero_le _, ht.1, fun r _ => by rw [if_neg (Nat.not_lt_zero r)]⟩ ?_
  rintro ⟨i, T⟩ ⟨hi, hT, hrow⟩
  dsimp only at hi hT hrow ⊢
  have e3 : (encTs T).length = 16 := by rw [encTs_len, hT]
  unfold t_pasteach_l1
  by_cases hlt : i < 16
  · have hiT : i < T.length := by omega
    have hiu : i < u.length := by rw [hu.1]; exact hlt
    have hrT : T.getD i [] = t.getD i [] := by rw [hrow i hlt, if_neg (by omega)]
    have g1 := encTs_get hiT
    have g2 := drop_head (encTs_get hiu)
    rw [hrT] at g1
    have c3 := hf i hlt
    have hs : List.take i (encTs T) ++ [AVal.sl 2 (encRs (h i))] ++ List.drop (i + 1) (encTs T) = encTs (T.set i (h i)) := by
      rw [← encTs_set, List.set_eq_take_append_cons_drop, if_pos (by omega), List.append_assoc]
      rfl
    have hrow2 : ∀ r, r < 16 → (T.set i (h i)).getD r [] = if r < i + 1 then h r else t.getD r [] := fun r hr => by
      rw [List.getD_eq_getElem?_getD, List.getElem?_set]
      by_cases e : i = r
      · subst e
        rw [if_pos rfl, if_pos hiT, if_pos (by omega)]
        rfl
      · rw [if_neg e, ← List.getD_eq_getElem?_getD, hrow r hr]
        by_cases hr2 : r < i
        · rw [if_pos hr2, if_pos (by omega)]
        · rw [if_neg hr2, if_neg (by omega)]
    (focus (have hF := (And.intro (And.intro @e2 @e3) (And.intro @g1 @g2)); (repeat' (first | (with_reducible refine Nx.of ?_) | ((with_reducible apply toV); refine stV (k := ?_)) | ((with_reducible apply toG); refine stG (k := ?_)) | ((with_reducible apply toG0); refine stG0 (k := ?_)) | ((with_reducible apply toC); refine stC (k := ?_)) | ((with_reducible apply toO); refine stO (k := ?_)) | ((with_reducible apply toX); refine stX (k := ?_)) | (with_reducible refine Ny.of ?_ ?_) | (refine Hyp.of ?_; intro hc; (try simp only [hc]); (try simp only [Bh] at hc)) | fail)); (all_goals clear hF)))
    refine stCall [.sl 2 (encRs (t.getD i [])), .sl 2 (encRs (u.getD i []))] (he := c3) (k := ?_)
    (focus (have hF := (And.intro (And.intro @e2 @e3) (And.intro @g1 @g2)); (repeat' (first | (with_reducible refine Nx.of ?_) | ((with_reducible apply toV); refine stV (k := ?_)) | ((with_reducible apply toG); refine stG (k := ?_)) | ((with_reducible apply toG0); refine stG0 (k := ?_)) | ((with_reducible apply toC); refine stC (k := ?_)) | ((with_reducible apply toO); refine stO (k := ?_)) | ((with_reducible apply toX); refine stX (k := ?_)) | (with_reducible refine Ny.of ?_ ?_) | (refine Hyp.of ?_; intro hc; (try simp only [hc]); (try simp only [Bh] at hc)) | fail)); (all_goals clear hF)))
    rw [hs]
    (refine Fin.nextW ((i + 1, T.set i (h i))) ?_ (have hW := @encTs_stb; stWk); (try dsimp only))
    exact ⟨⟨by show i + 1 ≤ 16; omega, by show (T.set i (h i)).length = 16; rw [List.length_set]; exact hT, hrow2⟩, by show 16 - (i + 1) < 16 - i; omega⟩
  · have hTh : T = (List.range 16).map h := by
      refine List.ext_getElem (by simp [hT]) fun j h1 h2 => ?_
      have := hrow j (by omega)
      rw [if_pos (by omega), List.getD_eq_getElem?_getD, List.getElem?_eq_getElem h1] at this
      simpa using this
    rw [← hTh]
    have hTl : TabLe T N := by
      refine ⟨hT, fun r => ?_⟩
      by_cases hr : r < 16
      · rw [hrow r hr, if_pos (by omega)]; exact hlen r hr
      · rw [List.getD_eq_getElem?_getD, List.getElem?_eq_none (by omega)]; exact Nat.zero_le _
    have c4 := ev_pasttablepast T hTl hN
    (focus (have hF := (And.intro @e2 @e3); (repeat' (first | (with_reducible refine Nx.of ?_) | ((with_reducible apply toV); refine stV (k := ?_)) | ((with_reducible apply toG); refine stG (k := ?_)) | ((with_reducible apply toG0); refine stG0 (k := ?_)) | ((with_reducible apply toC); refine stC (k := ?_)) | ((with_reducible apply toO); refine stO (k := ?_)) | ((with_reducible apply toX); refine stX (k := ?_)) | (with_reducible refine Ny.of ?_ ?_) | (refine Hyp.of ?_; intro hc; (try simp only [hc]); (try simp only [Bh] at hc)) | fail)); (all_goals clear hF)))
    refine awp_give (fun j => j == 12) (l := [.sptr (encTs T)]) rfl ?hl (by simp [stbs, AVal.stb, encTs_stb]) c4 rfl ?k
    case hl =>
      show [AVal.sptr (((encTs T).map (fzc (fun j => j == 12) _)).drop 0)] = _
      rw [encTs_fz]
      rfl
    unfold encP
    (focus (have hF := True.intro; (repeat' (first | (with_reducible refine Nx.of ?_) | ((with_reducible apply toV); refine stV (k := ?_)) | ((with_reducible apply toG); refine stG (k := ?_)) | ((with_reducible apply toG0); refine stG0 (k := ?_)) | ((with_reducible apply toC); refine stC (k := ?_)) | ((with_reducible apply toO); refine stO (k := ?_)) | ((with_reducible apply toX); refine stX (k := ?_)) | (with_reducible refine Ny.of ?_ ?_) | (refine Hyp.of ?_; intro hc; (try simp only [hc]); (try simp only [Bh] at hc)) | fail)); (all_goals clear hF)))
    exact Fin.all rfl (by simp [stbs, AVal.stb, encIs_stb, encSs_stb, fzc, allK]) rfl
def meetT (p q : Pst) (r : Nat) : List Rn := meetR (normR ((openT [p]).getD r [])) (normR ((openT [q]).getD r []))
def minusT (p q : Pst) (r : Nat) : List Rn := minusR ((openT [p]).getD r []) ((openT [q]).getD r [])
def meetP (p q : Pst) : Pst := pastT ((List.range 16).map (meetT p q))
def minusP (p q : Pst) : Pst := pastT ((List.range 16).map (minusT p q))
theorem open_row (p : Pst) (r : Nat) : ((openT [p]).getD r []).length ≤ wt p := by
  have : TabLe (openT [p]) (wt p) := by simpa using openT_le [p]
  exact this.2 r
theorem ev_pastMeet (p q : Pst) (hp : wt p ≤ 20000000) (hq : wt q ≤ 20000000) : Ev (En Try.prog rfl).P 21 [encP p, encP q] (.ret (encP (meetP p q))) := by
  have c := ev_pasteach_of p q 57 (meetT p q) (N := 40000000) (by omega) (by omega) (by omega) (fun r hr => by
    have h1 := meetR_len (normR ((openT [p]).getD r [])) (normR ((openT [q]).getD r []))
    have h2 := normR_len ((openT [p]).getD r [])
    have h3 := normR_len ((openT [q]).getD r [])
    have h4 := open_row p r
    have h5 := open_row q r
    unfold meetT
    omega) (fun r hr => ev_spanMeet _ _ (by have := open_row p r; omega) (by have := open_row q r; omega))
  refine Ev.of_body it_pastMeet (by simp) (Run.start ?_)
  unfold t_pastMeet encP
  (focus (have hF := True.intro; (repeat' (first | (with_reducible refine Nx.of ?_) | ((with_reducible apply toV); refine stV (k := ?_)) | ((with_reducible apply toG); refine stG (k := ?_)) | ((with_reducible apply toG0); refine stG0 (k := ?_)) | ((with_reducible apply toC); refine stC (k := ?_)) | ((with_reducible apply toO); refine stO (k := ?_)) | ((with_reducible apply toX); refine stX (k := ?_)) | (with_reducible refine Ny.of ?_ ?_) | (refine Hyp.of ?_; intro hc; (try simp only [hc]); (try simp only [Bh] at hc)) | fail)); (all_goals clear hF)))
  refine stCall [encP p, encP q, .fn 57 []] (he := c) (k := ?_)
  unfold meetP encP
  (focus (have hF := True.intro; (repeat' (first | (with_reducible refine Nx.of ?_) | ((with_reducible apply toV); refine stV (k := ?_)) | ((with_reducible apply toG); refine stG (k := ?_)) | ((with_reducible apply toG0); refine stG0 (k := ?_)) | ((with_reducible apply toC); refine stC (k := ?_)) | ((with_reducible apply toO); refine stO (k := ?_)) | ((with_reducible apply toX); refine stX (k := ?_)) | (with_reducible refine Ny.of ?_ ?_) | (refine Hyp.of ?_; intro hc; (try simp only [hc]); (try simp only [Bh] at hc)) | fail)); (all_goals clear hF)))
  exact Fin.all rfl (by simp [stbs, AVal.stb, encIs_stb, encSs_stb, fzc, allK]) rfl
theorem ev_pastMinus (p q : Pst) (hp : wt p ≤ 20000000) (hq : wt q ≤ 20000000) : Ev (En Try.prog rfl).P 22 [encP p, encP q] (.ret (encP (minusP p q))) := by
  have c := ev_pasteach_of p q 58 (minusT p q) (N := 40000001) (by omega) (by omega) (by omega) (fun r hr => by
    have h1 := minusR_len ((openT [p]).getD r []) ((openT [q]).getD r [])
    have h4 := open_row p r
    have h5 := open_row q r
    unfold minusT
    omega) (fun r hr => ev_spanMinus _ _ (by have := open_row p r; omega) (by have := open_row q r; omega))
  refine Ev.of_body it_pastMinus (by simp) (Run.start ?_)
  unfold t_pastMinus encP
  (focus (have hF := True.intro; (repeat' (first | (with_reducible refine Nx.of ?_) | ((with_reducible apply toV); refine stV (k := ?_)) | ((with_reducible apply toG); refine stG (k := ?_)) | ((with_reducible apply toG0); refine stG0 (k := ?_)) | ((with_reducible apply toC); refine stC (k := ?_)) | ((with_reducible apply toO); refine stO (k := ?_)) | ((with_reducible apply toX); refine stX (k := ?_)) | (with_reducible refine Ny.of ?_ ?_) | (refine Hyp.of ?_; intro hc; (try simp only [hc]); (try simp only [Bh] at hc)) | fail)); (all_goals clear hF)))
  refine stCall [encP p, encP q, .fn 58 []] (he := c) (k := ?_)
  unfold minusP encP
  (focus (have hF := True.intro; (repeat' (first | (with_reducible refine Nx.of ?_) | ((with_reducible apply toV); refine stV (k := ?_)) | ((with_reducible apply toG); refine stG (k := ?_)) | ((with_reducible apply toG0); refine stG0 (k := ?_)) | ((with_reducible apply toC); refine stC (k := ?_)) | ((with_reducible apply toO); refine stO (k := ?_)) | ((with_reducible apply toX); refine stX (k := ?_)) | (with_reducible refine Ny.of ?_ ?_) | (refine Hyp.of ?_; intro hc; (try simp only [hc]); (try simp only [Bh] at hc)) | fail)); (all_goals clear hF)))
  exact Fin.all rfl (by simp [stbs, AVal.stb, encIs_stb, encSs_stb, fzc, allK]) rfl
end Go.Proofs.Ytdmfjkhbodbgoaa.Avm

namespace Go.Proofs.Ytdmfjkhbodbgoaa.Avm
theorem rows_in {h : Nat → List Rn} {r : Nat} (hr : r < 16) (n : Int) : inP (pastT ((List.range 16).map h)) r n ↔ mem1 (h r) n := by
  rw [past_in _ hr]
  unfold inT
  have : ((List.range 16).map h).getD r [] = h r := by
    rw [List.getD_eq_getElem?_getD, List.getElem?_map, List.getElem?_range hr]
    rfl
  rw [this]
theorem inP_row (p : Pst) {r : Nat} (hr : r < 16) (n : Int) : mem1 ((openT [p]).getD r []) n ↔ inP p r n := by
  show inT (openT [p]) r n ↔ _
  rw [open_in hr]
  simp
theorem meetP_in (p q : Pst) {r : Nat} (hr : r < 16) (n : Int) : inP (meetP p q) r n ↔ inP p r n ∧ inP q r n := by
  unfold meetP
  rw [rows_in hr, ← inP_row p hr, ← inP_row q hr]
  unfold meetT
  constructor
  · rintro ⟨h1, h2, h3⟩
    have := (meetR_in (normR_can _) (normR_can _) n).1 h3
    rw [normR_in, normR_in] at this
    exact this
  · rintro ⟨h1, h2⟩
    refine ⟨h1.1, h1.2.1, (meetR_in (normR_can _) (normR_can _) n).2 ?_⟩
    rw [normR_in, normR_in]
    exact ⟨h1, h2⟩
theorem minusP_in (p q : Pst) {r : Nat} (hr : r < 16) (n : Int) : inP (minusP p q) r n ↔ inP p r n ∧ ¬ inP q r n := by
  unfold minusP
  rw [rows_in hr, ← inP_row p hr, ← inP_row q hr]
  unfold minusT
  constructor
  · rintro ⟨h1, h2, h3⟩
    exact (minusR_in _ _ n).1 h3
  · intro h
    exact ⟨h.1.1, h.1.2.1, (minusR_in _ _ n).2 h⟩
theorem canP_meet (p q : Pst) : CanP (meetP p q) := canP_of _ (by simp)
theorem canP_minus (p q : Pst) : CanP (minusP p q) := canP_of _ (by simp)
theorem size_join_meet (p q : Pst) : sizeP (joinP [p, q]) + sizeP (meetP p q) = sizeP p + sizeP q := by
  rw [sizeP_card, sizeP_card, sizeP_card, sizeP_card]
  have h := cardT_union (inP p) (inP q) 16
  have e1 : cardT (inP (joinP [p, q])) 16 = cardT (fun r n => inP p r n ∨ inP q r n) 16 := cardT_congr fun r hr n _ _ => by rw [joinP_in _ hr]; simp
  have e2 : cardT (inP (meetP p q)) 16 = cardT (fun r n => inP p r n ∧ inP q r n) 16 := cardT_congr fun r hr n _ _ => meetP_in p q hr n
  omega
theorem size_minus_meet (p q : Pst) : sizeP (minusP p q) + sizeP (meetP p q) = sizeP p := by
  rw [sizeP_card, sizeP_card, sizeP_card]
  have h := cardT_part (inP p) (inP q) 16
  have e1 : cardT (inP (minusP p q)) 16 = cardT (fun r n => inP p r n ∧ ¬ inP q r n) 16 := cardT_congr fun r hr n _ _ => minusP_in p q hr n
  have e2 : cardT (inP (meetP p q)) 16 = cardT (fun r n => inP p r n ∧ inP q r n) 16 := cardT_congr fun r hr n _ _ => meetP_in p q hr n
  omega
theorem same_ext {p q : Pst} (hp : CanP p) (hq : CanP q) (h : ∀ r, r < 16 → ∀ n, inP p r n ↔ inP q r n) : sameP p q = true := by
  rw [hp.ext hq h]
  exact sameP_true ⟨rfl, rfl⟩
theorem same_joinC (p q : Pst) : sameP (joinP [p, q]) (joinP [q, p]) = true := same_ext (canP_join _) (canP_join _) fun r hr n => by
  rw [joinP_in _ hr, joinP_in _ hr]; simp [or_comm]
theorem same_meetC (p q : Pst) : sameP (meetP p q) (meetP q p) = true := same_ext (canP_meet _ _) (canP_meet _ _) fun r hr n => by
  rw [meetP_in _ _ hr, meetP_in _ _ hr]; exact and_comm
theorem same_joinI (p : Pst) : sameP (joinP [p, p]) (normP p) = true := same_ext (canP_join _) (canP_norm _) fun r hr n => by
  rw [joinP_in _ hr, normP_in _ hr]; simp
theorem same_joinA (p q s : Pst) : sameP (joinP [joinP [p, q], s]) (joinP [p, joinP [q, s]]) = true := same_ext (canP_join _) (canP_join _) fun r hr n => by
  rw [joinP_in _ hr, joinP_in _ hr]; simp [joinP_in _ hr, or_assoc]
theorem same_join3 (p q s : Pst) : sameP (joinP [p, q, s]) (joinP [joinP [p, q], s]) = true := same_ext (canP_join _) (canP_join _) fun r hr n => by
  rw [joinP_in _ hr, joinP_in _ hr]; simp [joinP_in _ hr, or_assoc]
theorem within_join1 (p q : Pst) : withinP p (joinP [p, q]) = true := withinP_iff.2 fun r hr n h => by rw [joinP_in _ hr]; simp [h]
theorem within_join2 (p q : Pst) : withinP q (joinP [p, q]) = true := withinP_iff.2 fun r hr n h => by rw [joinP_in _ hr]; simp [h]
theorem within_meet1 (p q : Pst) : withinP (meetP p q) p = true := withinP_iff.2 fun r hr n h => ((meetP_in p q hr n).1 h).1
theorem within_meet2 (p q : Pst) : withinP (meetP p q) q = true := withinP_iff.2 fun r hr n h => ((meetP_in p q hr n).1 h).2
theorem within_join (p q s : Pst) (h1 : withinP p s = true) (h2 : withinP q s = true) : withinP (joinP [p, q]) s = true := withinP_iff.2 fun r hr n h => by
  rw [joinP_in _ hr] at h
  obtain ⟨x, hx, h⟩ := h
  simp at hx
  rcases hx with rfl | rfl
  · exact withinP_iff.1 h1 r hr n h
  · exact withinP_iff.1 h2 r hr n h
theorem size_apart (p q : Pst) : sizeP (meetP (meetP p q) (minusP p q)) = 0 := by
  rw [sizeP_card]
  have : cardT (inP (meetP (meetP p q) (minusP p q))) 16 = cardT (fun _ _ => False) 16 := cardT_congr fun r hr n _ _ => by
    rw [meetP_in _ _ hr, meetP_in _ _ hr, minusP_in _ _ hr]
    simp only [iff_false]
    rintro ⟨⟨_, h1⟩, _, h2⟩
    exact h2 h1
  have h0 : ∀ m, cardT (fun _ _ => False) m = 0 := fun m => by
    induction m with
    | zero => rfl
    | succ m ih =>
      show cardT (fun _ _ => False) m + card (fun _ => False) = 0
      have : card (fun _ => False) = 0 := by
        classical
        rw [card_def]
        exact List.countP_eq_zero.2 fun i _ => by simp
      omega
  rw [this, h0]
  rfl
theorem same_parts (p q : Pst) : sameP (joinP [meetP p q, minusP p q]) (normP p) = true := same_ext (canP_join _) (canP_norm _) fun r hr n => by
  rw [joinP_in _ hr, normP_in _ hr]
  simp only [List.mem_cons, List.not_mem_nil, or_false, exists_eq_or_imp, exists_eq_left, meetP_in _ _ hr, minusP_in _ _ hr]
  by_cases h : inP q r n <;> simp [h]
end Go.Proofs.Ytdmfjkhbodbgoaa.Avm

namespace Go.Proofs.Ytdmfjkhbodbgoaa.Avm
theorem sum_le3 (f a b : Nat → Nat) (c : Nat) (h : ∀ r, f r ≤ a r + b r + c) : ∀ m, ((List.range m).map f).sum ≤ ((List.range m).map a).sum + ((List.range m).map b).sum + m * c
  | 0 => by simp
  | m + 1 => by
    have ih := sum_le3 f a b c h m
    have := h m
    rw [List.range_succ, List.map_append, List.map_append, List.map_append, List.sum_append, List.sum_append, List.sum_append, Nat.succ_mul]
    simp only [List.map_cons, List.map_nil, List.sum_cons, List.sum_nil]
    omega
theorem rows_wt (p q : Pst) (h : Nat → List Rn) (c : Nat) (hh : ∀ r, (h r).length ≤ ((openT [p]).getD r []).length + ((openT [q]).getD r []).length + c) : wt (pastT ((List.range 16).map h)) ≤ 16 + wt p + wt q + 16 * c := by
  have h1 := pastT_tot (t := (List.range 16).map h) (by simp)
  have h2 := sum_le3 (fun r => (h r).length) (fun r => ((openT [p]).getD r []).length) (fun r => ((openT [q]).getD r []).length) c hh 16
  have h3 := range_getD (openT [p])
  have h4 := range_getD (openT [q])
  have h5 := tot_openT [p]
  have h6 := tot_openT [q]
  rw [(openT_le [p]).1] at h3
  rw [(openT_le [q]).1] at h4
  simp only [List.map_cons, List.map_nil, List.sum_cons, List.sum_nil] at h5 h6
  have h7 : tot ((List.range 16).map h) = ((List.range 16).map fun r => (h r).length).sum := by
    unfold tot
    rw [List.map_map]
    rfl
  omega
theorem meetP_wt (p q : Pst) : wt (meetP p q) ≤ 16 + wt p + wt q := by
  have := rows_wt p q (meetT p q) 0 fun r => by
    have h1 := meetR_len (normR ((openT [p]).getD r [])) (normR ((openT [q]).getD r []))
    have h2 := normR_len ((openT [p]).getD r [])
    have h3 := normR_len ((openT [q]).getD r [])
    unfold meetT
    omega
  unfold meetP
  omega
theorem minusP_wt (p q : Pst) : wt (minusP p q) ≤ 32 + wt p + wt q := by
  have := rows_wt p q (minusT p q) 1 fun r => minusR_len _ _
  unfold minusP
  omega
end Go.Proofs.Ytdmfjkhbodbgoaa.Avm

namespace Go.Proofs.Ytdmfjkhbodbgoaa.Avm
def NoCl (p : Pst) (r : Int) : Prop := ∀ s ∈ p.cloud, s.1 ≠ r
theorem noCl_in {p : Pst} {r : Nat} (hr : r < 16) (hno : NoCl p r) (n : Int) : inP p r n ↔ 1 ≤ n ∧ n ≤ lastP p (r : Int) := by
  have ht := lastP_top p hr
  constructor
  · intro h
    exact ⟨inP_pos h, ht.2 n h⟩
  · rintro ⟨h1, h2⟩
    rcases ht.1 with h0 | h0
    · omega
    · obtain ⟨_, a1, a2, a3⟩ := h0
      rcases a3 with ⟨a3, a4⟩ | ⟨s, hs, e, _⟩
      · exact ⟨hr, h1, by omega, .inl ⟨a3, by omega⟩⟩
      · exact absurd e (hno s hs)
theorem lastP_le {p : Pst} {r : Nat} (hr : r < 16) : lastP p (r : Int) ≤ 1000000000 := by
  rcases (lastP_top p hr).1 with h | h
  · omega
  · exact h.2.2.1
theorem can_lead {k : Int} (h1 : 1 ≤ k) (h2 : k ≤ 1000000000) : Can [(1, k)] :=
  Can.cons_iff.2 ⟨⟨by show (1 : Int) ≤ 1; omega, h1, h2⟩, by simp, Can.nil⟩
theorem noCl_of (t : Tab) {r : Nat} (hr : r < 16) {k : Int} (h1 : 1 ≤ k) (h2 : k ≤ 1000000000) (h : ∀ n, inT t r n ↔ 1 ≤ n ∧ n ≤ k) : NoCl (pastT t) r := by
  have hn : normR (t.getD r []) = [(1, k)] := Can.ext (normR_can _) (can_lead h1 h2) fun n => by
    rw [inR_one, normR_in]
    exact h n
  have hrest : restT t r = [] := by
    unfold restT
    rw [hn, leadOf_1 rfl]
  intro s hs e
  change s ∈ cloudT t 16 at hs
  unfold cloudT at hs
  rw [List.mem_flatMap] at hs
  obtain ⟨r', _, h'⟩ := hs
  unfold cloudRow at h'
  rw [List.mem_map] at h'
  obtain ⟨y, hy, rfl⟩ := h'
  have : r' = r := by
    have : ((r' : Nat) : Int) = (r : Int) := e
    omega
  subst this
  rw [hrest] at hy
  simp at hy
theorem noCl_put {p : Pst} {r : Nat} (hr : r < 16) (hno : NoCl p r) (hl : lastP p (r : Int) < 1000000000) : NoCl (putP p ((r : Int), lastP p (r : Int) + 1)) r := by
  have h0 := lastP_nonneg p (r : Int)
  refine noCl_of (openT [p, ofP [((r : Int), lastP p (r : Int) + 1)]]) hr (k := lastP p (r : Int) + 1) (by omega) (by omega) fun n => ?_
  rw [open_in hr]
  have h1 := putP_in p ((r : Int), lastP p (r : Int) + 1) hr n
  rw [show putP p ((r : Int), lastP p (r : Int) + 1) = joinP [p, ofP [((r : Int), lastP p (r : Int) + 1)]] from rfl, joinP_in _ hr] at h1
  rw [h1, noCl_in hr hno]
  constructor
  · rintro (h | ⟨a, b, c⟩)
    · omega
    · have := congrArg Prod.snd c
      simp only at this
      omega
  · intro h
    by_cases e : n = lastP p (r : Int) + 1
    · exact .inr ⟨by omega, by omega, by rw [e]⟩
    · exact .inl (by omega)
theorem last_put {p : Pst} {r : Nat} (hr : r < 16) (hl : lastP p (r : Int) < 1000000000) : lastP (putP p ((r : Int), lastP p (r : Int) + 1)) r = lastP p (r : Int) + 1 := by
  have h : nextOf (lastP p) (r : Int) 1000000000 = (((r : Int), lastP p (r : Int) + 1), 0) := nextOf_3 (by omega) (by omega)
  have := (next_ok p r 1000000000 (by rw [h])).2
  rw [h] at this
  exact this
theorem card_zero {q : Int → Prop} (h : ∀ n, ¬ q n) : card q = 0 := by
  classical
  rw [card_def]
  exact List.countP_eq_zero.2 fun i _ => by simp [h]
theorem card_one {k : Int} (h1 : 1 ≤ k) (h2 : k ≤ 1000000000) : card (fun n => n = k) = 1 := by
  have h := card_run h1 (Int.le_refl k) h2
  have : card (fun n => k ≤ n ∧ n ≤ k) = card (fun n => n = k) := card_congr fun n _ _ => by omega
  omega
theorem cardT_zero {q : Nat → Int → Prop} (h : ∀ r n, ¬ q r n) : ∀ m, cardT q m = 0
  | 0 => rfl
  | m + 1 => by
    show cardT q m + card (q m) = 0
    rw [cardT_zero h m, card_zero (h m)]
theorem cardT_one {r : Nat} {k : Int} (h1 : 1 ≤ k) (h2 : k ≤ 1000000000) : ∀ m, cardT (fun ρ n => ρ = r ∧ n = k) m = if r < m then 1 else 0
  | 0 => rfl
  | m + 1 => by
    show cardT (fun ρ n => ρ = r ∧ n = k) m + card (fun n => m = r ∧ n = k) = _
    rw [cardT_one h1 h2 m]
    by_cases e : m = r
    · have : card (fun n => m = r ∧ n = k) = card (fun n => n = k) := card_congr fun n _ _ => by simp [e]
      rw [this, card_one h1 h2, if_neg (by omega), if_pos (by omega)]
    · rw [card_zero fun n h => e h.1]
      by_cases hlt : r < m
      · rw [if_pos hlt, if_pos (by omega)]
      · rw [if_neg hlt, if_neg (by omega)]
theorem size_put (p : Pst) {r : Nat} (hr : r < 16) {k : Int} (h1 : 1 ≤ k) (h2 : k ≤ 1000000000) (hn : ¬ inP p r k) : sizeP (putP p ((r : Int), k)) = sizeP p + 1 := by
  rw [sizeP_card, sizeP_card]
  have e1 : cardT (inP (putP p ((r : Int), k))) 16 = cardT (fun ρ n => inP p ρ n ∨ (ρ = r ∧ n = k)) 16 := cardT_congr fun ρ hρ n a b => by
    rw [putP_in _ _ hρ]
    constructor
    · rintro (h | ⟨_, _, h⟩)
      · exact .inl h
      · have u := congrArg Prod.fst h
        have v := congrArg Prod.snd h
        simp only at u v
        exact .inr ⟨by omega, v⟩
    · rintro (h | ⟨u, v⟩)
      · exact .inl h
      · exact .inr ⟨a, b, by rw [u, v]⟩
  have e2 := cardT_union (inP p) (fun ρ n => ρ = r ∧ n = k) 16
  have e3 : cardT (fun ρ n => inP p ρ n ∧ (ρ = r ∧ n = k)) 16 = 0 := cardT_zero (fun ρ n h => hn (by obtain ⟨h, rfl, rfl⟩ := h; exact h)) 16
  have e4 := cardT_one (r := r) h1 h2 16
  rw [if_pos hr] at e4
  rw [e1]
  omega
theorem canP_put (p : Pst) (d : Rn) : CanP (putP p d) := canP_join _
theorem has_put (p : Pst) {r : Nat} (hr : r < 16) {k : Int} (h1 : 1 ≤ k) (h2 : k ≤ 1000000000) : hasP (putP p ((r : Int), k)) ((r : Int), k) = true := by
  rw [hasP_iff]
  refine ⟨by show (0 : Int) ≤ (r : Int); omega, ?_⟩
  show inP _ (r : Int).toNat k
  rw [Int.toNat_natCast, putP_in _ _ hr]
  exact .inr ⟨h1, h2, rfl⟩
theorem sizeP_bound (p : Pst) {W : Nat} (hw : wt p ≤ W) (hW : W ≤ 50000000) : 0 ≤ sizeP p ∧ sizeP p ≤ 16 * 1000000000 * (W : Int) := by
  have ht : TabLe (openT [p]) (wt p) := by simpa using openT_le [p]
  have := sizeTab_bound ht 16
  unfold sizeP
  omega
end Go.Proofs.Ytdmfjkhbodbgoaa.Avm

namespace Go.Proofs.Ytdmfjkhbodbgoaa.Avm
theorem bool_eq {a b : Bool} (h : a = true ↔ b = true) : a = b := by cases a <;> cases b <;> simp_all
theorem card_pos {q : Int → Prop} {k : Int} (h1 : 1 ≤ k) (h2 : k ≤ 1000000000) (h : q k) : 1 ≤ card q := by
  have e := card_part q (fun n => n = k)
  have : card (fun n => q n ∧ n = k) = card (fun n => n = k) := card_congr fun n _ _ => ⟨fun x => x.2, fun x => ⟨x ▸ h, x⟩⟩
  rw [this, card_one h1 h2] at e
  omega
theorem cardT_pos {q : Nat → Int → Prop} {r : Nat} {k : Int} (h1 : 1 ≤ k) (h2 : k ≤ 1000000000) (h : q r k) : ∀ {m : Nat}, r < m → 1 ≤ cardT q m
  | 0, hm => by omega
  | m + 1, hm => by
    show 1 ≤ cardT q m + card (q m)
    by_cases e : r = m
    · subst e
      have := card_pos h1 h2 h
      omega
    · have := cardT_pos h1 h2 h (m := m) (by omega)
      omega
end Go.Proofs.Ytdmfjkhbodbgoaa.Avm

namespace Go.Proofs.Ytdmfjkhbodbgoaa.Avm
def holesT (p : Pst) (r : Nat) : List Rn := minusR [(1, lastR ((openT [p]).getD r []))] ((openT [p]).getD r [])
def holesP (p : Pst) : Pst := pastT ((List.range 16).map (holesT p))
theorem holesP_in (p : Pst) {r : Nat} (hr : r < 16) (n : Int) : inP (holesP p) r n ↔ 1 ≤ n ∧ n ≤ lastP p (r : Int) ∧ ¬ inP p r n := by
  unfold holesP
  rw [rows_in hr]
  have h1 : lastP p (r : Int) = lastR ((openT [p]).getD r []) := by rw [lastP_in (by omega), Int.toNat_natCast]
  have h2 := lastP_le (p := p) hr
  rw [h1] at h2 ⊢
  rw [← inP_row p hr]
  unfold holesT
  constructor
  · rintro ⟨_, _, h⟩
    have := (minusR_in _ _ n).1 h
    have h3 := (inR_one _ _).1 this.1.2.2
    exact ⟨h3.1, h3.2, this.2⟩
  · rintro ⟨h3, h4, h5⟩
    exact ⟨h3, by omega, (minusR_in _ _ n).2 ⟨⟨h3, by omega, (inR_one _ _).2 ⟨h3, h4⟩⟩, h5⟩⟩
theorem canP_holes (p : Pst) : CanP (holesP p) := canP_of _ (by simp)
theorem holesT_len (p : Pst) (r : Nat) : (holesT p r).length ≤ ((openT [p]).getD r []).length + 2 := by
  have := minusR_len [(1, lastR ((openT [p]).getD r []))] ((openT [p]).getD r [])
  unfold holesT
  simp only [List.length_cons, List.length_nil] at this
  omega
theorem holesP_wt (p : Pst) : wt (holesP p) ≤ 48 + wt p + wt p := by
  have := rows_wt p p (holesT p) 2 fun r => by have := holesT_len p r; omega
  unfold holesP
  omega
theorem inP_lt {p : Pst} {r : Nat} {n : Int} (h : inP p r n) : r < 16 := h.1
theorem has_norm (p : Pst) (d : Rn) : hasP (normP p) d = hasP p d := bool_eq (by
  rw [hasP_iff, hasP_iff]
  exact ⟨fun h => ⟨h.1, (normP_in p (inP_lt h.2) _).1 h.2⟩, fun h => ⟨h.1, (normP_in p (inP_lt h.2) _).2 h.2⟩⟩)
theorem has_join (p q : Pst) (d : Rn) : hasP (joinP [p, q]) d = (hasP p d || hasP q d) := bool_eq (by
  rw [Bool.or_eq_true, hasP_iff, hasP_iff, hasP_iff]
  constructor
  · intro h
    have := (joinP_in [p, q] (inP_lt h.2) _).1 h.2
    simp only [List.mem_cons, List.not_mem_nil, or_false, exists_eq_or_imp, exists_eq_left] at this
    exact this.imp (fun x => ⟨h.1, x⟩) (fun x => ⟨h.1, x⟩)
  · rintro (h | h)
    · exact ⟨h.1, (joinP_in _ (inP_lt h.2) _).2 ⟨p, by simp, h.2⟩⟩
    · exact ⟨h.1, (joinP_in _ (inP_lt h.2) _).2 ⟨q, by simp, h.2⟩⟩)
theorem has_meet (p q : Pst) (d : Rn) : hasP (meetP p q) d = (hasP p d && hasP q d) := bool_eq (by
  rw [Bool.and_eq_true, hasP_iff, hasP_iff, hasP_iff]
  constructor
  · intro h
    have := (meetP_in p q (inP_lt h.2) _).1 h.2
    exact ⟨⟨h.1, this.1⟩, h.1, this.2⟩
  · rintro ⟨h, h'⟩
    exact ⟨h.1, (meetP_in p q (inP_lt h.2) _).2 ⟨h.2, h'.2⟩⟩)
theorem hasP_false {p : Pst} {d : Rn} : (!hasP p d) = true ↔ ¬ (0 ≤ d.1 ∧ inP p d.1.toNat d.2) := by
  rw [← hasP_iff]
  cases hasP p d <;> simp
theorem has_minus (p q : Pst) (d : Rn) : hasP (minusP p q) d = (hasP p d && !hasP q d) := bool_eq (by
  rw [Bool.and_eq_true, hasP_iff, hasP_iff, hasP_false]
  constructor
  · intro h
    have := (minusP_in p q (inP_lt h.2) _).1 h.2
    exact ⟨⟨h.1, this.1⟩, fun h' => this.2 h'.2⟩
  · rintro ⟨h, h'⟩
    exact ⟨h.1, (minusP_in p q (inP_lt h.2) _).2 ⟨h.2, fun x => h' ⟨h.1, x⟩⟩⟩)
theorem has_holes (p : Pst) (d : Rn) : hasP (holesP p) d = ((decide (0 ≤ d.1) && (decide (d.1 ≤ 15) && decide (1 ≤ d.2))) && (!hasP p d && decide (d.2 < lastP p d.1))) := bool_eq (by
  rw [Bool.and_eq_true, Bool.and_eq_true, Bool.and_eq_true, Bool.and_eq_true, hasP_iff, hasP_false, decide_eq_true_eq, decide_eq_true_eq, decide_eq_true_eq, decide_eq_true_eq]
  constructor
  · intro h
    have hr := inP_lt h.2
    have := (holesP_in p hr _).1 h.2
    have e : ((d.1.toNat : Nat) : Int) = d.1 := Int.toNat_of_nonneg h.1
    rw [e] at this
    refine ⟨⟨h.1, by omega, this.1⟩, fun h' => this.2.2 h'.2, ?_⟩
    rcases Int.lt_or_eq_of_le this.2.1 with h2 | h2
    · exact h2
    · exfalso
      have ht := (lastP_top p hr).1
      rw [e, ← h2] at ht
      rcases ht with ht | ht
      · omega
      · exact this.2.2 ht
  · rintro ⟨⟨h1, h2, h3⟩, h4, h5⟩
    have hr : d.1.toNat < 16 := by omega
    refine ⟨h1, (holesP_in p hr _).2 ⟨h3, ?_, fun h => h4 ⟨h1, h⟩⟩⟩
    rw [Int.toNat_of_nonneg h1]
    omega)
theorem has_last {p : Pst} {d : Rn} (h : hasP p d = true) : d.2 ≤ lastP p d.1 := by
  have h' := hasP_iff p d |>.1 h
  have := (lastP_top p (inP_lt h'.2)).2 _ h'.2
  rwa [Int.toNat_of_nonneg h'.1] at this
theorem has_within {p q : Pst} {d : Rn} (hw : withinP p q = true) (h : hasP p d = true) : hasP q d = true := by
  have h' := (hasP_iff p d).1 h
  exact (hasP_iff q d).2 ⟨h'.1, withinP_iff.1 hw _ (inP_lt h'.2) _ h'.2⟩
theorem has_size {p : Pst} {d : Rn} (h : hasP p d = true) : 1 ≤ sizeP p := by
  have h' := (hasP_iff p d).1 h
  rw [sizeP_card]
  have := cardT_pos h'.2.2.1 h'.2.2.2.1 h'.2 (inP_lt h'.2)
  omega
end Go.Proofs.Ytdmfjkhbodbgoaa.Avm

namespace Go.Proofs.Ytdmfjkhbodbgoaa.Avm
open Go.Proofs
def r_pastHoles_1 : List SOp :=
  [⟨(some 1), (.box 25 (.tmp 0)), none⟩, ⟨(some 2), (.alloc 25), none⟩]
instance : Live r_pastHoles_1 := ⟨[0]⟩
def r_pastHoles_2 : List SOp :=
  [⟨(some 6), (.load 25 (.tmp 1)), none⟩, ⟨(some 7), (.buildSlice 51 1 #[(0, .tmp 6)]), none⟩, ⟨(some 8), (.call ⟨.value (.func 47), #[.tmp 7], #[51]⟩), none⟩, ⟨(some 3), (.assign (.tmp 8)), none⟩]
instance : Live r_pastHoles_2 := ⟨[1, 2]⟩
def r_pastHoles_3 : List SOp :=
  [⟨(some 9), (.move (.const (.int .i64 0))), none⟩]
instance : Live r_pastHoles_3 := ⟨[2, 3]⟩
def r_pastHoles_4 : List SOp :=
  [⟨(some 10), (.binOp .lss 3 (.tmp 9) (.const (.int .i64 16)) 3), none⟩]
instance : Live r_pastHoles_4 := ⟨[2, 3, 9]⟩
def r_pastHoles_5 : List SOp :=
  [⟨(some 11), (.move (.tmp 9)), none⟩, ⟨(some 4), (.assign (.tmp 11)), none⟩]
instance : Live r_pastHoles_5 := ⟨[2, 3, 9]⟩
def r_pastHoles_6 : List SOp :=
  [⟨(some 12), (.move (.tmp 3)), none⟩, ⟨(some 13), (.move (.tmp 4)), none⟩, ⟨(some 14), (.nilCheck (.tmp 12)), none⟩, ⟨(some 15), (.indexAddr 70 (.tmp 14) (.tmp 13)), none⟩, ⟨(some 16), (.load 58 (.tmp 15)), none⟩, ⟨(some 17), (.call ⟨.value (.func 46), #[.tmp 16], #[58]⟩), none⟩, ⟨(some 18), (.build 73 #[(0, .const (.int .i64 1)), (1, .tmp 17)]), none⟩, ⟨(some 19), (.buildSlice 58 1 #[(0, .tmp 18)]), none⟩, ⟨(some 5), (.assign (.tmp 19)), none⟩]
instance : Live r_pastHoles_6 := ⟨[2, 3, 4, 9]⟩
def r_pastHoles_7 : List SOp :=
  [⟨(some 20), (.move (.tmp 3)), none⟩, ⟨(some 21), (.move (.tmp 4)), none⟩, ⟨(some 22), (.move (.tmp 5)), none⟩, ⟨(some 23), (.move (.tmp 3)), none⟩, ⟨(some 24), (.move (.tmp 4)), none⟩, ⟨(some 25), (.nilCheck (.tmp 23)), none⟩, ⟨(some 26), (.indexAddr 70 (.tmp 25) (.tmp 24)), none⟩, ⟨(some 27), (.load 58 (.tmp 26)), none⟩, ⟨(some 28), (.call ⟨.value (.func 58), #[.tmp 22, .tmp 27], #[58, 58]⟩), none⟩, ⟨(some 29), (.nilCheck (.tmp 20)), none⟩, ⟨(some 30), (.indexAddr 70 (.tmp 29) (.tmp 21)), none⟩, ⟨none, (.store 58 (.tmp 30) (.tmp 28)), none⟩]
instance : Live r_pastHoles_7 := ⟨[2, 3, 4, 5, 9]⟩
def r_pastHoles_8 : List SOp :=
  [⟨(some 31), (.binOp .add 3 (.tmp 9) (.const (.int .i64 1)) 3), none⟩, ⟨(some 9), (.move (.tmp 31)), none⟩]
instance : Live r_pastHoles_8 := ⟨[2, 3, 9]⟩
def r_pastHoles_9 : List SOp :=
  [⟨(some 32), (.move (.tmp 3)), none⟩, ⟨(some 33), (.call ⟨.value (.func 52), #[.tmp 32], #[59]⟩), none⟩, ⟨none, (.store 25 (.tmp 2) (.tmp 33)), none⟩]
instance : Live r_pastHoles_9 := ⟨[2, 3]⟩
def t_pastHoles_l1 : SC :=
  (.seq (.ops false r_pastHoles_4) (.seq (.cond (.tmp 10) .skip (.exit 0)) (.seq (.block 1 (.seq (.ops false r_pastHoles_5) (.seq (.ops false r_pastHoles_6) (.ops true r_pastHoles_7)))) (.ops false r_pastHoles_8))))
def t_pastHoles : SC :=
  (.seq (.ops false r_pastHoles_1) (.seq (.ops false r_pastHoles_2) (.seq (.seq (.ops false r_pastHoles_3) (.block 0 (.loop t_pastHoles_l1))) (.seq (.ops false r_pastHoles_9) .ret))))
theorem it_pastHoles : FnIs Try.prog 27 34 [.cell 2 25] t_pastHoles := ⟨Try.f27, _, Try.func27, rfl, rfl, rfl, rfl, by kernel_rfl⟩
end Go.Proofs.Ytdmfjkhbodbgoaa.Avm

namespace Go.Proofs.Ytdmfjkhbodbgoaa.Avm
open Go.Proofs
theorem ev_pastHoles (p : Pst) (hp : wt p ≤ 20000000) : Ev (En Try.prog rfl).P 27 [encP p] (.ret (encP (holesP p))) := by
  refine Ev.of_body it_pastHoles (by simp) (Run.start ?_)
  unfold t_pastHoles encP
  have c1 := new_pastopen [p] (by simp) (by simp; omega)
  have ht : TabLe (openT [p]) (wt p) := by simpa using openT_le [p]
  have hT0 : ∀ r, r < 16 → holesT p r = minusR [(1, lastR ((openT [p]).getD r []))] ((openT [p]).getD r []) := fun _ _ => rfl
  have hlen : ∀ r, (holesT p r).length ≤ 20000002 := fun r => by
    have h1 := holesT_len p r
    have h2 := open_row p r
    omega
  have hh : holesP p = pastT ((List.range 16).map (holesT p)) := rfl
  rw [hh]
  (focus (have hF := True.intro; (repeat' (first | (with_reducible refine Nx.of ?_) | ((with_reducible apply toV); refine stV (k := ?_)) | ((with_reducible apply toG); refine stG (k := ?_)) | ((with_reducible apply toG0); refine stG0 (k := ?_)) | ((with_reducible apply toC); refine stC (k := ?_)) | ((with_reducible apply toO); refine stO (k := ?_)) | ((with_reducible apply toX); refine stX (k := ?_)) | (with_reducible refine Ny.of ?_ ?_) | (refine Hyp.of ?_; intro hc; (try simp only [hc]); (try simp only [Bh] at hc)) | fail)); (all_goals clear hF)))
  refine stNew [.sl 2 (encPs [p])] (he := c1) (k := ?_)
  clear c1 hh
  generalize holesT p = h at hT0 hlen ⊢
  generalize openT [p] = t at ht hT0 ⊢
  have e1 : (encTs t).length = 16 := by rw [encTs_len, ht.1]
  (focus (have hF := @e1; (repeat' (first | (with_reducible refine Nx.of ?_) | ((with_reducible apply toV); refine stV (k := ?_)) | ((with_reducible apply toG); refine stG (k := ?_)) | ((with_reducible apply toG0); refine stG0 (k := ?_)) | ((with_reducible apply toC); refine stC (k := ?_)) | ((with_reducible apply toO); refine stO (k := ?_)) | ((with_reducible apply toX); refine stX (k := ?_)) | (with_reducible refine Ny.of ?_ ?_) | (refine Hyp.of ?_; intro hc; (try simp only [hc]); (try simp only [Bh] at hc)) | fail)); (all_goals clear hF)))
  refine Run.while (σ := Nat × Tab) (fun z => ⟨tms [(2, .ptr 2 0), (3, .ptr 8 0), (9, .int .i64 (z.1 : Int))], mms [(2, .cells [.nil, .nil]), (8, .cells (encTs z.2))]⟩)
    (fun z => z.1 ≤ 16 ∧ z.2.length = 16 ∧ ∀ r, r < 16 → z.2.getD r [] = if r < z.1 then h r else t.getD r []) (fun z => 16 - z.1) (0, t) (have hW := @encTs_stb; stWk) ⟨Nat.zero_le _, ht.1, fun r _ => by rw [if_neg (Nat.not_lt_zero r)]⟩ ?_
  rintro ⟨i, T⟩ ⟨hi, hT, hrow⟩
  dsimp only at hi hT hrow ⊢
  have e3 : (encTs T).length = 16 := by rw [encTs_len, hT]
  unfold t_pastHoles_l1
  by_cases hlt : i < 16
  · have hiT : i < T.length := by omega
    have hrT : T.getD i [] = t.getD i [] := by rw [hrow i hlt, if_neg (by omega)]
    have g1 := encTs_get hiT
    rw [hrT] at g1
    have hq := ht.2 i
    have c2 := ev_spanLast (t.getD i []) (by omega)
    have c3 := ev_spanMinus [(1, lastR (t.getD i []))] (t.getD i []) (by simp) (by omega)
    rw [← hT0 i hlt] at c3
    have hs : List.take i (encTs T) ++ [AVal.sl 2 (encRs (h i))] ++ List.drop (i + 1) (encTs T) = encTs (T.set i (h i)) := by
      rw [← encTs_set, List.set_eq_take_append_cons_drop, if_pos (by omega), List.append_assoc]
      rfl
    have hrow2 : ∀ r, r < 16 → (T.set i (h i)).getD r [] = if r < i + 1 then h r else t.getD r [] := fun r hr => by
      rw [List.getD_eq_getElem?_getD, List.getElem?_set]
      by_cases e : i = r
      · subst e
        rw [if_pos rfl, if_pos hiT, if_pos (by omega)]
        rfl
      · rw [if_neg e, ← List.getD_eq_getElem?_getD, hrow r hr]
        by_cases hr2 : r < i
        · rw [if_pos hr2, if_pos (by omega)]
        · rw [if_neg hr2, if_neg (by omega)]
    (focus (have hF := (And.intro @e3 @g1); (repeat' (first | (with_reducible refine Nx.of ?_) | ((with_reducible apply toV); refine stV (k := ?_)) | ((with_reducible apply toG); refine stG (k := ?_)) | ((with_reducible apply toG0); refine stG0 (k := ?_)) | ((with_reducible apply toC); refine stC (k := ?_)) | ((with_reducible apply toO); refine stO (k := ?_)) | ((with_reducible apply toX); refine stX (k := ?_)) | (with_reducible refine Ny.of ?_ ?_) | (refine Hyp.of ?_; intro hc; (try simp only [hc]); (try simp only [Bh] at hc)) | fail)); (all_goals clear hF)))
    refine stCall [.sl 2 (encRs (t.getD i []))] (he := c2) (k := ?_)
    (focus (have hF := (And.intro @e3 @g1); (repeat' (first | (with_reducible refine Nx.of ?_) | ((with_reducible apply toV); refine stV (k := ?_)) | ((with_reducible apply toG); refine stG (k := ?_)) | ((with_reducible apply toG0); refine stG0 (k := ?_)) | ((with_reducible apply toC); refine stC (k := ?_)) | ((with_reducible apply toO); refine stO (k := ?_)) | ((with_reducible apply toX); refine stX (k := ?_)) | (with_reducible refine Ny.of ?_ ?_) | (refine Hyp.of ?_; intro hc; (try simp only [hc]); (try simp only [Bh] at hc)) | fail)); (all_goals clear hF)))
    refine stCall [.sl 2 (encRs [(1, lastR (t.getD i []))]), .sl 2 (encRs (t.getD i []))] (he := c3) (k := ?_)
    (focus (have hF := (And.intro @e3 @g1); (repeat' (first | (with_reducible refine Nx.of ?_) | ((with_reducible apply toV); refine stV (k := ?_)) | ((with_reducible apply toG); refine stG (k := ?_)) | ((with_reducible apply toG0); refine stG0 (k := ?_)) | ((with_reducible apply toC); refine stC (k := ?_)) | ((with_reducible apply toO); refine stO (k := ?_)) | ((with_reducible apply toX); refine stX (k := ?_)) | (with_reducible refine Ny.of ?_ ?_) | (refine Hyp.of ?_; intro hc; (try simp only [hc]); (try simp only [Bh] at hc)) | fail)); (all_goals clear hF)))
    rw [hs]
    (refine Fin.nextW ((i + 1, T.set i (h i))) ?_ (have hW := @encTs_stb; stWk); (try dsimp only))
    exact ⟨⟨by show i + 1 ≤ 16; omega, by show (T.set i (h i)).length = 16; rw [List.length_set]; exact hT, hrow2⟩, by show 16 - (i + 1) < 16 - i; omega⟩
  · have hTh : T = (List.range 16).map h := by
      refine List.ext_getElem (by simp [hT]) fun j h1 h2 => ?_
      have := hrow j (by omega)
      rw [if_pos (by omega), List.getD_eq_getElem?_getD, List.getElem?_eq_getElem h1] at this
      simpa using this
    rw [← hTh]
    have hTl : TabLe T 20000002 := by
      refine ⟨hT, fun r => ?_⟩
      by_cases hr : r < 16
      · rw [hrow r hr, if_pos (by omega)]; exact hlen r
      · rw [List.getD_eq_getElem?_getD, List.getElem?_eq_none (by omega)]; exact Nat.zero_le _
    have c4 := ev_pasttablepast T hTl (by omega)
    (focus (have hF := @e3; (repeat' (first | (with_reducible refine Nx.of ?_) | ((with_reducible apply toV); refine stV (k := ?_)) | ((with_reducible apply toG); refine stG (k := ?_)) | ((with_reducible apply toG0); refine stG0 (k := ?_)) | ((with_reducible apply toC); refine stC (k := ?_)) | ((with_reducible apply toO); refine stO (k := ?_)) | ((with_reducible apply toX); refine stX (k := ?_)) | (with_reducible refine Ny.of ?_ ?_) | (refine Hyp.of ?_; intro hc; (try simp only [hc]); (try simp only [Bh] at hc)) | fail)); (all_goals clear hF)))
    refine awp_give (fun j => j == 8) (l := [.sptr (encTs T)]) rfl ?hl (by simp [stbs, AVal.stb, encTs_stb]) c4 rfl ?k
    case hl =>
      show [AVal.sptr (((encTs T).map (fzc (fun j => j == 8) _)).drop 0)] = _
      rw [encTs_fz]
      rfl
    unfold encP
    (focus (have hF := True.intro; (repeat' (first | (with_reducible refine Nx.of ?_) | ((with_reducible apply toV); refine stV (k := ?_)) | ((with_reducible apply toG); refine stG (k := ?_)) | ((with_reducible apply toG0); refine stG0 (k := ?_)) | ((with_reducible apply toC); refine stC (k := ?_)) | ((with_reducible apply toO); refine stO (k := ?_)) | ((with_reducible apply toX); refine stX (k := ?_)) | (with_reducible refine Ny.of ?_ ?_) | (refine Hyp.of ?_; intro hc; (try simp only [hc]); (try simp only [Bh] at hc)) | fail)); (all_goals clear hF)))
    exact Fin.all rfl (by simp [stbs, AVal.stb, encIs_stb, encSs_stb, fzc, allK]) rfl
end Go.Proofs.Ytdmfjkhbodbgoaa.Avm

namespace Go.Proofs.Ytdmfjkhbodbgoaa.Avm
open Go.ChangeShapes Go.WideShapes Go.ChangeAt Go.RowKit
def VR0 (w : World) (x : AVal) (v : Value) : Prop := ∀ G : Gh, (∀ b, G.ow b = none) → VR (Dm NoM) G (fun _ => False) w x v
structure Opens (P : Program) (t : TypeId) (α : Type) (ok : α → Prop) (c : α → List AVal) (wt : α → Nat) : Prop where
  run : ∀ {H : Type} (enc : TypeId × Value → H) (w : World) (fuel : Nat) (cs : List Value) (d : DataW H) (ps : List MemPlace),
    DataW.trod enc P w 0 (fun _ => true) true fuel t cs = some (d, ps) →
    ∃ x : α, ok x ∧ wt x ≤ Rows.uptoBulk d ∧ cs.length = (c x).length ∧ ∀ (n : Nat) (y : AVal) (v : Value), (c x)[n]? = some y → cs[n]? = some v → VR0 w y v
section
variable {P : Program} {t : TypeId}
def inI64 (n : Int) : Prop := -9223372036854775808 ≤ n ∧ n ≤ 9223372036854775807
theorem Opens.int (ht : P.underlying t = some (.int .i64)) : Opens P t Int inI64 (fun n => [.int .i64 n]) (fun _ => 1) := by
  refine ⟨fun {H} enc w fuel cs d ps h => ?_⟩
  obtain ⟨n, rfl, hx, hw⟩ := DataW.trod_int ht h
  have hd : d = .lit (.int .i64 n) := congrArg Prod.fst hx
  subst hd
  refine ⟨n, bounds_i64 hw, by simp [Rows.uptoBulk], rfl, fun i y v hy hv G hG => ?_⟩
  match i with
  | 0 => simp at hy hv; subst hy; subst hv; exact .int _ _
  | i + 1 => simp at hy
theorem Opens.bool (ht : P.underlying t = some .bool) : Opens P t Bool (fun _ => True) (fun n => [.bool n]) (fun _ => 1) := by
  refine ⟨fun {H} enc w fuel cs d ps h => ?_⟩
  obtain ⟨n, rfl, hx⟩ := DataW.trod_bool ht h
  have hd : d = .lit (.bool n) := congrArg Prod.fst hx
  subst hd
  refine ⟨n, trivial, by simp [Rows.uptoBulk], rfl, fun i y v hy hv G hG => ?_⟩
  match i with
  | 0 => simp at hy hv; subst hy; subst hv; exact .bool _
  | i + 1 => simp at hy
theorem Opens.string (ht : P.underlying t = some .string) : Opens P t ByteArray (fun _ => True) (fun s => [.str s]) (fun s => s.size + 1) := by
  refine ⟨fun {H} enc w fuel cs d ps h => ?_⟩
  obtain ⟨n, rfl, hx, hs⟩ := DataW.trod_string ht h
  have hd : d = .lit (.string n.data.toList) := congrArg Prod.fst hx
  subst hd
  refine ⟨n, trivial, ?_, rfl, fun i y v hy hv G hG => ?_⟩
  · simp only [Rows.uptoBulk, Array.length_toList]
    exact Nat.le_refl _
  · match i with
    | 0 => simp at hy hv; subst hy; subst hv; exact .str _
    | i + 1 => simp at hy
theorem bulk_sum {H : Type} {α : Type} {wt : α → Nat} : ∀ (es : List (DataW H × List MemPlace)) (l : List α), l.length = es.length → (∀ (i : Nat) x e, l[i]? = some x → es[i]? = some e → wt x ≤ Rows.uptoBulk e.1) → (l.map wt).sum ≤ Rows.uptoBulkAll (es.map (·.1))
  | [], [], _, _ => Nat.le_refl _
  | e :: es, x :: l, hl, h => by
    have h1 := h 0 x e rfl rfl
    have h2 := bulk_sum es l (by simpa using hl) fun i y u hy hu => h (i + 1) y u (by simpa using hy) (by simpa using hu)
    simp only [List.map_cons, List.sum_cons, Rows.uptoBulkAll]
    omega
  | [], _ :: _, hl, _ => by simp at hl
  | _ :: _, [], hl, _ => by simp at hl
theorem addr_add (b off i j : Nat) : ((⟨b, off, none⟩ : Addr).add i).add j = ⟨b, off + i + j, none⟩ := by
  unfold Addr.add
  split <;> split <;> simp_all
def wtL {α : Type} (wt : α → Nat) (l : List α) : Nat := (l.map wt).sum + 1
theorem Opens.slice {e : TypeId} {α : Type} {ok : α → Prop} {c : α → List AVal} {wt : α → Nat} {k : Nat} {mk : α → AVal} (ht : P.underlying t = some (.slice e)) (he : Opens P e α ok c wt) (hcell : P.cellsOf e = k) (hk0 : 0 < k)
    (hmk : ∀ x, (mk x).cells = c x) (hk : ∀ x, (c x).length = k) (hone : ∀ x, ∀ y ∈ c x, y.one = true) : Opens P t (List α) (fun l => ∀ x ∈ l, ok x) (fun l => [.sl k (l.map mk)]) (wtL wt) := by
  refine ⟨fun {H} enc w fuel cs d ps h => ?_⟩
  rcases DataW.trod_slice ht h with ⟨rfl, hx⟩ | ⟨a, len, cap, elems, rest, m, _, rfl, hx, hb, hl, hm, hlen, hel, _, _⟩
  · have hd : d = .nil := congrArg Prod.fst hx
    subst hd
    refine ⟨[], by simp, by simp [wtL, Rows.uptoBulk], rfl, fun i y v hy hv G hG => ?_⟩
    match i with
    | 0 => simp at hy hv; subst hy; subst hv; exact .slnil k
    | i + 1 => simp at hy
  · have hd : d = .slice (elems.map (·.1)) (rest.map (·.1)) := congrArg Prod.fst hx
    subst hd
    obtain ⟨b, off, sp⟩ := a
    rcases Nat.eq_zero_or_pos len with h0 | h0
    · subst h0
      refine ⟨[], by simp, by simp [wtL, Rows.uptoBulk], rfl, fun i y v hy hv G hG => ?_⟩
      match i with
      | 0 => simp at hy hv; subst hy; subst hv; exact .slemp k _ cap
      | i + 1 => simp at hy
    have hspot : sp = none := by
      have h1 := hel 0 h0
      rw [List.getElem?_eq_getElem (by omega), Option.bind_eq_some_iff] at h1
      obtain ⟨cs', h2, h3⟩ := h1
      rw [hcell] at h2
      obtain ⟨_, h4, h5⟩ := World.cells?_some h2
      have h6 := h5 0 hk0
      rw [List.getElem?_eq_getElem (by omega)] at h6
      simp only [Nat.zero_mul, Addr.add, if_true, World.cell?] at h6
      cases sp with
      | none => rfl
      | some q => split at h6 <;> simp at h6
    subst hspot
    rw [hcell] at hel
    have each : ∀ i : _root_.Fin len, ∃ x : α, ok x ∧ (∀ e, elems[i.1]? = some e → wt x ≤ Rows.uptoBulk e.1) ∧ ∀ (j : Nat) (y : AVal), (c x)[j]? = some y → ∃ v, w.cell? ⟨b, off + i.1 * k + j, none⟩ = some v ∧ VR0 w y v := by
      intro i
      have h1 := hel i.1 i.2
      have hi : i.1 < elems.length := by rw [hlen]; exact i.2
      rw [List.getElem?_eq_getElem hi, Option.bind_eq_some_iff] at h1
      obtain ⟨cs', h2, h3⟩ := h1
      obtain ⟨_, h4, h5⟩ := World.cells?_some h2
      obtain ⟨x, ho, hw, hlx, hv⟩ := he.run enc w m cs' elems[i.1].1 elems[i.1].2 h3
      refine ⟨x, ho, fun e he => ?_, fun j y hy => ?_⟩
      · rw [List.getElem?_eq_getElem hi] at he
        cases he
        exact hw
      · have hj : j < k := by
          rw [← hk x]
          rcases Nat.lt_or_ge j (c x).length with h | h
          · exact h
          · rw [List.getElem?_eq_none h] at hy; cases hy
        have h6 := h5 j hj
        rw [addr_add] at h6
        have hjl : j < cs'.length := by omega
        rw [List.getElem?_eq_getElem hjl] at h6
        exact ⟨_, h6, hv j y _ hy (List.getElem?_eq_getElem hjl)⟩
    let l : List α := List.ofFn fun i : _root_.Fin len => (each i).choose
    have hll : l.length = len := by simp [l]
    have hget : ∀ (i : Nat) (hi : i < len), l[i]? = some (each ⟨i, hi⟩).choose := fun i hi => by simp [l, hi]
    refine ⟨l, fun x hx => ?_, ?_, rfl, fun i y v hy hv G hG => ?_⟩
    · obtain ⟨i, rfl⟩ := (List.mem_ofFn).1 hx
      exact (each i).choose_spec.1
    · have := bulk_sum (wt := wt) elems l (by omega) fun i x e hx he => by
        have hi : i < len := by
          rcases Nat.lt_or_ge i len with h | h
          · exact h
          · rw [List.getElem?_eq_none (by omega)] at hx; cases hx
        rw [hget i hi] at hx
        cases hx
        exact (each ⟨i, hi⟩).choose_spec.2.1 e he
      simp only [wtL, Rows.uptoBulk]
      omega
    · match i with
      | i + 1 => simp at hy
      | 0 =>
        simp only [List.getElem?_cons_zero, Option.some.injEq] at hy hv
        subst hy; subst hv
        have hsz : ∀ x ∈ l.map mk, x.cells.length = k := by
          intro x hx
          obtain ⟨z, _, rfl⟩ := List.mem_map.1 hx
          rw [hmk, hk]
        have cellv : ∀ (n : Nat) (x : AVal), (flat (l.map mk))[n]? = some x → ∃ v, w.cell? ⟨b, off + n, none⟩ = some v ∧ VR0 w x v := by
          intro n x hx
          have hn : n < len * k := by
            have h1 := flat_length hsz
            rw [List.length_map, hll] at h1
            rcases Nat.lt_or_ge n (len * k) with h | h
            · exact h
            · rw [List.getElem?_eq_none (by omega)] at hx; cases hx
          have h1 : n / k < len := Nat.div_lt_of_lt_mul (by rw [Nat.mul_comm]; exact hn)
          have h2 : n % k < k := Nat.mod_lt _ hk0
          have h3 := flat_at (sz := k) (xs := l.map mk) (i := n / k) (j := n % k) (x := mk (each ⟨n / k, h1⟩).choose) hsz (by rw [List.getElem?_map, hget _ h1]; rfl) h2
          have e : n / k * k + n % k = n := by rw [Nat.mul_comm]; exact Nat.div_add_mod n k
          rw [e, hmk] at h3
          rw [hx] at h3
          obtain ⟨v, hv, hr⟩ := (each ⟨n / k, h1⟩).choose_spec.2.2 (n % k) x h3.symm
          refine ⟨v, ?_, hr⟩
          rw [← hv]
          congr 2
          simp only
          omega
        have e0 : (l.map mk).length = len := by simp [hll]
        have hsl : VR (Dm NoM) G (fun _ => False) w (.sl k (l.map mk)) (.slice (some ⟨b, off, none⟩) (l.map mk).length cap) := by
          refine .sl k (l.map mk) b off cap (fun n => (w.cell? ⟨b, off + n, none⟩).getD undef) (by omega) (fun _ => ⟨fun h => h, hG b⟩) (fun x hx => ?_) hsz (fun n x hx => ?_) (fun n x hx => ?_)
          · obtain ⟨z, hz, hx⟩ := List.mem_flatMap.1 hx
            obtain ⟨q, _, rfl⟩ := List.mem_map.1 hz
            rw [hmk] at hx
            exact hone q x hx
          · obtain ⟨v, hv, _⟩ := cellv n x hx
            rw [hv]; rfl
          · obtain ⟨v, hv, hr⟩ := cellv n x hx
            simp only [hv, Option.getD_some]
            exact hr G hG
        rw [e0] at hsl
        exact hsl
def OpensF (P : Program) (fs : List Field) (off tot : Nat) (α : Type) (ok : α → Prop) (c : α → List AVal) (wt : α → Nat) : Prop :=
  (∀ x, (c x).length = tot) ∧
  ∀ {H : Type} (enc : TypeId × Value → H) (w : World) (m : Nat) (cs : List Value) (xs : List (DataW H × List MemPlace)), xs.length = fs.length → off + tot ≤ cs.length →
    (∀ (i : Nat) (f : Field), fs[i]? = some f → DataW.trod enc P w 0 (fun _ => true) true m f.type ((cs.drop f.offset).take (P.cellsOf f.type)) = xs[i]?) →
    ∃ x : α, ok x ∧ wt x ≤ Rows.uptoBulkAll (xs.map (·.1)) ∧ ∀ (n : Nat) (y : AVal) (v : Value), (c x)[n]? = some y → cs[off + n]? = some v → VR0 w y v
theorem OpensF.nil (off : Nat) : OpensF P [] off 0 Unit (fun _ => True) (fun _ => []) (fun _ => 0) :=
  ⟨fun _ => rfl, fun enc w m cs xs hl _ _ => ⟨(), trivial, Nat.zero_le _, fun n y v hy => by simp at hy⟩⟩
theorem OpensF.cons {f : Field} {fs : List Field} {off k tot : Nat} {α β : Type} {ok : α → Prop} {ok' : β → Prop} {c : α → List AVal} {c' : β → List AVal} {wt : α → Nat} {wt' : β → Nat}
    (h1 : Opens P f.type α ok c wt) (hk : ∀ x, (c x).length = k) (hc : P.cellsOf f.type = k) (ho : f.offset = off) (h2 : OpensF P fs (off + k) tot β ok' c' wt') :
    OpensF P (f :: fs) off (k + tot) (α × β) (fun x => ok x.1 ∧ ok' x.2) (fun x => c x.1 ++ c' x.2) (fun x => wt x.1 + wt' x.2) := by
  refine ⟨fun x => by rw [List.length_append, hk, h2.1], fun {H} enc w m cs xs hl hlen hx => ?_⟩
  cases xs with
  | nil => simp at hl
  | cons x0 xs =>
    have hx0 := hx 0 f rfl
    simp only [List.getElem?_cons_zero] at hx0
    rw [ho, hc] at hx0
    obtain ⟨x, a1, a2, a3, a4⟩ := h1.run enc w m _ x0.1 x0.2 hx0
    obtain ⟨y, b1, b2, b3⟩ := h2.2 enc w m cs xs (by simpa using hl) (by omega) (fun i g hg => by simpa using hx (i + 1) g (by simpa using hg))
    refine ⟨(x, y), ⟨a1, b1⟩, ?_, fun n z v hz hv => ?_⟩
    · simp only [List.map_cons, Rows.uptoBulkAll]
      omega
    · rcases Nat.lt_or_ge n k with hn | hn
      · rw [List.getElem?_append_left (by rw [hk]; exact hn)] at hz
        refine a4 n z v hz ?_
        rw [List.getElem?_take, if_pos hn, List.getElem?_drop]
        exact hv
      · rw [List.getElem?_append_right (by rw [hk]; exact hn), hk] at hz
        refine b3 (n - k) z v hz ?_
        rw [show off + k + (n - k) = off + n by omega]
        exact hv
theorem Opens.struct {fs : Array Field} {tot : Nat} {α : Type} {ok : α → Prop} {c : α → List AVal} {wt : α → Nat} (ht : P.underlying t = some (.struct fs)) (hc : P.cellsOf t = tot) (h : OpensF P fs.toList 0 tot α ok c wt) :
    Opens P t α ok c (fun x => wt x + 1) := by
  refine ⟨fun {H} enc w fuel cs d ps hd => ?_⟩
  obtain ⟨xs, n, _, hx, hl, hxl, hf⟩ := DataW.trod_struct ht hd
  have hd : d = .agg (xs.map (·.1)) := congrArg Prod.fst hx
  subst hd
  obtain ⟨x, h1, h2, h3⟩ := h.2 enc w n cs xs (by simpa using hxl) (by omega) (fun i f hi => hf i f (by simpa using hi))
  refine ⟨x, h1, by simp only [Rows.uptoBulk]; omega, by rw [h.1, hl, hc], fun i y v hy hv => h3 i y v hy (by simpa using hv)⟩
theorem Opens.map {α β : Type} {ok : α → Prop} {c : α → List AVal} {wt : α → Nat} {ok' : β → Prop} {c' : β → List AVal} {wt' : β → Nat} (h : Opens P t α ok c wt) (g : α → β) (h1 : ∀ x, ok x → ok' (g x)) (h2 : ∀ x, c' (g x) = c x) (h3 : ∀ x, wt' (g x) ≤ wt x) :
    Opens P t β ok' c' wt' := by
  refine ⟨fun {H} enc w fuel cs d ps hd => ?_⟩
  obtain ⟨x, a1, a2, a3, a4⟩ := h.run enc w fuel cs d ps hd
  exact ⟨g x, h1 x a1, Nat.le_trans (h3 x) a2, by rw [h2]; exact a3, by rw [h2]; exact a4⟩
end
section
variable {P : Program} {t : TypeId}
def OpensV (P : Program) (t : TypeId) (α : Type) (ok : α → Prop) (mk : α → AVal) (wt : α → Nat) : Prop :=
  ∀ {H : Type} (enc : TypeId × Value → H) (w : World) (base fuel : Nat) (v : Value) (d : DataW H) (ps : List MemPlace), Value.okWide P w .any base t v →
    DataW.trod enc P w 0 (fun _ => true) true fuel t v.cells.toList = some (d, ps) → ∃ x : α, ok x ∧ wt x ≤ Rows.uptoBulk d ∧ VR0 w (mk x) v
theorem Opens.agg {α : Type} {ok : α → Prop} {c : α → List AVal} {wt : α → Nat} {fs : Array Field} (h : Opens P t α ok c wt) (ht : P.underlying t = some (.struct fs)) : OpensV P t α ok (fun x => .agg (c x)) wt := by
  intro H enc w base fuel v d ps hok hd
  unfold Value.okWide at hok
  rw [ht] at hok
  obtain ⟨cs, rfl, hsz, _⟩ := hok
  obtain ⟨x, x1, x2, x3, x4⟩ := h.run enc w fuel cs.toList d ps (by simpa [Value.cells] using hd)
  exact ⟨x, x1, x2, fun G hG => .agg _ _ (by simpa using x3) fun n z u hz hu => x4 n z u hz (by simpa using hu) G hG⟩
theorem Opens.one {α : Type} {ok : α → Prop} {mk : α → AVal} {wt : α → Nat} {u : TypeDesc} (h : Opens P t α ok (fun x => [mk x]) wt) (ht : P.underlying t = some u) (hu : (match u with | .struct _ | .array _ _ => False | _ => True)) : OpensV P t α ok mk wt := by
  intro H enc w base fuel v d ps hok hd
  have hv : v.cells.toList = [v] := by
    cases v <;> first | rfl | skip
    unfold Value.okWide at hok
    rw [ht] at hok
    cases u <;> first | exact hu.elim | (simp [Cell.okWide, Cell.ok, ht] at hok; done)
  rw [hv] at hd
  obtain ⟨x, x1, x2, x3, x4⟩ := h.run enc w fuel [v] d ps hd
  exact ⟨x, x1, x2, x4 0 (mk x) v rfl rfl⟩
def OpensA (P : Program) (ts : List TypeId) (α : Type) (ok : α → Prop) (l : α → List AVal) (wt : α → Nat) : Prop :=
  ∀ {H : Type} (enc : TypeId × Value → H) (w : World) (base : Nat) (vs : List Value) (ds : List (DataW H)) (ps : List MemPlace), (∀ (j : Nat) t v, ts[j]? = some t → vs[j]? = some v → Value.okWide P w .any base t v) →
    DataW.TrodAll enc P w 0 (fun _ => true) true ts vs ds ps → ∃ x : α, ok x ∧ wt x ≤ Rows.uptoBulkAll ds ∧ vs.length = (l x).length ∧ ∀ (n : Nat) (y : AVal) (v : Value), (l x)[n]? = some y → vs[n]? = some v → VR0 w y v
theorem OpensA.nil : OpensA P [] Unit (fun _ => True) (fun _ => []) (fun _ => 0) := by
  intro H enc w base vs ds ps _ h
  obtain ⟨rfl, rfl, rfl⟩ := trodAll_nil h
  exact ⟨(), trivial, Nat.zero_le _, rfl, fun n y v hy => by simp at hy⟩
theorem OpensA.cons {ts : List TypeId} {α β : Type} {ok : α → Prop} {ok' : β → Prop} {mk : α → AVal} {l : β → List AVal} {wt : α → Nat} {wt' : β → Nat} (h1 : OpensV P t α ok mk wt) (h2 : OpensA P ts β ok' l wt') :
    OpensA P (t :: ts) (α × β) (fun x => ok x.1 ∧ ok' x.2) (fun x => mk x.1 :: l x.2) (fun x => wt x.1 + wt' x.2) := by
  intro H enc w base vs ds ps hok h
  obtain ⟨v, vs', d, ds', p, q, rfl, rfl, rfl, ⟨fuel, hd⟩, hr⟩ := trodAll_cons h
  obtain ⟨x, x1, x2, x3⟩ := h1 enc w base fuel v d p (hok 0 t v rfl rfl) hd
  obtain ⟨y, y1, y2, y3, y4⟩ := h2 enc w base vs' ds' q (fun j t' v' ht hv => hok (j + 1) t' v' (by simpa using ht) (by simpa using hv)) hr
  refine ⟨(x, y), ⟨x1, y1⟩, ?_, by simpa using y3, fun n z u hz hu => ?_⟩
  · simp only [Rows.uptoBulkAll]
    omega
  · match n with
    | 0 => simp at hz hu; subst hz; subst hu; exact x3
    | n + 1 => exact y4 n z u (by simpa using hz) (by simpa using hu)
theorem OpensA.map {ts : List TypeId} {α β : Type} {ok : α → Prop} {ok' : β → Prop} {l : α → List AVal} {l' : β → List AVal} {wt : α → Nat} {wt' : β → Nat} (h : OpensA P ts α ok l wt) (g : α → β) (h1 : ∀ x, ok x → ok' (g x)) (h2 : ∀ x, l' (g x) = l x) (h3 : ∀ x, wt' (g x) ≤ wt x) :
    OpensA P ts β ok' l' wt' := by
  intro H enc w base vs ds ps hok ht
  obtain ⟨x, x1, x2, x3, x4⟩ := h enc w base vs ds ps hok ht
  exact ⟨g x, h1 x x1, Nat.le_trans (h3 x) x2, by rw [h2]; exact x3, by rw [h2]; exact x4⟩
end
theorem below_all {H : Type} {enc : TypeId × Value → H} {P : Program} (hl : laidOutB P = true) {W W' : World} (hb : Below W.heap.size W W') : ∀ {ts : List TypeId} {vs : List Value} {ds : List (DataW H)} {ps : List MemPlace}, (∀ t ∈ ts, P.readableRec t = true ∧ t < P.types.size) →
    DataW.TrodAll enc P W 0 (fun _ => true) true ts vs ds ps → (∀ x ∈ ps, x.block < W.heap.size) → DataW.TrodAll enc P W' 0 (fun b => decide (b < W.heap.size)) true ts vs ds ps
  | [], vs, ds, ps, _, h, _ => by
    obtain ⟨rfl, rfl, rfl⟩ := trodAll_nil h
    exact trodAll_mk0
  | t :: ts, vs, ds, ps, hr, h, hlt => by
    obtain ⟨v, vs', d, ds', p, q, rfl, rfl, rfl, hd, hrest⟩ := trodAll_cons h
    have h1 := hr t (by simp)
    exact trodAll_cons_mk (Below.trod hl h1.1 h1.2 hd hb fun x hx => hlt x (by simp [hx])) (below_all hl hb (fun t' ht' => hr t' (by simp [ht'])) hrest fun x hx => hlt x (by simp [hx]))
theorem contract_all {P : Program} {f : FuncId} {fn : Func} {α : Type} {ok : α → Prop} {l : α → List AVal} {wt : α → Nat} {s : ChangeSpec} (hfn : P.funcs[f]? = some fn) (hr : fn.resultTypes = #[4]) (hb : P.underlying 4 = some .bool)
    (hl : laidOutB P = true) (hre : ∀ t ∈ fn.params.toList, P.readableRec t = true ∧ t < P.types.size) (hvars : s.vars = [])
    (hsfn : ∀ (H : Type) (ds : List (DataW H)), ds.length = fn.params.size → s.fn H ds = { results := [.lit (.bool true)], args := ds })
    (ho : OpensA P fn.params.toList α ok l wt) (hEv : ∀ x, ok x → wt x ≤ 1048576 → Ev P f (l x) (.ret (.bool true)))
    (H : Type) (enc : TypeId × Value → H) (W : World) (base : Nat) (args : Array Value) (ds gs : List (DataW H)) (before : List MemPlace)
    (hval : ∀ (j : Nat) t v, fn.params[j]? = some t → args[j]? = some v → Value.okWide P W .any base t v)
    (hW : DataW.Whole enc P fn.params.toList s.vars false W args.toList ds gs before) (hk : Rows.uptoSmall H (ds ++ gs) = true) :
    Calls P f args W fun e W' => ∃ v, e = .returned v ∧ s.post enc P fn false true false false W args v W' := by
  have hW' := hW
  obtain ⟨p, q, hA, hV, rfl, hfz, hnd⟩ := hW
  rw [hvars] at hV
  obtain ⟨rfl, rfl⟩ := trodVars_none hV
  obtain ⟨x, x1, x2, x3, x4⟩ := ho enc W base args.toList ds p (fun j t v ht hv => hval j t v (by simpa using ht) (by simpa using hv)) hA
  have hlen : ds.length = fn.params.size := by
    have : ∀ (ts : List TypeId) (vs : List Value) (ds : List (DataW H)) (ps : List MemPlace), DataW.TrodAll enc P W 0 (fun _ => true) true ts vs ds ps → ds.length = ts.length := by
      intro ts
      induction ts with
      | nil => intro vs ds ps h; obtain ⟨_, rfl, _⟩ := trodAll_nil h; rfl
      | cons t ts ih =>
        intro vs ds ps h
        obtain ⟨v, vs', d, ds', p, q, rfl, rfl, rfl, _, hr⟩ := trodAll_cons h
        simp [ih _ _ _ hr]
    simpa using this _ _ _ _ hA
  have hsmall : Rows.uptoBulkAll ds ≤ 1048576 := by
    have : Rows.uptoBulkAll (ds ++ []) ≤ 1048576 := of_decide_eq_true hk
    simpa using this
  have hcall := (hEv x x1 (by omega)).2 (fun _ => False) W args ⟨fun _ => 0, fun _ _ => .int .i64 0, fun _ => none, fun _ _ => rfl⟩ (fun _ => rfl) (by simpa using x3) (fun i y v hy hv => x4 i y v hy (by simpa using hv) _ (fun _ => rfl)) (fun _ h => h.elim)
  refine hcall.mono ?_
  rintro e W' ⟨G', v', hG', hAdv, he, hr'⟩
  cases hr'
  subst he
  have hbel : Below W.heap.size W W' := ⟨hAdv.os.1, hAdv.tape, hAdv.output, hAdv.size, fun b hb => (hAdv.keep b hb rfl).1⟩
  have hlt : ∀ z ∈ p, z.block < W.heap.size := fun z hz => by simpa using hW'.lt z (by simpa using hz)
  refine ⟨.bool true, rfl, ds, [], p ++ [], [], p, [], hW', ?_, ?_, ?_, hbel.frame _, fun h => by cases h⟩
  · rw [hr, List.append_nil, hsfn H ds hlen]
    exact trodAll_cons_mk (p' := []) (shut_bool hb _) trodAll_mk0
  · rw [List.append_nil, hsfn H ds hlen]
    exact below_all hl hbel hre hA hlt
  · rw [hvars, List.append_nil, hsfn H ds hlen]
    rfl
theorem contract_of {P : Program} {f : FuncId} {fn : Func} {t : TypeId} {fs : Array Field} {α : Type} {ok : α → Prop} {c : α → List AVal} {wt : α → Nat} {s : ChangeSpec} (hfn : P.funcs[f]? = some fn) (hp : fn.params = #[t]) (hr : fn.resultTypes = #[4]) (hb : P.underlying 4 = some .bool)
    (ht : P.underlying t = some (.struct fs)) (hl : laidOutB P = true) (hre : P.readableRec t = true) (hrow : t < P.types.size) (hvars : s.vars = [])
    (hsfn : ∀ (H : Type) (d : DataW H), s.fn H [d] = { results := [.lit (.bool true)], args := [d] })
    (ho : Opens P t α ok c wt) (hEv : ∀ x, ok x → wt x ≤ 1048576 → Ev P f [.agg (c x)] (.ret (.bool true)))
    (H : Type) (enc : TypeId × Value → H) (W : World) (base : Nat) (args : Array Value) (ds gs : List (DataW H)) (before : List MemPlace)
    (hval : ∀ (j : Nat) t v, fn.params[j]? = some t → args[j]? = some v → Value.okWide P W .any base t v)
    (hW : DataW.Whole enc P fn.params.toList s.vars false W args.toList ds gs before) (hk : Rows.uptoSmall H (ds ++ gs) = true) :
    Calls P f args W fun e W' => ∃ v, e = .returned v ∧ s.post enc P fn false true false false W args v W' :=
  contract_all (α := α × Unit) (l := fun x => [.agg (c x.1)]) (wt := fun x => wt x.1 + 0) hfn hr hb hl (by rw [hp]; intro t' h'; simp at h'; subst h'; exact ⟨hre, hrow⟩) hvars
    (fun H ds h => by
      rw [hp] at h
      match ds, h with
      | [d], _ => exact hsfn H d)
    (by rw [hp]; exact OpensA.cons (ho.agg ht) OpensA.nil) (ok := fun x => ok x.1 ∧ True) (fun (x : α × Unit) (hx : ok x.1 ∧ True) hw => hEv x.1 hx.1 hw) H enc W base args ds gs before hval hW hk
end Go.Proofs.Ytdmfjkhbodbgoaa.Avm

namespace Go.Proofs.Ytdmfjkhbodbgoaa.Avm
open Go.Proofs
theorem cells_int : Try.prog.cellsOf 3 = 1 := by kernel_rfl
theorem cells_ints : Try.prog.cellsOf 22 = 1 := by kernel_rfl
theorem cells_spans : Try.prog.cellsOf 23 = 1 := by kernel_rfl
theorem cells_dots : Try.prog.cellsOf 26 = 1 := by kernel_rfl
theorem cells_Span : Try.prog.cellsOf 41 = 3 := by kernel_rfl
theorem cells_Dot : Try.prog.cellsOf 32 = 2 := by kernel_rfl
theorem cells_Past : Try.prog.cellsOf 25 = 2 := by kernel_rfl
theorem op_int : Opens Try.prog 3 Int inI64 (fun n => [.int .i64 n]) (fun _ => 1) := Opens.int Try.underlying3
theorem op_ints : Opens Try.prog 22 (List Int) (fun l => ∀ x ∈ l, inI64 x) (fun l => [.sl 1 (encIs l)]) (wtL fun _ => 1) :=
  Opens.slice (mk := encI) Try.underlying22 op_int cells_int (by decide) (fun _ => rfl) (fun _ => rfl) (fun x y hy => by simp at hy; subst hy; rfl)
def okS (s : Sn) : Prop := inI64 s.1 ∧ inI64 s.2.1 ∧ inI64 s.2.2
theorem op_Span : Opens Try.prog 41 Sn okS (fun s => [.int .i64 s.1, .int .i64 s.2.1, .int .i64 s.2.2]) (fun _ => 1) :=
  (Opens.struct Try.underlying41 cells_Span (OpensF.cons (k := 1) op_int (fun _ => rfl) cells_int rfl (OpensF.cons (k := 1) op_int (fun _ => rfl) cells_int rfl (OpensF.cons (k := 1) op_int (fun _ => rfl) cells_int rfl (OpensF.nil _))))).map
    (fun x => (x.1, x.2.1, x.2.2.1)) (fun x h => ⟨h.1, h.2.1, h.2.2.1⟩) (fun _ => rfl) (fun _ => Nat.le_add_left _ _)
theorem op_spans : Opens Try.prog 23 (List Sn) (fun l => ∀ x ∈ l, okS x) (fun l => [.sl 3 (encSs l)]) (wtL fun _ => 1) :=
  Opens.slice (mk := encS) Try.underlying23 op_Span
    cells_Span (by decide) (fun _ => rfl) (fun _ => rfl) (fun x y hy => by simp at hy; rcases hy with rfl | rfl | rfl <;> rfl)
def okD (s : Rn) : Prop := inI64 s.1 ∧ inI64 s.2
theorem op_Dot : Opens Try.prog 32 Rn okD (fun x => [.int .i64 x.1, .int .i64 x.2]) (fun _ => 1) :=
  (Opens.struct Try.underlying32 cells_Dot (OpensF.cons (k := 1) op_int (fun _ => rfl) cells_int rfl (OpensF.cons (k := 1) op_int (fun _ => rfl) cells_int rfl (OpensF.nil _)))).map
    (fun x => (x.1, x.2.1)) (fun x h => ⟨h.1, h.2.1⟩) (fun _ => rfl) (fun _ => Nat.le_add_left _ _)
theorem op_dots : Opens Try.prog 26 (List Rn) (fun l => ∀ x ∈ l, okD x) (fun l => [.sl 2 (encRs l)]) (wtL fun _ => 1) :=
  Opens.slice (mk := encR) Try.underlying26 op_Dot cells_Dot (by decide) (fun _ => rfl) (fun _ => rfl) (fun x y hy => by simp at hy; rcases hy with rfl | rfl <;> rfl)
def okP (p : Pst) : Prop := (∀ x ∈ p.vec, inI64 x) ∧ ∀ s ∈ p.cloud, okS s
theorem wtL_one {α : Type} (l : List α) : wtL (fun _ => 1) l = l.length + 1 := by
  unfold wtL
  induction l with
  | nil => rfl
  | cons x l ih => simp only [List.map_cons, List.sum_cons, List.length_cons]; omega
theorem op_Past : Opens Try.prog 25 Pst okP (fun p => [.sl 1 (encIs p.vec), .sl 3 (encSs p.cloud)]) wt :=
  (Opens.struct Try.underlying25 cells_Past (OpensF.cons (k := 1) op_ints (fun _ => rfl) cells_ints rfl (OpensF.cons (k := 1) op_spans (fun _ => rfl) cells_spans rfl (OpensF.nil _)))).map (fun x => ⟨x.1, x.2.1⟩) (fun x h => ⟨h.1, h.2.1⟩) (fun _ => rfl)
    (fun x => by show x.1.length + x.2.1.length ≤ wtL (fun _ => 1) x.1 + (wtL (fun _ => 1) x.2.1 + 0) + 1; rw [wtL_one, wtL_one]; omega)
structure Cas where
  a : Pst
  b : Pst
  c : Pst
  ds : List Rn
  rep : Int
  most : Int
def encC (x : Cas) : AVal := .agg [.sl 1 (encIs x.a.vec), .sl 3 (encSs x.a.cloud), .sl 1 (encIs x.b.vec), .sl 3 (encSs x.b.cloud), .sl 1 (encIs x.c.vec), .sl 3 (encSs x.c.cloud), .sl 2 (encRs x.ds), .int .i64 x.rep, .int .i64 x.most]
theorem cells_Case : Try.prog.cellsOf 28 = 9 := by kernel_rfl
def okC (x : Cas) : Prop := okP x.a ∧ okP x.b ∧ okP x.c ∧ (∀ d ∈ x.ds, okD d) ∧ inI64 x.rep ∧ inI64 x.most
def cellsC (x : Cas) : List AVal := [.sl 1 (encIs x.a.vec), .sl 3 (encSs x.a.cloud), .sl 1 (encIs x.b.vec), .sl 3 (encSs x.b.cloud), .sl 1 (encIs x.c.vec), .sl 3 (encSs x.c.cloud), .sl 2 (encRs x.ds), .int .i64 x.rep, .int .i64 x.most]
def wtC (x : Cas) : Nat := wt x.a + wt x.b + wt x.c + x.ds.length
theorem op_Case : Opens Try.prog 28 Cas okC cellsC wtC :=
  (Opens.struct Try.underlying28 cells_Case (OpensF.cons (k := 2) op_Past (fun _ => rfl) cells_Past rfl (OpensF.cons (k := 2) op_Past (fun _ => rfl) cells_Past rfl (OpensF.cons (k := 2) op_Past (fun _ => rfl) cells_Past rfl
    (OpensF.cons (k := 1) op_dots (fun _ => rfl) cells_dots rfl (OpensF.cons (k := 1) op_int (fun _ => rfl) cells_int rfl (OpensF.cons (k := 1) op_int (fun _ => rfl) cells_int rfl (OpensF.nil _)))))))).map
    (fun x => ⟨x.1, x.2.1, x.2.2.1, x.2.2.2.1, x.2.2.2.2.1, x.2.2.2.2.2.1⟩) (fun x h => ⟨h.1, h.2.1, h.2.2.1, h.2.2.2.1, h.2.2.2.2.1, h.2.2.2.2.2.1⟩) (fun _ => rfl)
    (fun x => by
      show wt x.1 + wt x.2.1 + wt x.2.2.1 + x.2.2.2.1.length ≤ wt x.1 + (wt x.2.1 + (wt x.2.2.1 + (wtL (fun _ => 1) x.2.2.2.1 + (1 + (1 + 0))))) + 1
      rw [wtL_one]; omega)
theorem own : ownKnob Try.prog.godebug = none := by kernel_rfl
end Go.Proofs.Ytdmfjkhbodbgoaa.Avm

namespace Go.Proofs.Ytdmfjkhbodbgoaa.Avm
open Go.Proofs
def r_law04meant_1 : List SOp :=
  [⟨(some 2), (.box 25 (.tmp 0)), none⟩, ⟨(some 3), (.box 32 (.tmp 1)), none⟩, ⟨(some 4), (.assign (.const (.bool false))), none⟩]
instance : Live r_law04meant_1 := ⟨[0, 1]⟩
def r_law04meant_2 : List SOp :=
  [⟨(some 6), (.fieldAddr 32 (.tmp 3) 0), none⟩, ⟨(some 7), (.load 3 (.tmp 6)), none⟩, ⟨(some 8), (.binOp .lss 3 (.tmp 7) (.const (.int .i64 0)) 3), none⟩, ⟨(some 9), (.move (.tmp 8)), none⟩, ⟨(some 10), (.fieldAddr 32 (.tmp 3) 0), (some ((some 9), false))⟩, ⟨(some 11), (.load 3 (.tmp 10)), (some ((some 9), false))⟩, ⟨(some 12), (.binOp .gtr 3 (.tmp 11) (.const (.int .i64 15)) 3), (some ((some 9), false))⟩, ⟨(some 13), (.pick (.tmp 9) (.const (.bool true)) (.tmp 12)), none⟩, ⟨(some 14), (.move (.tmp 13)), none⟩, ⟨(some 15), (.fieldAddr 32 (.tmp 3) 1), (some ((some 14), false))⟩, ⟨(some 16), (.load 3 (.tmp 15)), (some ((some 14), false))⟩, ⟨(some 17), (.binOp .lss 3 (.tmp 16) (.const (.int .i64 1)) 3), (some ((some 14), false))⟩, ⟨(some 18), (.pick (.tmp 14) (.const (.bool true)) (.tmp 17)), none⟩, ⟨(some 19), (.move (.tmp 18)), none⟩, ⟨(some 20), (.fieldAddr 32 (.tmp 3) 1), (some ((some 19), false))⟩, ⟨(some 21), (.load 3 (.tmp 20)), (some ((some 19), false))⟩, ⟨(some 22), (.binOp .gtr 3 (.tmp 21) (.const (.int .i64 1000000000)) 3), (some ((some 19), false))⟩, ⟨(some 23), (.pick (.tmp 19) (.const (.bool true)) (.tmp 22)), none⟩]
instance : Live r_law04meant_2 := ⟨[2, 3]⟩
def r_law04meant_3 : List SOp :=
  [⟨(some 4), (.assign (.const (.bool false))), none⟩]
instance : Live r_law04meant_3 := ⟨[]⟩
def r_law04meant_4 : List SOp :=
  [⟨(some 24), (.fieldAddr 32 (.tmp 3) 0), none⟩, ⟨(some 25), (.load 3 (.tmp 24)), none⟩, ⟨(some 26), (.fieldAddr 25 (.tmp 2) 0), none⟩, ⟨(some 27), (.load 22 (.tmp 26)), none⟩, ⟨(some 28), (.call ⟨.builtin .len, #[.tmp 27], #[22]⟩), none⟩, ⟨(some 29), (.binOp .lss 3 (.tmp 25) (.tmp 28) 3), none⟩, ⟨(some 30), (.move (.tmp 29)), none⟩, ⟨(some 31), (.fieldAddr 32 (.tmp 3) 1), (some ((some 30), true))⟩, ⟨(some 32), (.load 3 (.tmp 31)), (some ((some 30), true))⟩, ⟨(some 33), (.fieldAddr 25 (.tmp 2) 0), (some ((some 30), true))⟩, ⟨(some 34), (.load 22 (.tmp 33)), (some ((some 30), true))⟩, ⟨(some 35), (.fieldAddr 32 (.tmp 3) 0), (some ((some 30), true))⟩, ⟨(some 36), (.load 3 (.tmp 35)), (some ((some 30), true))⟩, ⟨(some 37), (.indexAddr 22 (.tmp 34) (.tmp 36)), (some ((some 30), true))⟩, ⟨(some 38), (.load 3 (.tmp 37)), (some ((some 30), true))⟩, ⟨(some 39), (.binOp .leq 3 (.tmp 32) (.tmp 38) 3), (some ((some 30), true))⟩, ⟨(some 40), (.pick (.tmp 30) (.tmp 39) (.const (.bool false))), none⟩]
instance : Live r_law04meant_4 := ⟨[2, 3]⟩
def r_law04meant_5 : List SOp :=
  [⟨(some 4), (.assign (.const (.bool true))), none⟩]
instance : Live r_law04meant_5 := ⟨[]⟩
def r_law04meant_6 : List SOp :=
  [⟨(some 5), (.assign (.const (.int .i64 0))), none⟩]
instance : Live r_law04meant_6 := ⟨[2, 3]⟩
def r_law04meant_7 : List SOp :=
  [⟨(some 41), (.move (.tmp 5)), none⟩, ⟨(some 42), (.fieldAddr 25 (.tmp 2) 1), none⟩, ⟨(some 43), (.load 23 (.tmp 42)), none⟩, ⟨(some 44), (.call ⟨.builtin .len, #[.tmp 43], #[23]⟩), none⟩, ⟨(some 45), (.binOp .lss 3 (.tmp 41) (.tmp 44) 3), none⟩]
instance : Live r_law04meant_7 := ⟨[2, 3, 5]⟩
def r_law04meant_8 : List SOp :=
  [⟨(some 48), (.fieldAddr 25 (.tmp 2) 1), none⟩, ⟨(some 49), (.load 23 (.tmp 48)), none⟩, ⟨(some 50), (.move (.tmp 5)), none⟩, ⟨(some 51), (.indexAddr 23 (.tmp 49) (.tmp 50)), none⟩, ⟨(some 52), (.fieldAddr 41 (.tmp 51) 0), none⟩, ⟨(some 53), (.load 3 (.tmp 52)), none⟩, ⟨(some 54), (.fieldAddr 32 (.tmp 3) 0), none⟩, ⟨(some 55), (.load 3 (.tmp 54)), none⟩, ⟨(some 56), (.binOp .eql 3 (.tmp 53) (.tmp 55) 3), none⟩, ⟨(some 57), (.move (.tmp 56)), none⟩, ⟨(some 58), (.fieldAddr 25 (.tmp 2) 1), (some ((some 57), true))⟩, ⟨(some 59), (.load 23 (.tmp 58)), (some ((some 57), true))⟩, ⟨(some 60), (.move (.tmp 5)), (some ((some 57), true))⟩, ⟨(some 61), (.indexAddr 23 (.tmp 59) (.tmp 60)), (some ((some 57), true))⟩, ⟨(some 62), (.fieldAddr 41 (.tmp 61) 1), (some ((some 57), true))⟩, ⟨(some 63), (.load 3 (.tmp 62)), (some ((some 57), true))⟩, ⟨(some 64), (.fieldAddr 32 (.tmp 3) 1), (some ((some 57), true))⟩, ⟨(some 65), (.load 3 (.tmp 64)), (some ((some 57), true))⟩, ⟨(some 66), (.binOp .leq 3 (.tmp 63) (.tmp 65) 3), (some ((some 57), true))⟩, ⟨(some 67), (.pick (.tmp 57) (.tmp 66) (.const (.bool false))), none⟩, ⟨(some 68), (.move (.tmp 67)), none⟩, ⟨(some 69), (.fieldAddr 32 (.tmp 3) 1), (some ((some 68), true))⟩, ⟨(some 70), (.load 3 (.tmp 69)), (some ((some 68), true))⟩, ⟨(some 71), (.fieldAddr 25 (.tmp 2) 1), (some ((some 68), true))⟩, ⟨(some 72), (.load 23 (.tmp 71)), (some ((some 68), true))⟩, ⟨(some 73), (.move (.tmp 5)), (some ((some 68), true))⟩, ⟨(some 74), (.indexAddr 23 (.tmp 72) (.tmp 73)), (some ((some 68), true))⟩, ⟨(some 75), (.fieldAddr 41 (.tmp 74) 2), (some ((some 68), true))⟩, ⟨(some 76), (.load 3 (.tmp 75)), (some ((some 68), true))⟩, ⟨(some 77), (.binOp .leq 3 (.tmp 70) (.tmp 76) 3), (some ((some 68), true))⟩, ⟨(some 78), (.pick (.tmp 68) (.tmp 77) (.const (.bool false))), none⟩]
instance : Live r_law04meant_8 := ⟨[2, 3, 5]⟩
def r_law04meant_9 : List SOp :=
  [⟨(some 4), (.assign (.const (.bool true))), none⟩]
instance : Live r_law04meant_9 := ⟨[]⟩
def r_law04meant_10 : List SOp :=
  [⟨(some 46), (.move (.tmp 5)), none⟩, ⟨(some 47), (.binOp .add 3 (.tmp 46) (.const (.int .i64 1)) 3), none⟩, ⟨(some 5), (.assign (.tmp 47)), none⟩]
instance : Live r_law04meant_10 := ⟨[2, 3, 5]⟩
def r_law04meant_11 : List SOp :=
  [⟨(some 4), (.assign (.const (.bool false))), none⟩]
instance : Live r_law04meant_11 := ⟨[]⟩
def t_law04meant_l1 : SC :=
  (.seq (.seq (.ops false r_law04meant_7) (.cond (.tmp 45) .skip (.exit 0))) (.seq (.block 1 (.seq (.ops true r_law04meant_8) (.cond (.tmp 78) (.seq (.ops false r_law04meant_9) .ret) .skip))) (.ops false r_law04meant_10)))
def t_law04meant : SC :=
  (.seq (.ops false r_law04meant_1) (.seq (.seq (.ops false r_law04meant_2) (.cond (.tmp 23) (.seq (.ops false r_law04meant_3) .ret) .skip)) (.seq (.seq (.ops true r_law04meant_4) (.cond (.tmp 40) (.seq (.ops false r_law04meant_5) .ret) .skip)) (.seq (.seq (.ops false r_law04meant_6) (.block 0 (.loop t_law04meant_l1))) (.seq (.ops false r_law04meant_11) .ret)))))
theorem it_law04meant : FnIs Try.prog 29 79 [.tmp 4] t_law04meant := ⟨Try.f29, _, Try.func29, rfl, rfl, rfl, rfl, by kernel_rfl⟩
end Go.Proofs.Ytdmfjkhbodbgoaa.Avm

namespace Go.Proofs.Ytdmfjkhbodbgoaa.Avm
open Go.Proofs
def r_law04dotsOf_1 : List SOp :=
  [⟨(some 1), (.box 28 (.tmp 0)), none⟩, ⟨(some 2), (.assign (.const (.slice none 0 0))), none⟩]
instance : Live r_law04dotsOf_1 := ⟨[0]⟩
def r_law04dotsOf_2 : List SOp :=
  [⟨(some 6), (.buildSlice 26 0 #[]), none⟩, ⟨(some 7), (.fieldAddr 28 (.tmp 1) 3), none⟩, ⟨(some 8), (.load 26 (.tmp 7)), none⟩, ⟨(some 9), (.call ⟨.builtin .append, #[.tmp 6, .tmp 8], #[26, 26]⟩), none⟩, ⟨(some 3), (.assign (.tmp 9)), none⟩]
instance : Live r_law04dotsOf_2 := ⟨[1]⟩
def r_law04dotsOf_3 : List SOp :=
  [⟨(some 10), (.move (.tmp 3)), none⟩, ⟨(some 11), (.fieldAddr 28 (.tmp 1) 4), none⟩, ⟨(some 12), (.load 3 (.tmp 11)), none⟩, ⟨(some 13), (.fieldAddr 28 (.tmp 1) 5), none⟩, ⟨(some 14), (.load 3 (.tmp 13)), none⟩, ⟨(some 15), (.build 32 #[(0, .tmp 12), (1, .tmp 14)]), none⟩, ⟨(some 16), (.buildSlice 26 1 #[(0, .tmp 15)]), none⟩, ⟨(some 17), (.call ⟨.builtin .append, #[.tmp 10, .tmp 16], #[26, 26]⟩), none⟩, ⟨(some 3), (.assign (.tmp 17)), none⟩]
instance : Live r_law04dotsOf_3 := ⟨[1, 3]⟩
def r_law04dotsOf_4 : List SOp :=
  [⟨(some 4), (.assign (.const (.int .i64 0))), none⟩]
instance : Live r_law04dotsOf_4 := ⟨[1, 3]⟩
def r_law04dotsOf_5 : List SOp :=
  [⟨(some 18), (.move (.tmp 4)), none⟩, ⟨(some 19), (.fieldAddr 28 (.tmp 1) 0), none⟩, ⟨(some 20), (.fieldAddr 25 (.tmp 19) 1), none⟩, ⟨(some 21), (.load 23 (.tmp 20)), none⟩, ⟨(some 22), (.call ⟨.builtin .len, #[.tmp 21], #[23]⟩), none⟩, ⟨(some 23), (.binOp .lss 3 (.tmp 18) (.tmp 22) 3), none⟩]
instance : Live r_law04dotsOf_5 := ⟨[1, 3, 4]⟩
def r_law04dotsOf_6 : List SOp :=
  [⟨(some 26), (.fieldAddr 28 (.tmp 1) 0), none⟩, ⟨(some 27), (.fieldAddr 25 (.tmp 26) 1), none⟩, ⟨(some 28), (.load 23 (.tmp 27)), none⟩, ⟨(some 29), (.move (.tmp 4)), none⟩, ⟨(some 30), (.indexAddr 23 (.tmp 28) (.tmp 29)), none⟩, ⟨(some 31), (.load 41 (.tmp 30)), none⟩, ⟨(some 5), (.alloc 41), none⟩, ⟨none, (.store 41 (.tmp 5) (.tmp 31)), none⟩]
instance : Live r_law04dotsOf_6 := ⟨[1, 3, 4]⟩
def r_law04dotsOf_7 : List SOp :=
  [⟨(some 32), (.move (.tmp 3)), none⟩, ⟨(some 33), (.fieldAddr 41 (.tmp 5) 0), none⟩, ⟨(some 34), (.load 3 (.tmp 33)), none⟩, ⟨(some 35), (.fieldAddr 41 (.tmp 5) 1), none⟩, ⟨(some 36), (.load 3 (.tmp 35)), none⟩, ⟨(some 37), (.build 32 #[(0, .tmp 34), (1, .tmp 36)]), none⟩, ⟨(some 38), (.fieldAddr 41 (.tmp 5) 0), none⟩, ⟨(some 39), (.load 3 (.tmp 38)), none⟩, ⟨(some 40), (.fieldAddr 41 (.tmp 5) 2), none⟩, ⟨(some 41), (.load 3 (.tmp 40)), none⟩, ⟨(some 42), (.build 32 #[(0, .tmp 39), (1, .tmp 41)]), none⟩, ⟨(some 43), (.fieldAddr 41 (.tmp 5) 0), none⟩, ⟨(some 44), (.load 3 (.tmp 43)), none⟩, ⟨(some 45), (.fieldAddr 41 (.tmp 5) 1), none⟩, ⟨(some 46), (.load 3 (.tmp 45)), none⟩, ⟨(some 47), (.binOp .sub 3 (.tmp 46) (.const (.int .i64 1)) 3), none⟩, ⟨(some 48), (.build 32 #[(0, .tmp 44), (1, .tmp 47)]), none⟩, ⟨(some 49), (.fieldAddr 41 (.tmp 5) 0), none⟩, ⟨(some 50), (.load 3 (.tmp 49)), none⟩, ⟨(some 51), (.fieldAddr 41 (.tmp 5) 2), none⟩, ⟨(some 52), (.load 3 (.tmp 51)), none⟩, ⟨(some 53), (.binOp .add 3 (.tmp 52) (.const (.int .i64 1)) 3), none⟩, ⟨(some 54), (.build 32 #[(0, .tmp 50), (1, .tmp 53)]), none⟩, ⟨(some 55), (.buildSlice 26 4 #[(0, .tmp 37), (1, .tmp 42), (2, .tmp 48), (3, .tmp 54)]), none⟩, ⟨(some 56), (.call ⟨.builtin .append, #[.tmp 32, .tmp 55], #[26, 26]⟩), none⟩, ⟨(some 3), (.assign (.tmp 56)), none⟩]
instance : Live r_law04dotsOf_7 := ⟨[1, 3, 4, 5]⟩
def r_law04dotsOf_8 : List SOp :=
  [⟨(some 24), (.move (.tmp 4)), none⟩, ⟨(some 25), (.binOp .add 3 (.tmp 24) (.const (.int .i64 1)) 3), none⟩, ⟨(some 4), (.assign (.tmp 25)), none⟩]
instance : Live r_law04dotsOf_8 := ⟨[1, 3, 4]⟩
def r_law04dotsOf_9 : List SOp :=
  [⟨(some 57), (.move (.tmp 3)), none⟩, ⟨(some 2), (.assign (.tmp 57)), none⟩]
instance : Live r_law04dotsOf_9 := ⟨[3]⟩
def t_law04dotsOf_l1 : SC :=
  (.seq (.seq (.ops false r_law04dotsOf_5) (.cond (.tmp 23) .skip (.exit 0))) (.seq (.block 1 (.seq (.ops false r_law04dotsOf_6) (.ops false r_law04dotsOf_7))) (.ops false r_law04dotsOf_8)))
def t_law04dotsOf : SC :=
  (.seq (.ops false r_law04dotsOf_1) (.seq (.ops false r_law04dotsOf_2) (.seq (.ops false r_law04dotsOf_3) (.seq (.seq (.ops false r_law04dotsOf_4) (.block 0 (.loop t_law04dotsOf_l1))) (.seq (.ops false r_law04dotsOf_9) .ret)))))
theorem it_law04dotsOf : FnIs Try.prog 28 58 [.tmp 2] t_law04dotsOf := ⟨Try.f28, _, Try.func28, rfl, rfl, rfl, rfl, by kernel_rfl⟩
end Go.Proofs.Ytdmfjkhbodbgoaa.Avm

namespace Go.Proofs.Ytdmfjkhbodbgoaa.Avm
open Go.Proofs
theorem vec_at {v : List Int} {r : Nat} (h : r < v.length) : (encIs v)[r]? = some (.int .i64 (vecAt v r)) := encIs_get (by simp [vecAt, h])
theorem any_take {α : Type} (q : α → Bool) (l : List α) {i : Nat} {x : α} (h : l[i]? = some x) (h0 : (l.take i).any q = false) (hx : q x = false) : (l.take (i + 1)).any q = false := by
  rw [List.take_add_one, h]
  simp [h0, hx]
theorem any_at {α : Type} {q : α → Bool} {l : List α} {i : Nat} {x : α} (h : l[i]? = some x) (hx : q x = true) : l.any q = true := by
  rw [List.any_eq_true]
  exact ⟨x, List.mem_of_getElem? h, hx⟩
theorem ev_law04meant (p : Pst) (d : Rn) (hw : wt p ≤ 900000000) : Ev (En Try.prog rfl).P 29 [encP p, encR d] (.ret (.bool (hasP p d))) := by
  refine Ev.of_body it_law04meant (by simp) (Run.start ?_)
  unfold t_law04meant encP encR
  have e1 := encIs_len p.vec
  have e2 := encSs_len p.cloud
  have hwt : wt p = p.vec.length + p.cloud.length := rfl
  by_cases hd : isDotR d.1 d.2 = true
  · have hd' := (isDot_iff _ _).1 hd
    have hh : hasP p d = ((decide (d.1 < p.vec.length) && decide (d.2 ≤ vecAt p.vec d.1.toNat)) || p.cloud.any (inSn d)) := by unfold hasP; rw [hd, Bool.true_and]
    rw [hh]
    obtain ⟨r, hr⟩ : ∃ r : Nat, d.1 = (r : Int) := ⟨d.1.toNat, by omega⟩
    have hr0 : d.1.toNat = r := by omega
    rw [hr0]
    have f1 : ¬ d.1 < 0 := by omega
    have f2 : ¬ 15 < d.1 := by omega
    have f3 : ¬ d.2 < 1 := by omega
    have f4 : ¬ 1000000000 < d.2 := by omega
    by_cases hv : r < p.vec.length ∧ d.2 ≤ vecAt p.vec r
    · have g1 := vec_at hv.1
      rw [show (decide (d.1 < (p.vec.length : Int)) && decide (d.2 ≤ vecAt p.vec r)) = true by simp; omega, Bool.true_or]
      have g2 : d.2 ≤ vecAt p.vec r := hv.2
      (focus (have hF := (And.intro (And.intro @e1 @e2) (And.intro @hr @g1)); (repeat' (first | (with_reducible refine Nx.of ?_) | ((with_reducible apply toV); refine stV (k := ?_)) | ((with_reducible apply toG); refine stG (k := ?_)) | ((with_reducible apply toG0); refine stG0 (k := ?_)) | ((with_reducible apply toC); refine stC (k := ?_)) | ((with_reducible apply toO); refine stO (k := ?_)) | ((with_reducible apply toX); refine stX (k := ?_)) | (with_reducible refine Ny.of ?_ ?_) | (refine Hyp.of ?_; intro hc; (try simp only [hc]); (try simp only [Bh] at hc)) | fail)); (all_goals clear hF)))
      all_goals first | exact Fin.tmp' rfl rfl | (exfalso; omega)
    · rw [show (decide (d.1 < (p.vec.length : Int)) && decide (d.2 ≤ vecAt p.vec r)) = false by
        rw [Bool.and_eq_false_iff]
        by_cases h1 : r < p.vec.length
        · exact .inr (decide_eq_false fun h2 => hv ⟨h1, h2⟩)
        · exact .inl (decide_eq_false fun h2 => h1 (by omega)), Bool.false_or]
      have hgo : ∀ Q : Prop, ((r < p.vec.length → d.2 ≤ vecAt p.vec r → False) → Q) → Q := fun Q h => h fun a b => hv ⟨a, b⟩
      rcases Nat.lt_or_ge r p.vec.length with hrl | hrl
      all_goals
        first
        | (have g1 := vec_at hrl
           have g2 : ¬ d.2 ≤ vecAt p.vec r := fun h => hv ⟨hrl, h⟩
           (focus (have hF := (And.intro (And.intro @e1 @e2) (And.intro @hr @g1)); (repeat' (first | (with_reducible refine Nx.of ?_) | ((with_reducible apply toV); refine stV (k := ?_)) | ((with_reducible apply toG); refine stG (k := ?_)) | ((with_reducible apply toG0); refine stG0 (k := ?_)) | ((with_reducible apply toC); refine stC (k := ?_)) | ((with_reducible apply toO); refine stO (k := ?_)) | ((with_reducible apply toX); refine stX (k := ?_)) | (with_reducible refine Ny.of ?_ ?_) | (refine Hyp.of ?_; intro hc; (try simp only [hc]); (try simp only [Bh] at hc)) | fail)); (all_goals clear hF))))
        | ((focus (have hF := (And.intro @e1 (And.intro @e2 @hr)); (repeat' (first | (with_reducible refine Nx.of ?_) | ((with_reducible apply toV); refine stV (k := ?_)) | ((with_reducible apply toG); refine stG (k := ?_)) | ((with_reducible apply toG0); refine stG0 (k := ?_)) | ((with_reducible apply toC); refine stC (k := ?_)) | ((with_reducible apply toO); refine stO (k := ?_)) | ((with_reducible apply toX); refine stX (k := ?_)) | (with_reducible refine Ny.of ?_ ?_) | (refine Hyp.of ?_; intro hc; (try simp only [hc]); (try simp only [Bh] at hc)) | fail)); (all_goals clear hF))))
      all_goals
        refine Run.while (σ := Nat) (fun i => ⟨tms [(2, .ptr 2 0), (3, .ptr 3 0), (5, .int .i64 (i : Int))], mms [(2, .cells [.sl 1 (encIs p.vec), .sl 3 (encSs p.cloud)]), (3, .cells [.int .i64 (r : Int), .int .i64 d.2])]⟩) (fun i => i ≤ p.cloud.length ∧ (p.cloud.take i).any (inSn d) = false) (fun i => p.cloud.length - i) 0 (have hW := True.intro; stWk) ⟨Nat.zero_le _, rfl⟩ ?_
        rintro i ⟨hi, hI⟩
        unfold t_law04meant_l1
        by_cases hlt : i < p.cloud.length
        · obtain ⟨s, hs⟩ : ∃ s, p.cloud[i]? = some s := ⟨p.cloud[i], by simp [hlt]⟩
          have g3 := encSs_get hs
          unfold encS at g3
          by_cases hq : inSn d s = true
          · rw [any_at hs hq]
            unfold inSn at hq
            simp only [Bool.and_eq_true, decide_eq_true_eq, hr] at hq
            obtain ⟨q1, q2, q3⟩ := hq
            (focus (have hF := (And.intro (And.intro @e1 @e2) (And.intro @g3 @q1)); (repeat' (first | (with_reducible refine Nx.of ?_) | ((with_reducible apply toV); refine stV (k := ?_)) | ((with_reducible apply toG); refine stG (k := ?_)) | ((with_reducible apply toG0); refine stG0 (k := ?_)) | ((with_reducible apply toC); refine stC (k := ?_)) | ((with_reducible apply toO); refine stO (k := ?_)) | ((with_reducible apply toX); refine stX (k := ?_)) | (with_reducible refine Ny.of ?_ ?_) | (refine Hyp.of ?_; intro hc; (try simp only [hc]); (try simp only [Bh] at hc)) | fail)); (all_goals clear hF)))
            all_goals first | exact Fin.tmp' rfl rfl | (exfalso; omega)
          · have hq' : inSn d s = false := by simpa using hq
            have hI2 := any_take (inSn d) p.cloud hs hI hq'
            unfold inSn at hq
            simp only [Bool.and_eq_true, decide_eq_true_eq, hr] at hq
            (focus (have hF := (And.intro @e1 (And.intro @e2 @g3)); (repeat' (first | (with_reducible refine Nx.of ?_) | ((with_reducible apply toV); refine stV (k := ?_)) | ((with_reducible apply toG); refine stG (k := ?_)) | ((with_reducible apply toG0); refine stG0 (k := ?_)) | ((with_reducible apply toC); refine stC (k := ?_)) | ((with_reducible apply toO); refine stO (k := ?_)) | ((with_reducible apply toX); refine stX (k := ?_)) | (with_reducible refine Ny.of ?_ ?_) | (refine Hyp.of ?_; intro hc; (try simp only [hc]); (try simp only [Bh] at hc)) | fail)); (all_goals clear hF)))
            all_goals first | (exfalso; omega) | skip
            all_goals
              (refine Fin.nextW (i + 1) ?_ (have hW := True.intro; stWk); (try dsimp only))
              exact ⟨⟨hlt, hI2⟩, by omega⟩
        · rw [List.take_of_length_le (show p.cloud.length ≤ i by omega)] at hI
          rw [hI]
          (focus (have hF := (And.intro @e1 @e2); (repeat' (first | (with_reducible refine Nx.of ?_) | ((with_reducible apply toV); refine stV (k := ?_)) | ((with_reducible apply toG); refine stG (k := ?_)) | ((with_reducible apply toG0); refine stG0 (k := ?_)) | ((with_reducible apply toC); refine stC (k := ?_)) | ((with_reducible apply toO); refine stO (k := ?_)) | ((with_reducible apply toX); refine stX (k := ?_)) | (with_reducible refine Ny.of ?_ ?_) | (refine Hyp.of ?_; intro hc; (try simp only [hc]); (try simp only [Bh] at hc)) | fail)); (all_goals clear hF)))
          exact Fin.tmp' rfl rfl
  · have hh : hasP p d = false := by unfold hasP; rw [show isDotR d.1 d.2 = false by simpa using hd, Bool.false_and]
    rw [hh]
    have hn : ¬ (0 ≤ d.1 ∧ d.1 < 16 ∧ 1 ≤ d.2 ∧ d.2 ≤ 1000000000) := fun h => hd ((isDot_iff _ _).2 h)
    by_cases f1 : d.1 < 0
    · (focus (have hF := (And.intro @e1 @e2); (repeat' (first | (with_reducible refine Nx.of ?_) | ((with_reducible apply toV); refine stV (k := ?_)) | ((with_reducible apply toG); refine stG (k := ?_)) | ((with_reducible apply toG0); refine stG0 (k := ?_)) | ((with_reducible apply toC); refine stC (k := ?_)) | ((with_reducible apply toO); refine stO (k := ?_)) | ((with_reducible apply toX); refine stX (k := ?_)) | (with_reducible refine Ny.of ?_ ?_) | (refine Hyp.of ?_; intro hc; (try simp only [hc]); (try simp only [Bh] at hc)) | fail)); (all_goals clear hF)))
      exact Fin.tmp' rfl rfl
    · by_cases f2 : 15 < d.1
      · (focus (have hF := (And.intro @e1 @e2); (repeat' (first | (with_reducible refine Nx.of ?_) | ((with_reducible apply toV); refine stV (k := ?_)) | ((with_reducible apply toG); refine stG (k := ?_)) | ((with_reducible apply toG0); refine stG0 (k := ?_)) | ((with_reducible apply toC); refine stC (k := ?_)) | ((with_reducible apply toO); refine stO (k := ?_)) | ((with_reducible apply toX); refine stX (k := ?_)) | (with_reducible refine Ny.of ?_ ?_) | (refine Hyp.of ?_; intro hc; (try simp only [hc]); (try simp only [Bh] at hc)) | fail)); (all_goals clear hF)))
        exact Fin.tmp' rfl rfl
      · by_cases f3 : d.2 < 1
        · (focus (have hF := (And.intro @e1 @e2); (repeat' (first | (with_reducible refine Nx.of ?_) | ((with_reducible apply toV); refine stV (k := ?_)) | ((with_reducible apply toG); refine stG (k := ?_)) | ((with_reducible apply toG0); refine stG0 (k := ?_)) | ((with_reducible apply toC); refine stC (k := ?_)) | ((with_reducible apply toO); refine stO (k := ?_)) | ((with_reducible apply toX); refine stX (k := ?_)) | (with_reducible refine Ny.of ?_ ?_) | (refine Hyp.of ?_; intro hc; (try simp only [hc]); (try simp only [Bh] at hc)) | fail)); (all_goals clear hF)))
          exact Fin.tmp' rfl rfl
        · have f4 : 1000000000 < d.2 := by omega
          (focus (have hF := (And.intro @e1 @e2); (repeat' (first | (with_reducible refine Nx.of ?_) | ((with_reducible apply toV); refine stV (k := ?_)) | ((with_reducible apply toG); refine stG (k := ?_)) | ((with_reducible apply toG0); refine stG0 (k := ?_)) | ((with_reducible apply toC); refine stC (k := ?_)) | ((with_reducible apply toO); refine stO (k := ?_)) | ((with_reducible apply toX); refine stX (k := ?_)) | (with_reducible refine Ny.of ?_ ?_) | (refine Hyp.of ?_; intro hc; (try simp only [hc]); (try simp only [Bh] at hc)) | fail)); (all_goals clear hF)))
          exact Fin.tmp' rfl rfl
def dots4 (c : Sn) : List Rn := [(c.1, c.2.1), (c.1, c.2.2), (c.1, IntKind.i64.wrap (c.2.1 - 1)), (c.1, IntKind.i64.wrap (c.2.2 + 1))]
def dotsC (x : Cas) : List Rn := x.ds ++ [(x.rep, x.most)] ++ x.a.cloud.flatMap dots4
theorem flatMap_take {α β : Type} (f : α → List β) (l : List α) {i : Nat} {x : α} (h : l[i]? = some x) : (l.take (i + 1)).flatMap f = (l.take i).flatMap f ++ f x := by
  rw [List.take_add_one, h, List.flatMap_append]
  simp
theorem dots4_len (l : List Sn) : (l.flatMap dots4).length = 4 * l.length := by
  induction l with
  | nil => rfl
  | cons a l ih => rw [List.flatMap_cons, List.length_append, ih, List.length_cons]; show 4 + _ = _; omega
theorem dotsC_len (x : Cas) : (dotsC x).length = x.ds.length + 1 + 4 * x.a.cloud.length := by
  unfold dotsC
  rw [List.length_append, List.length_append, dots4_len]
  rfl
theorem encRs_app (l m : List Rn) : encRs l ++ encRs m = encRs (l ++ m) := by simp [encRs]
theorem encC_stb (x : Cas) : (encC x).stb = true := by simp [encC, stbs, AVal.stb, encIs_stb, encSs_stb, encRs_stb]
theorem ev_law04dotsOf (x : Cas) (hw : wt x.a + x.ds.length ≤ 10000000) : Ev (En Try.prog rfl).P 28 [encC x] (.ret (.sl 2 (encRs (dotsC x)))) := by
  refine Ev.of_body it_law04dotsOf (by simp) (Run.start ?_)
  unfold t_law04dotsOf encC
  have hcs : stbs [AVal.sl 1 (encIs x.a.vec), .sl 3 (encSs x.a.cloud), .sl 1 (encIs x.b.vec), .sl 3 (encSs x.b.cloud), .sl 1 (encIs x.c.vec), .sl 3 (encSs x.c.cloud), .sl 2 (encRs x.ds), .int .i64 x.rep, .int .i64 x.most] = true := by simp [stbs, AVal.stb, encIs_stb, encSs_stb, encRs_stb]
  have e0 := encRs_len x.ds
  have e1 := encSs_len x.a.cloud
  have hwt : wt x.a = x.a.vec.length + x.a.cloud.length := rfl
  (focus (have hF := (And.intro (And.intro @hcs @e0) (And.intro @e1 @encRs_snoc)); (repeat' (first | (with_reducible refine Nx.of ?_) | ((with_reducible apply toV); refine stV (k := ?_)) | ((with_reducible apply toG); refine stG (k := ?_)) | ((with_reducible apply toG0); refine stG0 (k := ?_)) | ((with_reducible apply toC); refine stC (k := ?_)) | ((with_reducible apply toO); refine stO (k := ?_)) | ((with_reducible apply toX); refine stX (k := ?_)) | (with_reducible refine Ny.of ?_ ?_) | (refine Hyp.of ?_; intro hc; (try simp only [hc]); (try simp only [Bh] at hc)) | fail)); (all_goals clear hF)))
  refine Run.while (σ := Nat) (fun i => ⟨tms [(1, .ptr 1 0), (3, .os 6 (i + 2)), (4, .int .i64 (i : Int))], mms [(1, .cells [.sl 1 (encIs x.a.vec), .sl 3 (encSs x.a.cloud), .sl 1 (encIs x.b.vec), .sl 3 (encSs x.b.cloud), .sl 1 (encIs x.c.vec), .sl 3 (encSs x.c.cloud), .sl 2 (encRs x.ds), .int .i64 x.rep, .int .i64 x.most]),
      (6, .arr (i + 2) 2 (encRs (x.ds ++ [(x.rep, x.most)] ++ (x.a.cloud.take i).flatMap dots4)))]⟩) (fun i => i ≤ x.a.cloud.length) (fun i => x.a.cloud.length - i) 0 (have hW := (And.intro @hcs @encRs_stb); stWk) (Nat.zero_le _) ?_
  intro i hi
  unfold t_law04dotsOf_l1
  by_cases hlt : i < x.a.cloud.length
  · obtain ⟨s, hs⟩ : ∃ s, x.a.cloud[i]? = some s := ⟨x.a.cloud[i], by simp [hlt]⟩
    have g1 := encSs_get hs
    unfold encS at g1
    have hnx : x.ds ++ [(x.rep, x.most)] ++ (x.a.cloud.take (i + 1)).flatMap dots4 = x.ds ++ [(x.rep, x.most)] ++ (x.a.cloud.take i).flatMap dots4 ++ dots4 s := by rw [flatMap_take dots4 _ hs, List.append_assoc _ _ (dots4 s)]
    have hln : (x.ds ++ [(x.rep, x.most)] ++ (x.a.cloud.take i).flatMap dots4).length ≤ 50000001 := by
      rw [List.length_append, List.length_append, dots4_len, List.length_take]
      simp only [List.length_cons, List.length_nil]
      omega
    generalize x.ds ++ [(x.rep, x.most)] ++ (x.a.cloud.take i).flatMap dots4 = l at hnx hln ⊢
    have g2 := encRs_len l
    have happ : encRs l ++ [AVal.agg [.int .i64 s.1, .int .i64 s.2.1], .agg [.int .i64 s.1, .int .i64 s.2.2], .agg [.int .i64 s.1, .int .i64 (IntKind.i64.wrap (s.2.1 - 1))], .agg [.int .i64 s.1, .int .i64 (IntKind.i64.wrap (s.2.2 + 1))]] = encRs (l ++ dots4 s) := by simp [encRs, encR, dots4]
    (focus (have hF := (And.intro (And.intro @hcs (And.intro @e0 @e1)) (And.intro @g1 (And.intro @g2 @happ))); (repeat' (first | (with_reducible refine Nx.of ?_) | ((with_reducible apply toV); refine stV (k := ?_)) | ((with_reducible apply toG); refine stG (k := ?_)) | ((with_reducible apply toG0); refine stG0 (k := ?_)) | ((with_reducible apply toC); refine stC (k := ?_)) | ((with_reducible apply toO); refine stO (k := ?_)) | ((with_reducible apply toX); refine stX (k := ?_)) | (with_reducible refine Ny.of ?_ ?_) | (refine Hyp.of ?_; intro hc; (try simp only [hc]); (try simp only [Bh] at hc)) | fail)); (all_goals clear hF)))
    (refine Fin.nextW (i + 1) ?_ (have hW := (And.intro @hcs (And.intro @encRs_stb @hnx)); stWk); (try dsimp only))
    omega
  · have hie : x.ds ++ [(x.rep, x.most)] ++ (x.a.cloud.take i).flatMap dots4 = dotsC x := by rw [List.take_of_length_le (show x.a.cloud.length ≤ i by omega)]; rfl
    rw [hie]
    (focus (have hF := (And.intro @hcs (And.intro @e0 @e1)); (repeat' (first | (with_reducible refine Nx.of ?_) | ((with_reducible apply toV); refine stV (k := ?_)) | ((with_reducible apply toG); refine stG (k := ?_)) | ((with_reducible apply toG0); refine stG0 (k := ?_)) | ((with_reducible apply toC); refine stC (k := ?_)) | ((with_reducible apply toO); refine stO (k := ?_)) | ((with_reducible apply toX); refine stX (k := ?_)) | (with_reducible refine Ny.of ?_ ?_) | (refine Hyp.of ?_; intro hc; (try simp only [hc]); (try simp only [Bh] at hc)) | fail)); (all_goals clear hF)))
    exact stRet (.sl 2 (encRs (dotsC x)))
end Go.Proofs.Ytdmfjkhbodbgoaa.Avm

namespace Go.Proofs.Ytdmfjkhbodbgoaa.Avm
open Go.Proofs
def r_law04PastPoints_1 : List SOp :=
  [⟨(some 1), (.box 28 (.tmp 0)), none⟩, ⟨(some 2), (.assign (.const (.bool false))), none⟩]
instance : Live r_law04PastPoints_1 := ⟨[0]⟩
def r_law04PastPoints_2 : List SOp :=
  [⟨(some 14), (.call ⟨.value (.func 11), #[], #[]⟩), none⟩, ⟨(some 15), (.unOp .not 4 (.tmp 14)), none⟩]
instance : Live r_law04PastPoints_2 := ⟨[1]⟩
def r_law04PastPoints_3 : List SOp :=
  [⟨(some 2), (.assign (.const (.bool false))), none⟩]
instance : Live r_law04PastPoints_3 := ⟨[]⟩
def r_law04PastPoints_4 : List SOp :=
  [⟨(some 16), (.fieldAddr 28 (.tmp 1) 0), none⟩, ⟨(some 17), (.load 25 (.tmp 16)), none⟩, ⟨(some 18), (.call ⟨.value (.func 17), #[.tmp 17], #[25]⟩), none⟩, ⟨(some 19), (.fieldAddr 28 (.tmp 1) 0), none⟩, ⟨(some 20), (.load 25 (.tmp 19)), none⟩, ⟨(some 21), (.fieldAddr 28 (.tmp 1) 1), none⟩, ⟨(some 22), (.load 25 (.tmp 21)), none⟩, ⟨(some 23), (.buildSlice 51 2 #[(0, .tmp 20), (1, .tmp 22)]), none⟩, ⟨(some 24), (.call ⟨.value (.func 20), #[.tmp 23], #[51]⟩), none⟩, ⟨(some 25), (.fieldAddr 28 (.tmp 1) 0), none⟩, ⟨(some 26), (.load 25 (.tmp 25)), none⟩, ⟨(some 27), (.fieldAddr 28 (.tmp 1) 1), none⟩, ⟨(some 28), (.load 25 (.tmp 27)), none⟩, ⟨(some 29), (.call ⟨.value (.func 21), #[.tmp 26, .tmp 28], #[25, 25]⟩), none⟩, ⟨(some 30), (.fieldAddr 28 (.tmp 1) 0), none⟩, ⟨(some 31), (.load 25 (.tmp 30)), none⟩, ⟨(some 32), (.fieldAddr 28 (.tmp 1) 1), none⟩, ⟨(some 33), (.load 25 (.tmp 32)), none⟩, ⟨(some 34), (.call ⟨.value (.func 22), #[.tmp 31, .tmp 33], #[25, 25]⟩), none⟩, ⟨(some 3), (.alloc 25), none⟩, ⟨(some 4), (.alloc 25), none⟩, ⟨(some 5), (.alloc 25), none⟩, ⟨(some 6), (.alloc 25), none⟩, ⟨none, (.store 25 (.tmp 3) (.tmp 18)), none⟩, ⟨none, (.store 25 (.tmp 4) (.tmp 24)), none⟩, ⟨none, (.store 25 (.tmp 5) (.tmp 29)), none⟩, ⟨none, (.store 25 (.tmp 6) (.tmp 34)), none⟩]
instance : Live r_law04PastPoints_4 := ⟨[1]⟩
instance : Rd r_law04PastPoints_4 := ⟨fun j => j == 1⟩
def r_law04PastPoints_5 : List SOp :=
  [⟨(some 35), (.fieldAddr 28 (.tmp 1) 0), none⟩, ⟨(some 36), (.load 25 (.tmp 35)), none⟩, ⟨(some 37), (.call ⟨.value (.func 27), #[.tmp 36], #[25]⟩), none⟩, ⟨(some 7), (.alloc 25), none⟩, ⟨none, (.store 25 (.tmp 7) (.tmp 37)), none⟩]
instance : Live r_law04PastPoints_5 := ⟨[1, 3, 4, 5, 6]⟩
def r_law04PastPoints_6 : List SOp :=
  [⟨(some 38), (.load 28 (.tmp 1)), none⟩, ⟨(some 39), (.call ⟨.value (.func 28), #[.tmp 38], #[28]⟩), none⟩, ⟨(some 8), (.assign (.tmp 39)), none⟩]
instance : Live r_law04PastPoints_6 := ⟨[1, 3, 4, 5, 6, 7]⟩
def r_law04PastPoints_7 : List SOp :=
  [⟨(some 9), (.assign (.const (.int .i64 0))), none⟩]
instance : Live r_law04PastPoints_7 := ⟨[1, 3, 4, 5, 6, 7, 8]⟩
def r_law04PastPoints_8 : List SOp :=
  [⟨(some 40), (.move (.tmp 9)), none⟩, ⟨(some 41), (.move (.tmp 8)), none⟩, ⟨(some 42), (.call ⟨.builtin .len, #[.tmp 41], #[26]⟩), none⟩, ⟨(some 43), (.binOp .lss 3 (.tmp 40) (.tmp 42) 3), none⟩]
instance : Live r_law04PastPoints_8 := ⟨[1, 3, 4, 5, 6, 7, 8, 9]⟩
def r_law04PastPoints_9 : List SOp :=
  [⟨(some 46), (.move (.tmp 8)), none⟩, ⟨(some 47), (.move (.tmp 9)), none⟩, ⟨(some 48), (.indexAddr 26 (.tmp 46) (.tmp 47)), none⟩, ⟨(some 49), (.load 32 (.tmp 48)), none⟩, ⟨(some 10), (.alloc 32), none⟩, ⟨none, (.store 32 (.tmp 10) (.tmp 49)), none⟩]
instance : Live r_law04PastPoints_9 := ⟨[1, 3, 4, 5, 6, 7, 8, 9]⟩
def r_law04PastPoints_10 : List SOp :=
  [⟨(some 50), (.fieldAddr 28 (.tmp 1) 0), none⟩, ⟨(some 51), (.load 25 (.tmp 50)), none⟩, ⟨(some 52), (.load 32 (.tmp 10)), none⟩, ⟨(some 53), (.call ⟨.value (.func 29), #[.tmp 51, .tmp 52], #[25, 32]⟩), none⟩, ⟨(some 54), (.fieldAddr 28 (.tmp 1) 1), none⟩, ⟨(some 55), (.load 25 (.tmp 54)), none⟩, ⟨(some 56), (.load 32 (.tmp 10)), none⟩, ⟨(some 57), (.call ⟨.value (.func 29), #[.tmp 55, .tmp 56], #[25, 32]⟩), none⟩, ⟨(some 11), (.assign (.tmp 53)), none⟩, ⟨(some 12), (.assign (.tmp 57)), none⟩]
instance : Live r_law04PastPoints_10 := ⟨[1, 3, 4, 5, 6, 7, 8, 9, 10]⟩
def r_law04PastPoints_11 : List SOp :=
  [⟨(some 58), (.load 25 (.tmp 3)), none⟩, ⟨(some 59), (.load 32 (.tmp 10)), none⟩, ⟨(some 60), (.call ⟨.value (.func 29), #[.tmp 58, .tmp 59], #[25, 32]⟩), none⟩, ⟨(some 61), (.move (.tmp 11)), none⟩, ⟨(some 62), (.binOp .neq 4 (.tmp 60) (.tmp 61) 4), none⟩, ⟨(some 63), (.move (.tmp 62)), none⟩, ⟨(some 64), (.fieldAddr 28 (.tmp 1) 0), (some ((some 63), false))⟩, ⟨(some 65), (.load 25 (.tmp 64)), (some ((some 63), false))⟩, ⟨(some 66), (.load 32 (.tmp 10)), (some ((some 63), false))⟩, ⟨(some 67), (.call ⟨.value (.func 15), #[.tmp 65, .tmp 66], #[25, 32]⟩), (some ((some 63), false))⟩, ⟨(some 68), (.move (.tmp 11)), (some ((some 63), false))⟩, ⟨(some 69), (.binOp .neq 4 (.tmp 67) (.tmp 68) 4), (some ((some 63), false))⟩, ⟨(some 70), (.pick (.tmp 63) (.const (.bool true)) (.tmp 69)), none⟩, ⟨(some 71), (.move (.tmp 70)), none⟩, ⟨(some 72), (.load 25 (.tmp 4)), (some ((some 71), false))⟩, ⟨(some 73), (.load 32 (.tmp 10)), (some ((some 71), false))⟩, ⟨(some 74), (.call ⟨.value (.func 29), #[.tmp 72, .tmp 73], #[25, 32]⟩), (some ((some 71), false))⟩, ⟨(some 75), (.move (.tmp 11)), (some ((some 71), false))⟩, ⟨(some 76), (.move (.tmp 75)), (some ((some 71), false))⟩, ⟨(some 77), (.move (.tmp 12)), (some ((some 76), false))⟩, ⟨(some 78), (.pick (.tmp 76) (.const (.bool true)) (.tmp 77)), (some ((some 71), false))⟩, ⟨(some 79), (.binOp .neq 4 (.tmp 74) (.tmp 78) 4), (some ((some 71), false))⟩, ⟨(some 80), (.pick (.tmp 71) (.const (.bool true)) (.tmp 79)), none⟩, ⟨(some 81), (.move (.tmp 80)), none⟩, ⟨(some 82), (.load 25 (.tmp 5)), (some ((some 81), false))⟩, ⟨(some 83), (.load 32 (.tmp 10)), (some ((some 81), false))⟩, ⟨(some 84), (.call ⟨.value (.func 29), #[.tmp 82, .tmp 83], #[25, 32]⟩), (some ((some 81), false))⟩, ⟨(some 85), (.move (.tmp 11)), (some ((some 81), false))⟩, ⟨(some 86), (.move (.tmp 85)), (some ((some 81), false))⟩, ⟨(some 87), (.move (.tmp 12)), (some ((some 86), true))⟩, ⟨(some 88), (.pick (.tmp 86) (.tmp 87) (.const (.bool false))), (some ((some 81), false))⟩, ⟨(some 89), (.binOp .neq 4 (.tmp 84) (.tmp 88) 4), (some ((some 81), false))⟩, ⟨(some 90), (.pick (.tmp 81) (.const (.bool true)) (.tmp 89)), none⟩, ⟨(some 91), (.move (.tmp 90)), none⟩, ⟨(some 92), (.load 25 (.tmp 6)), (some ((some 91), false))⟩, ⟨(some 93), (.load 32 (.tmp 10)), (some ((some 91), false))⟩, ⟨(some 94), (.call ⟨.value (.func 29), #[.tmp 92, .tmp 93], #[25, 32]⟩), (some ((some 91), false))⟩, ⟨(some 95), (.move (.tmp 11)), (some ((some 91), false))⟩, ⟨(some 96), (.move (.tmp 95)), (some ((some 91), false))⟩, ⟨(some 97), (.move (.tmp 12)), (some ((some 96), true))⟩, ⟨(some 98), (.unOp .not 4 (.tmp 97)), (some ((some 96), true))⟩, ⟨(some 99), (.pick (.tmp 96) (.tmp 98) (.const (.bool false))), (some ((some 91), false))⟩, ⟨(some 100), (.binOp .neq 4 (.tmp 94) (.tmp 99) 4), (some ((some 91), false))⟩, ⟨(some 101), (.pick (.tmp 91) (.const (.bool true)) (.tmp 100)), none⟩]
instance : Live r_law04PastPoints_11 := ⟨[1, 3, 4, 5, 6, 7, 8, 9, 10, 11, 12]⟩
def r_law04PastPoints_12 : List SOp :=
  [⟨(some 2), (.assign (.const (.bool false))), none⟩]
instance : Live r_law04PastPoints_12 := ⟨[]⟩
def r_law04PastPoints_13 : List SOp :=
  [⟨(some 102), (.fieldAddr 32 (.tmp 10) 0), none⟩, ⟨(some 103), (.load 3 (.tmp 102)), none⟩, ⟨(some 104), (.binOp .geq 3 (.tmp 103) (.const (.int .i64 0)) 3), none⟩, ⟨(some 105), (.move (.tmp 104)), none⟩, ⟨(some 106), (.fieldAddr 32 (.tmp 10) 0), (some ((some 105), true))⟩, ⟨(some 107), (.load 3 (.tmp 106)), (some ((some 105), true))⟩, ⟨(some 108), (.binOp .leq 3 (.tmp 107) (.const (.int .i64 15)) 3), (some ((some 105), true))⟩, ⟨(some 109), (.pick (.tmp 105) (.tmp 108) (.const (.bool false))), none⟩, ⟨(some 110), (.move (.tmp 109)), none⟩, ⟨(some 111), (.fieldAddr 32 (.tmp 10) 1), (some ((some 110), true))⟩, ⟨(some 112), (.load 3 (.tmp 111)), (some ((some 110), true))⟩, ⟨(some 113), (.binOp .geq 3 (.tmp 112) (.const (.int .i64 1)) 3), (some ((some 110), true))⟩, ⟨(some 114), (.pick (.tmp 110) (.tmp 113) (.const (.bool false))), none⟩, ⟨(some 13), (.assign (.tmp 114)), none⟩]
instance : Live r_law04PastPoints_13 := ⟨[1, 3, 4, 5, 6, 7, 8, 9, 10, 11, 12]⟩
def r_law04PastPoints_14 : List SOp :=
  [⟨(some 115), (.load 25 (.tmp 7)), none⟩, ⟨(some 116), (.load 32 (.tmp 10)), none⟩, ⟨(some 117), (.call ⟨.value (.func 29), #[.tmp 115, .tmp 116], #[25, 32]⟩), none⟩, ⟨(some 118), (.move (.tmp 13)), none⟩, ⟨(some 119), (.move (.tmp 118)), none⟩, ⟨(some 120), (.move (.tmp 11)), (some ((some 119), true))⟩, ⟨(some 121), (.unOp .not 4 (.tmp 120)), (some ((some 119), true))⟩, ⟨(some 122), (.pick (.tmp 119) (.tmp 121) (.const (.bool false))), none⟩, ⟨(some 123), (.move (.tmp 122)), none⟩, ⟨(some 124), (.fieldAddr 32 (.tmp 10) 1), (some ((some 123), true))⟩, ⟨(some 125), (.load 3 (.tmp 124)), (some ((some 123), true))⟩, ⟨(some 126), (.fieldAddr 28 (.tmp 1) 0), (some ((some 123), true))⟩, ⟨(some 127), (.load 25 (.tmp 126)), (some ((some 123), true))⟩, ⟨(some 128), (.fieldAddr 32 (.tmp 10) 0), (some ((some 123), true))⟩, ⟨(some 129), (.load 3 (.tmp 128)), (some ((some 123), true))⟩, ⟨(some 130), (.call ⟨.value (.func 12), #[.tmp 127, .tmp 129], #[25, 3]⟩), (some ((some 123), true))⟩, ⟨(some 131), (.binOp .lss 3 (.tmp 125) (.tmp 130) 3), (some ((some 123), true))⟩, ⟨(some 132), (.pick (.tmp 123) (.tmp 131) (.const (.bool false))), none⟩, ⟨(some 133), (.binOp .neq 4 (.tmp 117) (.tmp 132) 4), none⟩]
instance : Live r_law04PastPoints_14 := ⟨[1, 3, 4, 5, 6, 7, 8, 9, 10, 11, 12, 13]⟩
def r_law04PastPoints_15 : List SOp :=
  [⟨(some 2), (.assign (.const (.bool false))), none⟩]
instance : Live r_law04PastPoints_15 := ⟨[]⟩
def r_law04PastPoints_16 : List SOp :=
  [⟨(some 134), (.move (.tmp 11)), none⟩, ⟨(some 135), (.move (.tmp 134)), none⟩, ⟨(some 136), (.fieldAddr 28 (.tmp 1) 0), (some ((some 135), true))⟩, ⟨(some 137), (.load 25 (.tmp 136)), (some ((some 135), true))⟩, ⟨(some 138), (.call ⟨.value (.func 25), #[.tmp 137], #[25]⟩), (some ((some 135), true))⟩, ⟨(some 139), (.move (.tmp 138)), (some ((some 135), true))⟩, ⟨(some 140), (.fieldAddr 28 (.tmp 1) 0), (some ((some 139), false))⟩, ⟨(some 141), (.load 25 (.tmp 140)), (some ((some 139), false))⟩, ⟨(some 142), (.call ⟨.value (.func 18), #[.tmp 141], #[25]⟩), (some ((some 139), false))⟩, ⟨(some 143), (.binOp .lss 3 (.tmp 142) (.const (.int .i64 1)) 3), (some ((some 139), false))⟩, ⟨(some 144), (.pick (.tmp 139) (.const (.bool true)) (.tmp 143)), (some ((some 135), true))⟩, ⟨(some 145), (.move (.tmp 144)), (some ((some 135), true))⟩, ⟨(some 146), (.fieldAddr 28 (.tmp 1) 0), (some ((some 145), false))⟩, ⟨(some 147), (.load 25 (.tmp 146)), (some ((some 145), false))⟩, ⟨(some 148), (.fieldAddr 32 (.tmp 10) 0), (some ((some 145), false))⟩, ⟨(some 149), (.load 3 (.tmp 148)), (some ((some 145), false))⟩, ⟨(some 150), (.call ⟨.value (.func 12), #[.tmp 147, .tmp 149], #[25, 3]⟩), (some ((some 145), false))⟩, ⟨(some 151), (.fieldAddr 32 (.tmp 10) 1), (some ((some 145), false))⟩, ⟨(some 152), (.load 3 (.tmp 151)), (some ((some 145), false))⟩, ⟨(some 153), (.binOp .lss 3 (.tmp 150) (.tmp 152) 3), (some ((some 145), false))⟩, ⟨(some 154), (.pick (.tmp 145) (.const (.bool true)) (.tmp 153)), (some ((some 135), true))⟩, ⟨(some 155), (.pick (.tmp 135) (.tmp 154) (.const (.bool false))), none⟩]
instance : Live r_law04PastPoints_16 := ⟨[1, 3, 4, 5, 6, 7, 8, 9, 10, 11, 12]⟩
def r_law04PastPoints_17 : List SOp :=
  [⟨(some 2), (.assign (.const (.bool false))), none⟩]
instance : Live r_law04PastPoints_17 := ⟨[]⟩
def r_law04PastPoints_18 : List SOp :=
  [⟨(some 156), (.fieldAddr 28 (.tmp 1) 0), none⟩, ⟨(some 157), (.load 25 (.tmp 156)), none⟩, ⟨(some 158), (.fieldAddr 28 (.tmp 1) 1), none⟩, ⟨(some 159), (.load 25 (.tmp 158)), none⟩, ⟨(some 160), (.call ⟨.value (.func 24), #[.tmp 157, .tmp 159], #[25, 25]⟩), none⟩, ⟨(some 161), (.move (.tmp 160)), none⟩, ⟨(some 162), (.move (.tmp 11)), (some ((some 161), true))⟩, ⟨(some 163), (.pick (.tmp 161) (.tmp 162) (.const (.bool false))), none⟩, ⟨(some 164), (.move (.tmp 163)), none⟩, ⟨(some 165), (.move (.tmp 12)), (some ((some 164), true))⟩, ⟨(some 166), (.unOp .not 4 (.tmp 165)), (some ((some 164), true))⟩, ⟨(some 167), (.pick (.tmp 164) (.tmp 166) (.const (.bool false))), none⟩]
instance : Live r_law04PastPoints_18 := ⟨[1, 3, 4, 5, 6, 7, 8, 9, 11, 12]⟩
def r_law04PastPoints_19 : List SOp :=
  [⟨(some 2), (.assign (.const (.bool false))), none⟩]
instance : Live r_law04PastPoints_19 := ⟨[]⟩
def r_law04PastPoints_20 : List SOp :=
  [⟨(some 44), (.move (.tmp 9)), none⟩, ⟨(some 45), (.binOp .add 3 (.tmp 44) (.const (.int .i64 1)) 3), none⟩, ⟨(some 9), (.assign (.tmp 45)), none⟩]
instance : Live r_law04PastPoints_20 := ⟨[1, 3, 4, 5, 6, 7, 8, 9]⟩
def r_law04PastPoints_21 : List SOp :=
  [⟨(some 2), (.assign (.const (.bool true))), none⟩]
instance : Live r_law04PastPoints_21 := ⟨[]⟩
def t_law04PastPoints_l1 : SC :=
  (.seq (.seq (.ops false r_law04PastPoints_8) (.cond (.tmp 43) .skip (.exit 0))) (.seq (.block 1 (.seq (.ops false r_law04PastPoints_9) (.seq (.ops true r_law04PastPoints_10) (.seq (.seq (.ops false r_law04PastPoints_11) (.cond (.tmp 101) (.seq (.ops false r_law04PastPoints_12) .ret) .skip)) (.seq (.ops false r_law04PastPoints_13) (.seq (.seq (.ops true r_law04PastPoints_14) (.cond (.tmp 133) (.seq (.ops false r_law04PastPoints_15) .ret) .skip)) (.seq (.seq (.ops true r_law04PastPoints_16) (.cond (.tmp 155) (.seq (.ops false r_law04PastPoints_17) .ret) .skip)) (.seq (.ops false r_law04PastPoints_18) (.cond (.tmp 167) (.seq (.ops false r_law04PastPoints_19) .ret) .skip))))))))) (.ops false r_law04PastPoints_20)))
def t_law04PastPoints : SC :=
  (.seq (.ops false r_law04PastPoints_1) (.seq (.seq (.ops false r_law04PastPoints_2) (.cond (.tmp 15) (.seq (.ops false r_law04PastPoints_3) .ret) .skip)) (.seq (.opsW [] r_law04PastPoints_4) (.seq (.ops false r_law04PastPoints_5) (.seq (.ops false r_law04PastPoints_6) (.seq (.seq (.ops false r_law04PastPoints_7) (.block 0 (.loop t_law04PastPoints_l1))) (.seq (.ops false r_law04PastPoints_21) .ret)))))))
theorem it_law04PastPoints : FnIs Try.prog 6 168 [.tmp 2] t_law04PastPoints := ⟨Try.f6, _, Try.func6, rfl, rfl, rfl, rfl, by kernel_rfl⟩
end Go.Proofs.Ytdmfjkhbodbgoaa.Avm

namespace Go.Proofs.Ytdmfjkhbodbgoaa.Avm
open Go.Proofs
def realR (d : Rn) : Bool := decide (0 ≤ d.1) && (decide (d.1 ≤ 15) && decide (1 ≤ d.2))
theorem ev_law04PastPoints (x : Cas) (hw : wt x.a + wt x.b + x.ds.length ≤ 1100000) : Ev (En Try.prog rfl).P 6 [encC x] (.ret (.bool true)) := by
  refine Ev.of_body it_law04PastPoints (by simp) (Run.start ?_)
  unfold t_law04PastPoints encC
  have hcs : stbs [AVal.sl 1 (encIs x.a.vec), .sl 3 (encSs x.a.cloud), .sl 1 (encIs x.b.vec), .sl 3 (encSs x.b.cloud), .sl 1 (encIs x.c.vec), .sl 3 (encSs x.c.cloud), .sl 2 (encRs x.ds), .int .i64 x.rep, .int .i64 x.most] = true := by simp [stbs, AVal.stb, encIs_stb, encSs_stb, encRs_stb]
  have na := ev_pastNorm x.a (by omega)
  have jab := ev_pastJoin [x.a, x.b] (by simp) (by simp; omega)
  have mab := ev_pastMeet x.a x.b (by omega) (by omega)
  have nab := ev_pastMinus x.a x.b (by omega) (by omega)
  have hol := ev_pastHoles x.a (by omega)
  have dts := ev_law04dotsOf x (by omega)
  have w1 := normP_wt x.a
  have w2 := joinP_wt [x.a, x.b]
  have w3 := meetP_wt x.a x.b
  have w4 := minusP_wt x.a x.b
  have w5 := holesP_wt x.a
  simp only [List.map_cons, List.map_nil, List.sum_cons, List.sum_nil] at w2
  have h1 := has_norm x.a
  have h2 := has_join x.a x.b
  have h3 := has_meet x.a x.b
  have h4 := has_minus x.a x.b
  have h5 := has_holes x.a
  have hdl := dotsC_len x
  have hwa : wt x.a = x.a.vec.length + x.a.cloud.length := rfl
  generalize normP x.a = pn at na w1 h1
  generalize joinP [x.a, x.b] = pj at jab w2 h2
  generalize meetP x.a x.b = pm at mab w3 h3
  generalize minusP x.a x.b = pd at nab w4 h4
  generalize holesP x.a = ph at hol w5 h5
  generalize dotsC x = l at dts hdl
  have wi := ev_pastWithin x.a x.b (by omega) (by omega)
  have hwi := fun d => @has_within x.a x.b d
  have em := ev_pastEmpty x.a (by omega)
  have sz := ev_pastSize x.a (by omega)
  have hsz := fun d => @has_size x.a d
  have hla := fun d => @has_last x.a d
  generalize withinP x.a x.b = w at wi hwi
  generalize sizeP x.a = v at em sz hsz
  have hS := encC_stb x
  (focus (have hF := True.intro; (repeat' (first | (with_reducible refine Nx.of ?_) | ((with_reducible apply toV); refine stV (k := ?_)) | ((with_reducible apply toG); refine stG (k := ?_)) | ((with_reducible apply toG0); refine stG0 (k := ?_)) | ((with_reducible apply toC); refine stC (k := ?_)) | ((with_reducible apply toO); refine stO (k := ?_)) | ((with_reducible apply toX); refine stX (k := ?_)) | (with_reducible refine Ny.of ?_ ?_) | (refine Hyp.of ?_; intro hc; (try simp only [hc]); (try simp only [Bh] at hc)) | fail)); (all_goals clear hF)))
  refine stCall [] (he := ev_law04fixed) (k := ?_)
  (focus (have hF := True.intro; (repeat' (first | (with_reducible refine Nx.of ?_) | ((with_reducible apply toV); refine stV (k := ?_)) | ((with_reducible apply toG); refine stG (k := ?_)) | ((with_reducible apply toG0); refine stG0 (k := ?_)) | ((with_reducible apply toC); refine stC (k := ?_)) | ((with_reducible apply toO); refine stO (k := ?_)) | ((with_reducible apply toX); refine stX (k := ?_)) | (with_reducible refine Ny.of ?_ ?_) | (refine Hyp.of ?_; intro hc; (try simp only [hc]); (try simp only [Bh] at hc)) | fail)); (all_goals clear hF)))
  ((with_reducible apply toW); refine stW (fun j => j == 1) (k := ?_))
  (focus (have hF := @hcs; (repeat' (first | (with_reducible refine Nx.of ?_) | ((with_reducible apply toV); refine stV (k := ?_)) | ((with_reducible apply toG); refine stG (k := ?_)) | ((with_reducible apply toG0); refine stG0 (k := ?_)) | ((with_reducible apply toC); refine stC (k := ?_)) | ((with_reducible apply toO); refine stO (k := ?_)) | ((with_reducible apply toX); refine stX (k := ?_)) | (with_reducible refine Ny.of ?_ ?_) | (refine Hyp.of ?_; intro hc; (try simp only [hc]); (try simp only [Bh] at hc)) | fail)); (all_goals clear hF)))
  refine stCall [encP x.a] (he := na) (k := ?_)
  (focus (have hF := @hcs; (repeat' (first | (with_reducible refine Nx.of ?_) | ((with_reducible apply toV); refine stV (k := ?_)) | ((with_reducible apply toG); refine stG (k := ?_)) | ((with_reducible apply toG0); refine stG0 (k := ?_)) | ((with_reducible apply toC); refine stC (k := ?_)) | ((with_reducible apply toO); refine stO (k := ?_)) | ((with_reducible apply toX); refine stX (k := ?_)) | (with_reducible refine Ny.of ?_ ?_) | (refine Hyp.of ?_; intro hc; (try simp only [hc]); (try simp only [Bh] at hc)) | fail)); (all_goals clear hF)))
  refine stCall [.sl 2 (encPs [x.a, x.b])] (he := jab) (k := ?_)
  (focus (have hF := @hcs; (repeat' (first | (with_reducible refine Nx.of ?_) | ((with_reducible apply toV); refine stV (k := ?_)) | ((with_reducible apply toG); refine stG (k := ?_)) | ((with_reducible apply toG0); refine stG0 (k := ?_)) | ((with_reducible apply toC); refine stC (k := ?_)) | ((with_reducible apply toO); refine stO (k := ?_)) | ((with_reducible apply toX); refine stX (k := ?_)) | (with_reducible refine Ny.of ?_ ?_) | (refine Hyp.of ?_; intro hc; (try simp only [hc]); (try simp only [Bh] at hc)) | fail)); (all_goals clear hF)))
  refine stCall [encP x.a, encP x.b] (he := mab) (k := ?_)
  (focus (have hF := @hcs; (repeat' (first | (with_reducible refine Nx.of ?_) | ((with_reducible apply toV); refine stV (k := ?_)) | ((with_reducible apply toG); refine stG (k := ?_)) | ((with_reducible apply toG0); refine stG0 (k := ?_)) | ((with_reducible apply toC); refine stC (k := ?_)) | ((with_reducible apply toO); refine stO (k := ?_)) | ((with_reducible apply toX); refine stX (k := ?_)) | (with_reducible refine Ny.of ?_ ?_) | (refine Hyp.of ?_; intro hc; (try simp only [hc]); (try simp only [Bh] at hc)) | fail)); (all_goals clear hF)))
  refine stCall [encP x.a, encP x.b] (he := nab) (k := ?_)
  unfold encP
  (focus (have hF := @hcs; (repeat' (first | (with_reducible refine Nx.of ?_) | ((with_reducible apply toV); refine stV (k := ?_)) | ((with_reducible apply toG); refine stG (k := ?_)) | ((with_reducible apply toG0); refine stG0 (k := ?_)) | ((with_reducible apply toC); refine stC (k := ?_)) | ((with_reducible apply toO); refine stO (k := ?_)) | ((with_reducible apply toX); refine stX (k := ?_)) | (with_reducible refine Ny.of ?_ ?_) | (refine Hyp.of ?_; intro hc; (try simp only [hc]); (try simp only [Bh] at hc)) | fail)); (all_goals clear hF)))
  refine stCall [encP x.a] (he := hol) (k := ?_)
  unfold encP
  (focus (have hF := @hcs; (repeat' (first | (with_reducible refine Nx.of ?_) | ((with_reducible apply toV); refine stV (k := ?_)) | ((with_reducible apply toG); refine stG (k := ?_)) | ((with_reducible apply toG0); refine stG0 (k := ?_)) | ((with_reducible apply toC); refine stC (k := ?_)) | ((with_reducible apply toO); refine stO (k := ?_)) | ((with_reducible apply toX); refine stX (k := ?_)) | (with_reducible refine Ny.of ?_ ?_) | (refine Hyp.of ?_; intro hc; (try simp only [hc]); (try simp only [Bh] at hc)) | fail)); (all_goals clear hF)))
  refine stCall [encC x] (he := dts) (k := ?_)
  (focus (have hF := @hcs; (repeat' (first | (with_reducible refine Nx.of ?_) | ((with_reducible apply toV); refine stV (k := ?_)) | ((with_reducible apply toG); refine stG (k := ?_)) | ((with_reducible apply toG0); refine stG0 (k := ?_)) | ((with_reducible apply toC); refine stC (k := ?_)) | ((with_reducible apply toO); refine stO (k := ?_)) | ((with_reducible apply toX); refine stX (k := ?_)) | (with_reducible refine Ny.of ?_ ?_) | (refine Hyp.of ?_; intro hc; (try simp only [hc]); (try simp only [Bh] at hc)) | fail)); (all_goals clear hF)))
  clear na jab mab nab hol dts
  refine Run.while (σ := Nat) (fun i => ⟨tms [(1, .ptr 1 0), (3, .ptr 3 0), (4, .ptr 4 0), (5, .ptr 5 0), (6, .ptr 6 0), (7, .ptr 7 0), (8, .sl 2 (encRs l)), (9, .int .i64 (i : Int))],
      mms [(1, .cells [.sl 1 (encIs x.a.vec), .sl 3 (encSs x.a.cloud), .sl 1 (encIs x.b.vec), .sl 3 (encSs x.b.cloud), .sl 1 (encIs x.c.vec), .sl 3 (encSs x.c.cloud), .sl 2 (encRs x.ds), .int .i64 x.rep, .int .i64 x.most]),
        (3, .cells [.sl 1 (encIs pn.vec), .sl 3 (encSs pn.cloud)]), (4, .cells [.sl 1 (encIs pj.vec), .sl 3 (encSs pj.cloud)]), (5, .cells [.sl 1 (encIs pm.vec), .sl 3 (encSs pm.cloud)]), (6, .cells [.sl 1 (encIs pd.vec), .sl 3 (encSs pd.cloud)]), (7, .cells [.sl 1 (encIs ph.vec), .sl 3 (encSs ph.cloud)])]⟩)
    (fun i => i ≤ l.length) (fun i => l.length - i) 0 (have hW := @hcs; stWk) (Nat.zero_le _) ?_
  intro i hi
  have e1 := encRs_len l
  unfold t_law04PastPoints_l1
  by_cases hlt : i < l.length
  · obtain ⟨d, hd⟩ : ∃ d, l[i]? = some d := ⟨l[i], by simp [hlt]⟩
    have g1 := encRs_get hd
    unfold encR at g1
    have c1 := ev_law04meant x.a d (by omega)
    have c2 := ev_law04meant x.b d (by omega)
    have c3 := ev_law04meant pn d (by omega)
    have c4 := ev_pastHas x.a d (by omega)
    have c5 := ev_law04meant pj d (by omega)
    have c6 := ev_law04meant pm d (by omega)
    have c7 := ev_law04meant pd d (by omega)
    have c8 := ev_law04meant ph d (by omega)
    have la := ev_pastLast x.a d.1 (by omega)
    rw [h1] at c3
    rw [h2] at c5
    rw [h3] at c6
    rw [h4] at c7
    rw [h5] at c8
    have hdot : hasP x.a d = true → 0 ≤ d.1 ∧ d.1 ≤ 15 ∧ 1 ≤ d.2 := fun h => by
      have h' := (hasP_iff x.a d).1 h
      have := inP_lt h'.2
      have := h'.2.2.1
      omega
    replace hsz := hsz d
    replace hla := hla d
    replace hwi := fun a b => hwi d a b
    generalize hasP x.a d = a at *
    generalize hasP x.b d = b at *
    generalize lastP x.a d.1 = lv at *
    (focus (have hF := (And.intro @hcs (And.intro @e1 @g1)); (repeat' (first | (with_reducible refine Nx.of ?_) | ((with_reducible apply toV); refine stV (k := ?_)) | ((with_reducible apply toG); refine stG (k := ?_)) | ((with_reducible apply toG0); refine stG0 (k := ?_)) | ((with_reducible apply toC); refine stC (k := ?_)) | ((with_reducible apply toO); refine stO (k := ?_)) | ((with_reducible apply toX); refine stX (k := ?_)) | (with_reducible refine Ny.of ?_ ?_) | (refine Hyp.of ?_; intro hc; (try simp only [hc]); (try simp only [Bh] at hc)) | fail)); (all_goals clear hF)))
    refine stCall [encP x.a, encR d] (he := c1) (k := ?_)
    (focus (have hF := (And.intro @hcs (And.intro @e1 @g1)); (repeat' (first | (with_reducible refine Nx.of ?_) | ((with_reducible apply toV); refine stV (k := ?_)) | ((with_reducible apply toG); refine stG (k := ?_)) | ((with_reducible apply toG0); refine stG0 (k := ?_)) | ((with_reducible apply toC); refine stC (k := ?_)) | ((with_reducible apply toO); refine stO (k := ?_)) | ((with_reducible apply toX); refine stX (k := ?_)) | (with_reducible refine Ny.of ?_ ?_) | (refine Hyp.of ?_; intro hc; (try simp only [hc]); (try simp only [Bh] at hc)) | fail)); (all_goals clear hF)))
    refine stCall [encP x.b, encR d] (he := c2) (k := ?_)
    (focus (have hF := (And.intro @hcs (And.intro @e1 @g1)); (repeat' (first | (with_reducible refine Nx.of ?_) | ((with_reducible apply toV); refine stV (k := ?_)) | ((with_reducible apply toG); refine stG (k := ?_)) | ((with_reducible apply toG0); refine stG0 (k := ?_)) | ((with_reducible apply toC); refine stC (k := ?_)) | ((with_reducible apply toO); refine stO (k := ?_)) | ((with_reducible apply toX); refine stX (k := ?_)) | (with_reducible refine Ny.of ?_ ?_) | (refine Hyp.of ?_; intro hc; (try simp only [hc]); (try simp only [Bh] at hc)) | fail)); (all_goals clear hF)))
    refine stCall [encP pn, encR d] (he := c3) (k := ?_)
    cases a
    case' false =>
      have k1 : ¬ (false = true) := by simp
      by_cases hr : 0 ≤ d.1 ∧ d.1 ≤ 15 ∧ 1 ≤ d.2
      · obtain ⟨r1, r2, r3⟩ := hr
        rw [show ((decide (0 ≤ d.1) && (decide (d.1 ≤ 15) && decide (1 ≤ d.2))) && (!false && decide (d.2 < lv))) = decide (d.2 < lv) by simp [r1, r2, r3]] at c8
        by_cases r4 : d.2 < lv
        all_goals
          cases b
        all_goals
          (focus (have hF := @hcs; (repeat' (first | (with_reducible refine Nx.of ?_) | ((with_reducible apply toV); refine stV (k := ?_)) | ((with_reducible apply toG); refine stG (k := ?_)) | ((with_reducible apply toG0); refine stG0 (k := ?_)) | ((with_reducible apply toC); refine stC (k := ?_)) | ((with_reducible apply toO); refine stO (k := ?_)) | ((with_reducible apply toX); refine stX (k := ?_)) | (with_reducible refine Ny.of ?_ ?_) | (refine Hyp.of ?_; intro hc; (try simp only [hc]); (try simp only [Bh] at hc)) | fail)); (all_goals clear hF)))
          refine stCall [encP x.a, encR d] (he := c4) (k := ?_)
          (focus (have hF := @hcs; (repeat' (first | (with_reducible refine Nx.of ?_) | ((with_reducible apply toV); refine stV (k := ?_)) | ((with_reducible apply toG); refine stG (k := ?_)) | ((with_reducible apply toG0); refine stG0 (k := ?_)) | ((with_reducible apply toC); refine stC (k := ?_)) | ((with_reducible apply toO); refine stO (k := ?_)) | ((with_reducible apply toX); refine stX (k := ?_)) | (with_reducible refine Ny.of ?_ ?_) | (refine Hyp.of ?_; intro hc; (try simp only [hc]); (try simp only [Bh] at hc)) | fail)); (all_goals clear hF)))
          refine stCall [encP pj, encR d] (he := c5) (k := ?_)
          (focus (have hF := @hcs; (repeat' (first | (with_reducible refine Nx.of ?_) | ((with_reducible apply toV); refine stV (k := ?_)) | ((with_reducible apply toG); refine stG (k := ?_)) | ((with_reducible apply toG0); refine stG0 (k := ?_)) | ((with_reducible apply toC); refine stC (k := ?_)) | ((with_reducible apply toO); refine stO (k := ?_)) | ((with_reducible apply toX); refine stX (k := ?_)) | (with_reducible refine Ny.of ?_ ?_) | (refine Hyp.of ?_; intro hc; (try simp only [hc]); (try simp only [Bh] at hc)) | fail)); (all_goals clear hF)))
          refine stCall [encP pm, encR d] (he := c6) (k := ?_)
          (focus (have hF := @hcs; (repeat' (first | (with_reducible refine Nx.of ?_) | ((with_reducible apply toV); refine stV (k := ?_)) | ((with_reducible apply toG); refine stG (k := ?_)) | ((with_reducible apply toG0); refine stG0 (k := ?_)) | ((with_reducible apply toC); refine stC (k := ?_)) | ((with_reducible apply toO); refine stO (k := ?_)) | ((with_reducible apply toX); refine stX (k := ?_)) | (with_reducible refine Ny.of ?_ ?_) | (refine Hyp.of ?_; intro hc; (try simp only [hc]); (try simp only [Bh] at hc)) | fail)); (all_goals clear hF)))
          refine stCall [encP pd, encR d] (he := c7) (k := ?_)
          (focus (have hF := @hcs; (repeat' (first | (with_reducible refine Nx.of ?_) | ((with_reducible apply toV); refine stV (k := ?_)) | ((with_reducible apply toG); refine stG (k := ?_)) | ((with_reducible apply toG0); refine stG0 (k := ?_)) | ((with_reducible apply toC); refine stC (k := ?_)) | ((with_reducible apply toO); refine stO (k := ?_)) | ((with_reducible apply toX); refine stX (k := ?_)) | (with_reducible refine Ny.of ?_ ?_) | (refine Hyp.of ?_; intro hc; (try simp only [hc]); (try simp only [Bh] at hc)) | fail)); (all_goals clear hF)))
          refine stCall [encP ph, encR d] (he := c8) (k := ?_)
          (focus (have hF := @hcs; (repeat' (first | (with_reducible refine Nx.of ?_) | ((with_reducible apply toV); refine stV (k := ?_)) | ((with_reducible apply toG); refine stG (k := ?_)) | ((with_reducible apply toG0); refine stG0 (k := ?_)) | ((with_reducible apply toC); refine stC (k := ?_)) | ((with_reducible apply toO); refine stO (k := ?_)) | ((with_reducible apply toX); refine stX (k := ?_)) | (with_reducible refine Ny.of ?_ ?_) | (refine Hyp.of ?_; intro hc; (try simp only [hc]); (try simp only [Bh] at hc)) | fail)); (all_goals clear hF)))
          refine stCall [encP x.a, .int .i64 d.1] (he := la) (k := ?_)
          (focus (have hF := @hcs; (repeat' (first | (with_reducible refine Nx.of ?_) | ((with_reducible apply toV); refine stV (k := ?_)) | ((with_reducible apply toG); refine stG (k := ?_)) | ((with_reducible apply toG0); refine stG0 (k := ?_)) | ((with_reducible apply toC); refine stC (k := ?_)) | ((with_reducible apply toO); refine stO (k := ?_)) | ((with_reducible apply toX); refine stX (k := ?_)) | (with_reducible refine Ny.of ?_ ?_) | (refine Hyp.of ?_; intro hc; (try simp only [hc]); (try simp only [Bh] at hc)) | fail)); (all_goals clear hF)))
          refine stCall [encP x.a, encP x.b] (he := wi) (k := ?_)
          cases w
        all_goals
          (focus (have hF := @hcs; (repeat' (first | (with_reducible refine Nx.of ?_) | ((with_reducible apply toV); refine stV (k := ?_)) | ((with_reducible apply toG); refine stG (k := ?_)) | ((with_reducible apply toG0); refine stG0 (k := ?_)) | ((with_reducible apply toC); refine stC (k := ?_)) | ((with_reducible apply toO); refine stO (k := ?_)) | ((with_reducible apply toX); refine stX (k := ?_)) | (with_reducible refine Ny.of ?_ ?_) | (refine Hyp.of ?_; intro hc; (try simp only [hc]); (try simp only [Bh] at hc)) | fail)); (all_goals clear hF)))
          (refine Fin.nextW (i + 1) ?_ (have hW := @hcs; stWk); (try dsimp only))
          omega
      · rw [show ((decide (0 ≤ d.1) && (decide (d.1 ≤ 15) && decide (1 ≤ d.2))) && (!false && decide (d.2 < lv))) = false by
          cases h : (decide (0 ≤ d.1) && (decide (d.1 ≤ 15) && decide (1 ≤ d.2))) with
          | false => rfl
          | true => simp at h; omega] at c8
        cases b
        all_goals
          (focus (have hF := @hcs; (repeat' (first | (with_reducible refine Nx.of ?_) | ((with_reducible apply toV); refine stV (k := ?_)) | ((with_reducible apply toG); refine stG (k := ?_)) | ((with_reducible apply toG0); refine stG0 (k := ?_)) | ((with_reducible apply toC); refine stC (k := ?_)) | ((with_reducible apply toO); refine stO (k := ?_)) | ((with_reducible apply toX); refine stX (k := ?_)) | (with_reducible refine Ny.of ?_ ?_) | (refine Hyp.of ?_; intro hc; (try simp only [hc]); (try simp only [Bh] at hc)) | fail)); (all_goals clear hF)))
          refine stCall [encP x.a, encR d] (he := c4) (k := ?_)
          (focus (have hF := @hcs; (repeat' (first | (with_reducible refine Nx.of ?_) | ((with_reducible apply toV); refine stV (k := ?_)) | ((with_reducible apply toG); refine stG (k := ?_)) | ((with_reducible apply toG0); refine stG0 (k := ?_)) | ((with_reducible apply toC); refine stC (k := ?_)) | ((with_reducible apply toO); refine stO (k := ?_)) | ((with_reducible apply toX); refine stX (k := ?_)) | (with_reducible refine Ny.of ?_ ?_) | (refine Hyp.of ?_; intro hc; (try simp only [hc]); (try simp only [Bh] at hc)) | fail)); (all_goals clear hF)))
          refine stCall [encP pj, encR d] (he := c5) (k := ?_)
          (focus (have hF := @hcs; (repeat' (first | (with_reducible refine Nx.of ?_) | ((with_reducible apply toV); refine stV (k := ?_)) | ((with_reducible apply toG); refine stG (k := ?_)) | ((with_reducible apply toG0); refine stG0 (k := ?_)) | ((with_reducible apply toC); refine stC (k := ?_)) | ((with_reducible apply toO); refine stO (k := ?_)) | ((with_reducible apply toX); refine stX (k := ?_)) | (with_reducible refine Ny.of ?_ ?_) | (refine Hyp.of ?_; intro hc; (try simp only [hc]); (try simp only [Bh] at hc)) | fail)); (all_goals clear hF)))
          refine stCall [encP pm, encR d] (he := c6) (k := ?_)
          (focus (have hF := @hcs; (repeat' (first | (with_reducible refine Nx.of ?_) | ((with_reducible apply toV); refine stV (k := ?_)) | ((with_reducible apply toG); refine stG (k := ?_)) | ((with_reducible apply toG0); refine stG0 (k := ?_)) | ((with_reducible apply toC); refine stC (k := ?_)) | ((with_reducible apply toO); refine stO (k := ?_)) | ((with_reducible apply toX); refine stX (k := ?_)) | (with_reducible refine Ny.of ?_ ?_) | (refine Hyp.of ?_; intro hc; (try simp only [hc]); (try simp only [Bh] at hc)) | fail)); (all_goals clear hF)))
          refine stCall [encP pd, encR d] (he := c7) (k := ?_)
          (focus (have hF := @hcs; (repeat' (first | (with_reducible refine Nx.of ?_) | ((with_reducible apply toV); refine stV (k := ?_)) | ((with_reducible apply toG); refine stG (k := ?_)) | ((with_reducible apply toG0); refine stG0 (k := ?_)) | ((with_reducible apply toC); refine stC (k := ?_)) | ((with_reducible apply toO); refine stO (k := ?_)) | ((with_reducible apply toX); refine stX (k := ?_)) | (with_reducible refine Ny.of ?_ ?_) | (refine Hyp.of ?_; intro hc; (try simp only [hc]); (try simp only [Bh] at hc)) | fail)); (all_goals clear hF)))
        all_goals first | (exfalso; omega) | skip
        all_goals
          refine stCall [encP ph, encR d] (he := c8) (k := ?_)
          (focus (have hF := @hcs; (repeat' (first | (with_reducible refine Nx.of ?_) | ((with_reducible apply toV); refine stV (k := ?_)) | ((with_reducible apply toG); refine stG (k := ?_)) | ((with_reducible apply toG0); refine stG0 (k := ?_)) | ((with_reducible apply toC); refine stC (k := ?_)) | ((with_reducible apply toO); refine stO (k := ?_)) | ((with_reducible apply toX); refine stX (k := ?_)) | (with_reducible refine Ny.of ?_ ?_) | (refine Hyp.of ?_; intro hc; (try simp only [hc]); (try simp only [Bh] at hc)) | fail)); (all_goals clear hF)))
          refine stCall [encP x.a, encP x.b] (he := wi) (k := ?_)
          cases w
        all_goals
          (focus (have hF := @hcs; (repeat' (first | (with_reducible refine Nx.of ?_) | ((with_reducible apply toV); refine stV (k := ?_)) | ((with_reducible apply toG); refine stG (k := ?_)) | ((with_reducible apply toG0); refine stG0 (k := ?_)) | ((with_reducible apply toC); refine stC (k := ?_)) | ((with_reducible apply toO); refine stO (k := ?_)) | ((with_reducible apply toX); refine stX (k := ?_)) | (with_reducible refine Ny.of ?_ ?_) | (refine Hyp.of ?_; intro hc; (try simp only [hc]); (try simp only [Bh] at hc)) | fail)); (all_goals clear hF)))
          (refine Fin.nextW (i + 1) ?_ (have hW := @hcs; stWk); (try dsimp only))
          omega
    case' true =>
      obtain ⟨r1, r2, r3⟩ := hdot rfl
      have q1 := hsz rfl
      have q2 := hla rfl
      have q3 : decide (v = 0) = false := by simp; omega
      rw [q3] at em
      rw [show ((decide (0 ≤ d.1) && (decide (d.1 ≤ 15) && decide (1 ≤ d.2))) && (!true && decide (d.2 < lv))) = false by simp] at c8
      cases b
      all_goals
        (focus (have hF := @hcs; (repeat' (first | (with_reducible refine Nx.of ?_) | ((with_reducible apply toV); refine stV (k := ?_)) | ((with_reducible apply toG); refine stG (k := ?_)) | ((with_reducible apply toG0); refine stG0 (k := ?_)) | ((with_reducible apply toC); refine stC (k := ?_)) | ((with_reducible apply toO); refine stO (k := ?_)) | ((with_reducible apply toX); refine stX (k := ?_)) | (with_reducible refine Ny.of ?_ ?_) | (refine Hyp.of ?_; intro hc; (try simp only [hc]); (try simp only [Bh] at hc)) | fail)); (all_goals clear hF)))
        refine stCall [encP x.a, encR d] (he := c4) (k := ?_)
        (focus (have hF := @hcs; (repeat' (first | (with_reducible refine Nx.of ?_) | ((with_reducible apply toV); refine stV (k := ?_)) | ((with_reducible apply toG); refine stG (k := ?_)) | ((with_reducible apply toG0); refine stG0 (k := ?_)) | ((with_reducible apply toC); refine stC (k := ?_)) | ((with_reducible apply toO); refine stO (k := ?_)) | ((with_reducible apply toX); refine stX (k := ?_)) | (with_reducible refine Ny.of ?_ ?_) | (refine Hyp.of ?_; intro hc; (try simp only [hc]); (try simp only [Bh] at hc)) | fail)); (all_goals clear hF)))
        refine stCall [encP pj, encR d] (he := c5) (k := ?_)
        (focus (have hF := @hcs; (repeat' (first | (with_reducible refine Nx.of ?_) | ((with_reducible apply toV); refine stV (k := ?_)) | ((with_reducible apply toG); refine stG (k := ?_)) | ((with_reducible apply toG0); refine stG0 (k := ?_)) | ((with_reducible apply toC); refine stC (k := ?_)) | ((with_reducible apply toO); refine stO (k := ?_)) | ((with_reducible apply toX); refine stX (k := ?_)) | (with_reducible refine Ny.of ?_ ?_) | (refine Hyp.of ?_; intro hc; (try simp only [hc]); (try simp only [Bh] at hc)) | fail)); (all_goals clear hF)))
        refine stCall [encP pm, encR d] (he := c6) (k := ?_)
        (focus (have hF := @hcs; (repeat' (first | (with_reducible refine Nx.of ?_) | ((with_reducible apply toV); refine stV (k := ?_)) | ((with_reducible apply toG); refine stG (k := ?_)) | ((with_reducible apply toG0); refine stG0 (k := ?_)) | ((with_reducible apply toC); refine stC (k := ?_)) | ((with_reducible apply toO); refine stO (k := ?_)) | ((with_reducible apply toX); refine stX (k := ?_)) | (with_reducible refine Ny.of ?_ ?_) | (refine Hyp.of ?_; intro hc; (try simp only [hc]); (try simp only [Bh] at hc)) | fail)); (all_goals clear hF)))
        refine stCall [encP pd, encR d] (he := c7) (k := ?_)
        (focus (have hF := @hcs; (repeat' (first | (with_reducible refine Nx.of ?_) | ((with_reducible apply toV); refine stV (k := ?_)) | ((with_reducible apply toG); refine stG (k := ?_)) | ((with_reducible apply toG0); refine stG0 (k := ?_)) | ((with_reducible apply toC); refine stC (k := ?_)) | ((with_reducible apply toO); refine stO (k := ?_)) | ((with_reducible apply toX); refine stX (k := ?_)) | (with_reducible refine Ny.of ?_ ?_) | (refine Hyp.of ?_; intro hc; (try simp only [hc]); (try simp only [Bh] at hc)) | fail)); (all_goals clear hF)))
        refine stCall [encP ph, encR d] (he := c8) (k := ?_)
        (focus (have hF := @hcs; (repeat' (first | (with_reducible refine Nx.of ?_) | ((with_reducible apply toV); refine stV (k := ?_)) | ((with_reducible apply toG); refine stG (k := ?_)) | ((with_reducible apply toG0); refine stG0 (k := ?_)) | ((with_reducible apply toC); refine stC (k := ?_)) | ((with_reducible apply toO); refine stO (k := ?_)) | ((with_reducible apply toX); refine stX (k := ?_)) | (with_reducible refine Ny.of ?_ ?_) | (refine Hyp.of ?_; intro hc; (try simp only [hc]); (try simp only [Bh] at hc)) | fail)); (all_goals clear hF)))
        refine stCall [encP x.a] (he := em) (k := ?_)
        (focus (have hF := @hcs; (repeat' (first | (with_reducible refine Nx.of ?_) | ((with_reducible apply toV); refine stV (k := ?_)) | ((with_reducible apply toG); refine stG (k := ?_)) | ((with_reducible apply toG0); refine stG0 (k := ?_)) | ((with_reducible apply toC); refine stC (k := ?_)) | ((with_reducible apply toO); refine stO (k := ?_)) | ((with_reducible apply toX); refine stX (k := ?_)) | (with_reducible refine Ny.of ?_ ?_) | (refine Hyp.of ?_; intro hc; (try simp only [hc]); (try simp only [Bh] at hc)) | fail)); (all_goals clear hF)))
        refine stCall [encP x.a] (he := sz) (k := ?_)
        (focus (have hF := @hcs; (repeat' (first | (with_reducible refine Nx.of ?_) | ((with_reducible apply toV); refine stV (k := ?_)) | ((with_reducible apply toG); refine stG (k := ?_)) | ((with_reducible apply toG0); refine stG0 (k := ?_)) | ((with_reducible apply toC); refine stC (k := ?_)) | ((with_reducible apply toO); refine stO (k := ?_)) | ((with_reducible apply toX); refine stX (k := ?_)) | (with_reducible refine Ny.of ?_ ?_) | (refine Hyp.of ?_; intro hc; (try simp only [hc]); (try simp only [Bh] at hc)) | fail)); (all_goals clear hF)))
        refine stCall [encP x.a, .int .i64 d.1] (he := la) (k := ?_)
        (focus (have hF := @hcs; (repeat' (first | (with_reducible refine Nx.of ?_) | ((with_reducible apply toV); refine stV (k := ?_)) | ((with_reducible apply toG); refine stG (k := ?_)) | ((with_reducible apply toG0); refine stG0 (k := ?_)) | ((with_reducible apply toC); refine stC (k := ?_)) | ((with_reducible apply toO); refine stO (k := ?_)) | ((with_reducible apply toX); refine stX (k := ?_)) | (with_reducible refine Ny.of ?_ ?_) | (refine Hyp.of ?_; intro hc; (try simp only [hc]); (try simp only [Bh] at hc)) | fail)); (all_goals clear hF)))
        refine stCall [encP x.a, encP x.b] (he := wi) (k := ?_)
        cases w
      all_goals first | (exfalso; exact Bool.noConfusion (hwi rfl rfl)) | skip
      all_goals
        (focus (have hF := @hcs; (repeat' (first | (with_reducible refine Nx.of ?_) | ((with_reducible apply toV); refine stV (k := ?_)) | ((with_reducible apply toG); refine stG (k := ?_)) | ((with_reducible apply toG0); refine stG0 (k := ?_)) | ((with_reducible apply toC); refine stC (k := ?_)) | ((with_reducible apply toO); refine stO (k := ?_)) | ((with_reducible apply toX); refine stX (k := ?_)) | (with_reducible refine Ny.of ?_ ?_) | (refine Hyp.of ?_; intro hc; (try simp only [hc]); (try simp only [Bh] at hc)) | fail)); (all_goals clear hF)))
        (refine Fin.nextW (i + 1) ?_ (have hW := @hcs; stWk); (try dsimp only))
        omega
  · (focus (have hF := (And.intro @hcs @e1); (repeat' (first | (with_reducible refine Nx.of ?_) | ((with_reducible apply toV); refine stV (k := ?_)) | ((with_reducible apply toG); refine stG (k := ?_)) | ((with_reducible apply toG0); refine stG0 (k := ?_)) | ((with_reducible apply toC); refine stC (k := ?_)) | ((with_reducible apply toO); refine stO (k := ?_)) | ((with_reducible apply toX); refine stX (k := ?_)) | (with_reducible refine Ny.of ?_ ?_) | (refine Hyp.of ?_; intro hc; (try simp only [hc]); (try simp only [Bh] at hc)) | fail)); (all_goals clear hF)))
    exact Fin.tmp' rfl rfl
end Go.Proofs.Ytdmfjkhbodbgoaa.Avm

namespace Go.Proofs.Ytdmfjkhbodbgoaa.Avm
open Go.Proofs
theorem lifted_PastPoints (os : Os) (started : os.Started) (H : Type) (enc : TypeId × Value → H) (F : Stop.Interp) :
    ReturnsInHanded {} Try.checked os 6 .any ((Rows.OpenSpec.upto Rows.pastPointsSpec).pre6 enc Try.prog Try.f6 Rows.pastPointsUptoRow.domain false) (((Rows.OpenSpec.upto Rows.pastPointsSpec).at F).post enc Try.prog Try.f6 false true false false) := by
  refine returnsInHanded_of_cond (C := Try.checked) (s := Rows.OpenSpec.upto Rows.pastPointsSpec) (k := Rows.uptoSmall) rfl own started (by kernel_rfl) Try.func6
    (OpenSpec.witness (enc := enc) (C := Try.checked) (s := Rows.OpenSpec.upto Rows.pastPointsSpec) (k := Rows.uptoSmall) rfl false ⟨#[], #[.agg #[.slice none 0 0, .slice none 0 0, .slice none 0 0, .slice none 0 0, .slice none 0 0, .slice none 0 0, .slice none 0 0, .int .i64 0, .int .i64 0]], []⟩ 8 (by kernel_rfl) (by kernel_rfl) (by kernel_rfl)
      (x := ([.agg [.agg [.nil, .nil], .agg [.nil, .nil], .agg [.nil, .nil], .nil, .lit (.int .i64 0), .lit (.int .i64 0)]], [], [])) (by kernel_rfl) rfl (by kernel_rfl)) ?_
  intro W base args ds gs before hval hW _ hk _
  exact contract_of (s := Rows.pastPointsSpec) Try.func6 Try.params6 (by kernel_rfl) Try.underlying4 Try.underlying28 (by kernel_rfl) (by kernel_rfl) (of_decide_eq_true (by kernel_rfl)) rfl (fun _ _ => rfl)
    op_Case (fun x _ hx => ev_law04PastPoints x (by unfold wtC at hx; omega)) H enc W base args ds gs before hval hW hk
theorem pastPoints_holds : Rows.PastPointsUptoSaid :=
  OpenClaim.holds_of_cond 6 Try.f6 rfl rfl rfl rfl rfl rfl rfl ⟨rfl, rfl, rfl, rfl, rfl⟩ rfl rfl rfl rfl rfl (by kernel_rfl) Try.func6 (by kernel_rfl)
    (of_decide_eq_true (by kernel_rfl)) (by unfold Func.isWrapper; first | (rw [if_pos (by decide +kernel)]; kernel_rfl) | (rw [if_neg (by decide +kernel)]; exact ⟨rfl, rfl⟩))
    (fun os started H enc _ F => lifted_PastPoints os started H enc F)
#print axioms pastPoints_holds
end Go.Proofs.Ytdmfjkhbodbgoaa.Avm
