/- Part 4 of the proof: lemmas. -/
import Derived.Test.YtdmfjkhbodbgoaaL3
import Derived.Test.YtdmfjkhbodbgoaaProg
import Derived.KernelRfl
set_option maxRecDepth 100000
set_option maxHeartbeats 4000000
set_option linter.unusedVariables false
set_option linter.unusedSimpArgs false
set_option linter.unusedSectionVars false
set_option linter.defProp false
namespace Go.Proofs.Ytdmfjkhbodbgoaa.Avm
def inT (t : Tab) (r : Nat) (n : Int) : Prop := mem1 (t.getD r []) n
def inP (p : Pst) (r : Nat) (n : Int) : Prop := r < 16 ∧ 1 ≤ n ∧ n ≤ 1000000000 ∧ ((r < p.vec.length ∧ n ≤ vecAt p.vec r) ∨ ∃ s ∈ p.cloud, s.1 = (r : Int) ∧ s.2.1 ≤ n ∧ n ≤ s.2.2)
theorem inP_pos {p : Pst} {r : Nat} {n : Int} (h : inP p r n) : 1 ≤ n := h.2.1
theorem addAt_row {t : Tab} (k : Nat) (x : Rn) (r : Nat) : (addAt t k x).getD r [] = if r = k ∧ k < t.length then t.getD r [] ++ [x] else t.getD r [] := by
  unfold addAt
  simp only [List.getD_eq_getElem?_getD, List.getElem?_set]
  by_cases h : k = r
  · subst h
    by_cases h2 : k < t.length
    · simp [h2]
    · simp [h2]
  · rw [if_neg h, if_neg (fun hh => h hh.1.symm)]
theorem range_row (v : List Int) (t : Tab) (ht : t.length = 16) : ∀ i, i ≤ 16 → ((List.range i).foldl (putVec v) t).length = 16 ∧ ∀ r, ((List.range i).foldl (putVec v) t).getD r [] = if r < i then t.getD r [] ++ [(1, vecAt v r)] else t.getD r []
  | 0, _ => ⟨ht, fun r => by simp⟩
  | i + 1, hi => by
    obtain ⟨h1, h2⟩ := range_row v t ht i (by omega)
    rw [range_fold]
    generalize (List.range i).foldl (putVec v) t = u at h1 h2 ⊢
    refine ⟨by unfold putVec; rw [addAt_len, h1], fun r => ?_⟩
    unfold putVec
    rw [addAt_row, h1, h2]
    by_cases hr : r = i
    · subst hr
      rw [if_pos ⟨rfl, by omega⟩, if_neg (by omega), if_pos (by omega)]
    · rw [if_neg (fun h => hr h.1)]
      by_cases hlt : r < i
      · rw [if_pos hlt, if_pos (by omega)]
      · rw [if_neg hlt, if_neg (by omega)]
def spansAt (c : List Sn) (r : Nat) : List Rn := (c.filter fun s => decide (s.1 = (r : Int))).map fun s => s.2
theorem cloud_row (r : Nat) (hr : r < 16) : ∀ (c : List Sn) (t : Tab), t.length = 16 → (addCloud c t).length = 16 ∧ (addCloud c t).getD r [] = t.getD r [] ++ spansAt c r
  | [], t, ht => ⟨ht, by simp [addCloud, spansAt]⟩
  | s :: c, t, ht => by
    have hl : (putSn t s).length = 16 := by
      unfold putSn
      split
      · rw [addAt_len, ht]
      · exact ht
    obtain ⟨h1, h2⟩ := cloud_row r hr c (putSn t s) hl
    refine ⟨h1, ?_⟩
    show (addCloud c (putSn t s)).getD r [] = _
    rw [h2]
    unfold putSn spansAt
    rw [List.filter_cons]
    by_cases hs : s.1 = (r : Int)
    · rw [if_pos (by omega), addAt_row, if_pos ⟨by omega, by omega⟩]
      simp [hs]
    · simp only [hs, decide_false, Bool.false_eq_true, if_false]
      split
      · rw [addAt_row, if_neg (by omega)]
      · rfl
theorem spansAt_in (c : List Sn) (r : Nat) (n : Int) : inR (spansAt c r) n ↔ ∃ s ∈ c, s.1 = (r : Int) ∧ s.2.1 ≤ n ∧ n ≤ s.2.2 := by
  constructor
  · rintro ⟨x, hx, h1, h2⟩
    simp only [spansAt, List.mem_map, List.mem_filter, decide_eq_true_eq] at hx
    obtain ⟨s, ⟨hs, hr⟩, rfl⟩ := hx
    exact ⟨s, hs, hr, h1, h2⟩
  · rintro ⟨s, hs, hr, h1, h2⟩
    exact ⟨s.2, by simp only [spansAt, List.mem_map, List.mem_filter, decide_eq_true_eq]; exact ⟨s, ⟨hs, hr⟩, rfl⟩, h1, h2⟩
theorem one_row {t : Tab} (ht : t.length = 16) (p : Pst) {r : Nat} (hr : r < 16) : (openOne t p).length = 16 ∧ (openOne t p).getD r [] = (if r < p.vec.length then t.getD r [] ++ [(1, vecAt p.vec r)] else t.getD r []) ++ spansAt p.cloud r := by
  obtain ⟨h1, h2⟩ := range_row p.vec t ht (min p.vec.length 16) (by omega)
  obtain ⟨h3, h4⟩ := cloud_row r hr p.cloud (addVec p.vec t) h1
  refine ⟨h3, ?_⟩
  show (addCloud p.cloud (addVec p.vec t)).getD r [] = _
  rw [h4]
  unfold addVec
  rw [h2]
  by_cases h : r < p.vec.length
  · rw [if_pos h, if_pos (by omega)]
  · rw [if_neg h, if_neg (by omega)]
theorem one_in {t : Tab} (ht : t.length = 16) (p : Pst) {r : Nat} (hr : r < 16) (n : Int) : inT (openOne t p) r n ↔ inT t r n ∨ inP p r n := by
  unfold inT mem1
  rw [(one_row ht p hr).2, inR_append, spansAt_in]
  unfold inP
  constructor
  · rintro ⟨h1, h2, h | h⟩
    · split at h
      · rename_i hv
        rcases (inR_append _ _ _).1 h with h | h
        · exact .inl ⟨h1, h2, h⟩
        · exact .inr ⟨hr, h1, h2, .inl ⟨hv, ((inR_one _ _).1 h).2⟩⟩
      · exact .inl ⟨h1, h2, h⟩
    · exact .inr ⟨hr, h1, h2, .inr h⟩
  · rintro (⟨h1, h2, h⟩ | ⟨_, h1, h2, h | h⟩)
    · refine ⟨h1, h2, .inl ?_⟩
      split
      · exact (inR_append _ _ _).2 (.inl h)
      · exact h
    · refine ⟨h1, h2, .inl ?_⟩
      rw [if_pos h.1]
      exact (inR_append _ _ _).2 (.inr ((inR_one _ _).2 ⟨h1, h.2⟩))
    · exact ⟨h1, h2, .inr h⟩
theorem tab0_in (r : Nat) (n : Int) : ¬ inT tab0 r n := by
  unfold inT mem1
  rintro ⟨_, _, h⟩
  have : tab0.getD r [] = [] := by
    unfold tab0
    rw [List.getD_eq_getElem?_getD, List.getElem?_replicate]
    split <;> rfl
  rw [this] at h
  exact inR_nil n h
theorem open_in_aux {r : Nat} (hr : r < 16) (n : Int) : ∀ (ps : List Pst) (t : Tab), t.length = 16 → (inT (ps.foldl openOne t) r n ↔ inT t r n ∨ ∃ p ∈ ps, inP p r n)
  | [], t, ht => by simp
  | p :: ps, t, ht => by
    rw [List.foldl_cons, open_in_aux hr n ps _ (one_row ht p hr).1, one_in ht p hr]
    constructor
    · rintro ((h | h) | ⟨q, hq, h⟩)
      · exact .inl h
      · exact .inr ⟨p, by simp, h⟩
      · exact .inr ⟨q, by simp [hq], h⟩
    · rintro (h | ⟨q, hq, h⟩)
      · exact .inl (.inl h)
      · rcases List.mem_cons.1 hq with rfl | hq
        · exact .inl (.inr h)
        · exact .inr ⟨q, hq, h⟩
theorem open_in {r : Nat} (hr : r < 16) (ps : List Pst) (n : Int) : inT (openT ps) r n ↔ ∃ p ∈ ps, inP p r n := by
  unfold openT
  rw [open_in_aux hr n ps tab0 rfl]
  exact ⟨fun h => h.elim (fun h => absurd h (tab0_in r n)) id, .inr⟩
theorem leadOf_in {m : List Rn} (h : Can m) (n : Int) : inR m n ↔ (1 ≤ n ∧ n ≤ (leadOf m).1) ∨ inR (leadOf m).2 n := by
  cases m with
  | nil =>
    simp only [leadOf]
    constructor
    · exact .inr
    · rintro (h | h)
      · omega
      · exact h
  | cons x l =>
    have hx := (Can.cons_iff.1 h).1
    unfold okR at hx
    by_cases h1 : x.1 = 1
    · rw [leadOf_1 h1, inR_cons]
      simp only [h1]
    · rw [leadOf_2 h1]
      constructor
      · exact .inr
      · rintro (h | h)
        · omega
        · exact h
theorem leadOf_can {m : List Rn} (h : Can m) : Can (leadOf m).2 ∧ 0 ≤ (leadOf m).1 ∧ (leadOf m).1 ≤ 1000000000 ∧ ∀ n, inR (leadOf m).2 n → (leadOf m).1 + 1 < n := by
  cases m with
  | nil => exact ⟨Can.nil, by simp [leadOf], by simp [leadOf], fun n hn => absurd hn (inR_nil n)⟩
  | cons x l =>
    have hx := (Can.cons_iff.1 h).1
    unfold okR at hx
    by_cases h1 : x.1 = 1
    · rw [leadOf_1 h1]
      exact ⟨h.tail, by show 0 ≤ x.2; omega, hx.2.2, fun n hn => h.above hn⟩
    · rw [leadOf_2 h1]
      refine ⟨h, Int.le_refl _, by show (0 : Int) ≤ _; omega, fun n hn => ?_⟩
      show (0 : Int) + 1 < n
      rcases (inR_cons x l n).1 hn with hn | hn
      · omega
      · have := h.above hn; omega
theorem size_above (t : Tab) : ∀ (m r : Nat), r < m → sizeT t m ≤ r → leadT t r ≤ 0
  | 0, r, hr, _ => by omega
  | m + 1, r, hr, h => by
    rw [sizeT_succ] at h
    split at h
    · omega
    · rename_i hl
      by_cases hrm : r = m
      · subst hrm; omega
      · exact size_above t m r (by omega) h
theorem leadsT_get (t : Tab) {m r : Nat} (h : r < m) : (leadsT t m)[r]? = some (leadT t r) := by simp [leadsT, h]
theorem cloudT_in (t : Tab) {m r : Nat} (hr : r < m) (n : Int) : (∃ s ∈ cloudT t m, s.1 = (r : Int) ∧ s.2.1 ≤ n ∧ n ≤ s.2.2) ↔ inR (restT t r) n := by
  constructor
  · rintro ⟨s, hs, h1, h2, h3⟩
    simp only [cloudT, List.mem_flatMap, List.mem_range, cloudRow, List.mem_map] at hs
    obtain ⟨k, hk, x, hx, rfl⟩ := hs
    simp only [spanOf] at h1 h2 h3
    have : k = r := by omega
    subst this
    exact ⟨x, hx, h2, h3⟩
  · rintro ⟨x, hx, h2, h3⟩
    refine ⟨spanOf r x, ?_, rfl, h2, h3⟩
    simp only [cloudT, List.mem_flatMap, List.mem_range, cloudRow, List.mem_map]
    exact ⟨r, hr, x, hx, rfl⟩
theorem past_in (t : Tab) {r : Nat} (hr : r < 16) (n : Int) : inP (pastT t) r n ↔ inT t r n := by
  have hc := normR_can (t.getD r [])
  have hlead := leadOf_in hc n
  rw [normR_in] at hlead
  have hb := leadOf_can hc
  have hcl := cloudT_in t hr n
  have hsz := sizeT_le t 16
  unfold inP inT
  show r < 16 ∧ 1 ≤ n ∧ n ≤ 1000000000 ∧ ((r < ((leadsT t 16).take (sizeT t 16)).length ∧ n ≤ vecAt ((leadsT t 16).take (sizeT t 16)) r) ∨ ∃ s ∈ cloudT t 16, s.1 = (r : Int) ∧ s.2.1 ≤ n ∧ n ≤ s.2.2) ↔ _
  rw [hcl, hlead, List.length_take, leadsT_len]
  have hv : r < sizeT t 16 → vecAt ((leadsT t 16).take (sizeT t 16)) r = leadT t r := fun h => by
    unfold vecAt
    rw [List.getD_eq_getElem?_getD, List.getElem?_take, if_pos h, leadsT_get t hr]
    rfl
  constructor
  · rintro ⟨_, h1, h2, ⟨h3, h4⟩ | h⟩
    · rw [hv (by omega)] at h4
      exact .inl ⟨h1, h4⟩
    · exact .inr h
  · rintro (⟨h1, h2⟩ | h)
    · refine ⟨hr, h1, by omega, .inl ?_⟩
      have : r < sizeT t 16 := by
        rcases Nat.lt_or_ge r (sizeT t 16) with h | h
        · exact h
        · have := size_above t 16 r hr h
          unfold leadT at this
          omega
      exact ⟨by omega, by rw [hv this]; exact h2⟩
    · have h1 := hb.1.bound h
      exact ⟨hr, h1.1, h1.2, .inr h⟩
theorem isDot_iff (a b : Int) : isDotR a b = true ↔ 0 ≤ a ∧ a < 16 ∧ 1 ≤ b ∧ b ≤ 1000000000 := by
  simp only [isDotR, Bool.and_eq_true, decide_eq_true_eq]
theorem hasP_iff (p : Pst) (d : Rn) : hasP p d = true ↔ 0 ≤ d.1 ∧ inP p d.1.toNat d.2 := by
  unfold hasP inP
  rw [Bool.and_eq_true, isDot_iff, Bool.or_eq_true, Bool.and_eq_true, decide_eq_true_eq, decide_eq_true_eq, List.any_eq_true]
  constructor
  · rintro ⟨⟨h1, h2, h3, h4⟩, h⟩
    refine ⟨h1, by omega, h3, h4, ?_⟩
    rcases h with h | ⟨s, hs, h⟩
    · exact .inl ⟨by omega, h.2⟩
    · simp only [inSn, Bool.and_eq_true, decide_eq_true_eq] at h
      exact .inr ⟨s, hs, by omega, h.2⟩
  · rintro ⟨h1, h2, h3, h4, h⟩
    refine ⟨⟨h1, by omega, h3, h4⟩, ?_⟩
    rcases h with h | ⟨s, hs, h⟩
    · exact .inl ⟨by omega, h.2⟩
    · refine .inr ⟨s, hs, ?_⟩
      simp only [inSn, Bool.and_eq_true, decide_eq_true_eq]
      exact ⟨by omega, h.2⟩
theorem lastP_top (p : Pst) {r : Nat} (hr : r < 16) : IsTop (inP p r) (lastP p (r : Int)) := by
  rw [lastP_in (by omega), Int.toNat_natCast]
  refine (lastR_top _).iff fun n => ?_
  have := open_in hr [p] n
  unfold inT at this
  rw [this]
  simp
theorem meanT_len (ps : List Pst) : (meanT ps).length = 16 := by
  unfold meanT
  rw [List.length_map]
  exact (openT_le ps).1
theorem meanT_row (ps : List Pst) {r : Nat} (hr : r < 16) : (meanT ps).getD r [] = turnsR ((openT ps).getD r []) := by
  have h := (openT_le ps).1
  unfold meanT
  simp [List.getD_eq_getElem?_getD, h, hr]
theorem lastSet_top (p : Pst) {r : Nat} (hr : r < 16) : IsTop (inP p r) (lastSet (meanT [p]) (r : Int)) := by
  rw [lastSet_in (by omega), Int.toNat_natCast, meanT_row [p] hr]
  refine ((turnsC_ok (normR_can ((openT [p]).getD r []))).top).iff fun n => ?_
  have := open_in hr [p] n
  unfold inT at this
  rw [normR_in, this]
  simp
theorem last_eq (p : Pst) (r : Int) : lastSet (meanT [p]) r = lastP p r := by
  by_cases h : 0 ≤ r ∧ r < 16
  · obtain ⟨k, rfl⟩ : ∃ k : Nat, r = k := ⟨r.toNat, by omega⟩
    exact (lastSet_top p (by omega)).uniq (fun n hn => inP_pos hn) (lastP_top p (by omega))
  · rw [lastP_out h, lastSet_out h]
theorem dots_row (r : Nat) (hr : r < 16) (n : Int) : ∀ (ds : List Rn) (t : Tab), t.length = 16 → (inT (ds.foldl putDot t) r n ↔ inT t r n ∨ (1 ≤ n ∧ n ≤ 1000000000 ∧ ((r : Int), n) ∈ ds))
  | [], t, ht => by simp
  | d :: ds, t, ht => by
    have hl : (putDot t d).length = 16 := by
      unfold putDot
      split
      · rw [addAt_len, ht]
      · exact ht
    rw [List.foldl_cons, dots_row r hr n ds _ hl]
    have hd : inT (putDot t d) r n ↔ inT t r n ∨ (1 ≤ n ∧ n ≤ 1000000000 ∧ ((r : Int), n) = d) := by
      unfold inT mem1 putDot
      split
      · rename_i h
        have hdot := (isDot_iff _ _).1 h
        rw [addAt_row]
        split
        · rename_i hk
          rw [inR_append, inR_one]
          constructor
          · rintro ⟨h1, h2, h3 | h3⟩
            · exact .inl ⟨h1, h2, h3⟩
            · exact .inr ⟨h1, h2, Prod.ext (by show (r : Int) = d.1; omega) (by show n = d.2; omega)⟩
          · rintro (⟨h1, h2, h3⟩ | ⟨h1, h2, rfl⟩)
            · exact ⟨h1, h2, .inl h3⟩
            · exact ⟨h1, h2, .inr ⟨Int.le_refl _, Int.le_refl _⟩⟩
        · rename_i hk
          constructor
          · exact .inl
          · rintro (h1 | ⟨h1, h2, rfl⟩)
            · exact h1
            · exact absurd ⟨by simp, by omega⟩ hk
      · rename_i h
        constructor
        · exact .inl
        · rintro (h1 | ⟨h1, h2, rfl⟩)
          · exact h1
          · exact absurd ((isDot_iff _ _).2 ⟨by omega, by omega, h1, h2⟩) h
    rw [hd, List.mem_cons]
    constructor
    · rintro ((h | ⟨h1, h2, h3⟩) | ⟨h1, h2, h3⟩)
      · exact .inl h
      · exact .inr ⟨h1, h2, .inl h3⟩
      · exact .inr ⟨h1, h2, .inr h3⟩
    · rintro (h | ⟨h1, h2, h3 | h3⟩)
      · exact .inl (.inl h)
      · exact .inl (.inr ⟨h1, h2, h3⟩)
      · exact .inr ⟨h1, h2, h3⟩
def normP (p : Pst) : Pst := pastT (openT [p])
def joinP (ps : List Pst) : Pst := pastT (openT ps)
def ofP (ds : List Rn) : Pst := pastT (ofT ds)
def putP (p : Pst) (d : Rn) : Pst := joinP [p, ofP [d]]
theorem ofP_in (ds : List Rn) {r : Nat} (hr : r < 16) (n : Int) : inP (ofP ds) r n ↔ 1 ≤ n ∧ n ≤ 1000000000 ∧ ((r : Int), n) ∈ ds := by
  unfold ofP
  rw [past_in _ hr]
  unfold ofT
  rw [dots_row r hr n ds tab0 rfl]
  exact ⟨fun h => h.elim (fun h => absurd h (tab0_in r n)) id, .inr⟩
theorem joinP_in (ps : List Pst) {r : Nat} (hr : r < 16) (n : Int) : inP (joinP ps) r n ↔ ∃ p ∈ ps, inP p r n := by
  unfold joinP
  rw [past_in _ hr, open_in hr]
theorem putP_in (p : Pst) (d : Rn) {r : Nat} (hr : r < 16) (n : Int) : inP (putP p d) r n ↔ inP p r n ∨ (1 ≤ n ∧ n ≤ 1000000000 ∧ ((r : Int), n) = d) := by
  unfold putP
  rw [joinP_in _ hr]
  constructor
  · rintro ⟨q, hq, h⟩
    simp only [List.mem_cons, List.not_mem_nil, or_false] at hq
    rcases hq with rfl | rfl
    · exact .inl h
    · have := (ofP_in [d] hr n).1 h
      simpa using Or.inr this
  · rintro (h | h)
    · exact ⟨p, by simp, h⟩
    · exact ⟨ofP [d], by simp, (ofP_in [d] hr n).2 ⟨h.1, h.2.1, by simp [h.2.2]⟩⟩
theorem next_ok (p : Pst) (r m : Int) (h : (nextOf (lastP p) r m).2 = 0) : hasP p (nextOf (lastP p) r m).1 = false ∧ lastP (putP p (nextOf (lastP p) r m).1) (nextOf (lastP p) r m).1.1 = (nextOf (lastP p) r m).1.2 := by
  by_cases h1 : r < 0 ∨ 16 ≤ r
  · rw [nextOf_1 h1] at h; simp at h
  · by_cases h2 : min m 1000000000 ≤ lastP p r
    · rw [nextOf_2 h1 h2] at h; simp at h
    · rw [nextOf_3 h1 h2]
      obtain ⟨k, rfl⟩ : ∃ k : Nat, r = k := ⟨r.toNat, by omega⟩
      have hk : k < 16 := by omega
      have ht := lastP_top p hk
      have h0 := lastP_nonneg p k
      constructor
      · cases hh : hasP p ((k : Int), lastP p k + 1) with
        | false => rfl
        | true =>
          have := ((hasP_iff _ _).1 hh).2
          simp only [Int.toNat_natCast] at this
          have := ht.2 _ this
          omega
      · refine (lastP_top (putP p ((k : Int), lastP p k + 1)) hk).uniq (fun n hn => inP_pos hn) ⟨.inr ?_, fun n hn => ?_⟩
        · show inP (putP p ((k : Int), lastP p k + 1)) k (lastP p k + 1)
          rw [putP_in _ _ hk]
          exact .inr ⟨by show 1 ≤ lastP p k + 1; omega, by show lastP p k + 1 ≤ _; omega, rfl⟩
        · rcases (putP_in _ _ hk n).1 hn with hn | ⟨_, _, hn⟩
          · have := ht.2 n hn
            show n ≤ lastP p k + 1
            omega
          · have := congrArg Prod.snd hn
            exact Int.le_of_eq this
end Go.Proofs.Ytdmfjkhbodbgoaa.Avm

namespace Go.Proofs.Ytdmfjkhbodbgoaa.Avm
open Go.Proofs
def r_spanSize_1 : List SOp :=
  [⟨(some 2), (.assign (.const (.int .i64 0))), none⟩]
instance : Live r_spanSize_1 := ⟨[0]⟩
def r_spanSize_2 : List SOp :=
  [⟨(some 3), (.assign (.const (.int .i64 0))), none⟩]
instance : Live r_spanSize_2 := ⟨[0]⟩
def r_spanSize_3 : List SOp :=
  [⟨(some 6), (.move (.tmp 0)), none⟩, ⟨(some 7), (.call ⟨.value (.func 92), #[.tmp 6], #[58]⟩), none⟩, ⟨(some 8), (.call ⟨.builtin .len, #[.tmp 7], #[58]⟩), none⟩, ⟨(some 9), (.move (.const (.int .i64 0))), none⟩]
instance : Live r_spanSize_3 := ⟨[0, 3]⟩
def r_spanSize_4 : List SOp :=
  [⟨(some 10), (.binOp .lss 3 (.tmp 9) (.tmp 8) 3), none⟩]
instance : Live r_spanSize_4 := ⟨[3, 7, 8, 9]⟩
def r_spanSize_5 : List SOp :=
  [⟨(some 11), (.indexAddr 58 (.tmp 7) (.tmp 9)), none⟩, ⟨(some 12), (.load 73 (.tmp 11)), none⟩, ⟨(some 5), (.alloc 73), none⟩, ⟨none, (.store 73 (.tmp 5) (.tmp 12)), none⟩]
instance : Live r_spanSize_5 := ⟨[3, 7, 8, 9]⟩
def r_spanSize_6 : List SOp :=
  [⟨(some 13), (.move (.tmp 3)), none⟩, ⟨(some 14), (.fieldAddr 73 (.tmp 5) 1), none⟩, ⟨(some 15), (.load 3 (.tmp 14)), none⟩, ⟨(some 16), (.fieldAddr 73 (.tmp 5) 0), none⟩, ⟨(some 17), (.load 3 (.tmp 16)), none⟩, ⟨(some 18), (.binOp .sub 3 (.tmp 15) (.tmp 17) 3), none⟩, ⟨(some 19), (.binOp .add 3 (.tmp 18) (.const (.int .i64 1)) 3), none⟩, ⟨(some 20), (.binOp .add 3 (.tmp 13) (.tmp 19) 3), none⟩, ⟨(some 3), (.assign (.tmp 20)), none⟩]
instance : Live r_spanSize_6 := ⟨[3, 5, 7, 8, 9]⟩
def r_spanSize_7 : List SOp :=
  [⟨(some 21), (.binOp .add 3 (.tmp 9) (.const (.int .i64 1)) 3), none⟩, ⟨(some 9), (.move (.tmp 21)), none⟩]
instance : Live r_spanSize_7 := ⟨[3, 7, 8, 9]⟩
def r_spanSize_8 : List SOp :=
  [⟨(some 22), (.move (.tmp 3)), none⟩, ⟨(some 2), (.assign (.tmp 22)), none⟩]
instance : Live r_spanSize_8 := ⟨[3]⟩
def t_spanSize_l1 : SC :=
  (.seq (.ops false r_spanSize_4) (.seq (.cond (.tmp 10) .skip (.exit 0)) (.seq (.block 1 (.seq (.ops false r_spanSize_5) (.ops false r_spanSize_6))) (.ops false r_spanSize_7))))
def t_spanSize : SC :=
  (.seq (.ops false r_spanSize_1) (.seq (.ops false r_spanSize_2) (.seq (.seq (.ops false r_spanSize_3) (.block 0 (.loop t_spanSize_l1))) (.seq (.ops false r_spanSize_8) .ret))))
theorem it_spanSize : FnIs Try.prog 53 23 [.tmp 2] t_spanSize := ⟨Try.f53, _, Try.func53, rfl, rfl, rfl, rfl, by kernel_rfl⟩
end Go.Proofs.Ytdmfjkhbodbgoaa.Avm

namespace Go.Proofs.Ytdmfjkhbodbgoaa.Avm
open Go.Proofs
def sizeStep (a : Int) (r : Rn) : Int := a + (r.2 - r.1 + 1)
def sizeR (m : List Rn) : Int := m.foldl sizeStep 0
def okRuns (m : List Rn) : Prop := ∀ r ∈ m, 1 ≤ r.1 ∧ r.1 ≤ r.2 ∧ r.2 ≤ 1000000000
theorem sizeFold_le {m : List Rn} (h : okRuns m) (a : Int) : a ≤ m.foldl sizeStep a ∧ m.foldl sizeStep a ≤ a + 1000000000 * (m.length : Int) := by
  induction m generalizing a with
  | nil => simp
  | cons r m ih =>
    have h1 := h r (by simp)
    have h2 := ih (fun x hx => h x (by simp [hx])) (sizeStep a r)
    simp only [List.foldl_cons, List.length_cons]
    unfold sizeStep at h2 ⊢
    omega
theorem ev_spanSize_of (l m : List Rn) (hm : m.length ≤ 1000000000) (hr : okRuns m) (hN : Ev (En Try.prog rfl).P 92 [.sl 2 (encRs l)] (.ret (.sl 2 (encRs m)))) : Ev (En Try.prog rfl).P 53 [.sl 2 (encRs l)] (.ret (.int .i64 (sizeR m))) := by
  refine Ev.of_body it_spanSize (by simp) (Run.start ?_)
  unfold t_spanSize
  have e0 : (encRs m).length = m.length := encRs_len m
  (focus (have hF := True.intro; (repeat' (first | (with_reducible refine Nx.of ?_) | ((with_reducible apply toV); refine stV (k := ?_)) | ((with_reducible apply toG); refine stG (k := ?_); (with_reducible refine Nx.of ?_)) | ((with_reducible apply toG0); refine stG0 (k := ?_); (with_reducible refine Nx.of ?_)) | ((with_reducible apply toC); refine stC (k := ?_); (with_reducible refine Nx.of ?_)) | ((with_reducible apply toO); refine stO (k := ?_)) | ((with_reducible apply toX); refine stX (k := ?_)) | fail)); (all_goals clear hF)))
  refine awp_pure (l := [.sl 2 (encRs l)]) rfl rfl (by simp [stbs, AVal.stb, encRs_stb]) hN ?_
  (focus (have hF := @e0; (repeat' (first | (with_reducible refine Nx.of ?_) | ((with_reducible apply toV); refine stV (k := ?_)) | ((with_reducible apply toG); refine stG (k := ?_); (with_reducible refine Nx.of ?_)) | ((with_reducible apply toG0); refine stG0 (k := ?_); (with_reducible refine Nx.of ?_)) | ((with_reducible apply toC); refine stC (k := ?_); (with_reducible refine Nx.of ?_)) | ((with_reducible apply toO); refine stO (k := ?_)) | ((with_reducible apply toX); refine stX (k := ?_)) | fail)); (all_goals clear hF)))
  refine Run.range m.length (fun i => ⟨tms [(3, .int .i64 ((m.take i).foldl sizeStep 0)), (7, .sl 2 (encRs m)), (8, .int .i64 m.length), (9, .int .i64 i)], NoM⟩) (Wk.clean _ ⟨rfl, rfl, rfl, rfl, trivial⟩ ⟨rfl, encRs_stb m, rfl, rfl, trivial⟩) (fun i hi => ?_) ?_
  · obtain ⟨r, hx⟩ : ∃ r, m[i]? = some r := ⟨m[i], by simp [hi]⟩
    have hrr := hr r (List.mem_of_getElem? hx)
    have hb := sizeFold_le (m := m.take i) (fun x hx => hr x (List.mem_of_mem_take hx)) 0
    have hlen : (m.take i).length ≤ 1000000000 := by rw [List.length_take]; omega
    rw [foldl_take sizeStep 0 m hx]
    generalize (m.take i).foldl sizeStep 0 = a at hb ⊢
    have e1 : ((i : Int) < (m.length : Int)) = True := by simp only [eq_iff_iff, iff_true]; omega
    have e2 : (0 ≤ (i : Int)) = True := by simp
    have e3 : (encRs m)[i]? = some (.agg [.int .i64 r.1, .int .i64 r.2]) := encRs_get hx
    have e4 : IntKind.i64.wrap (r.2 - r.1) = r.2 - r.1 := wrap_id (by omega)
    have e5 : IntKind.i64.wrap (r.2 - r.1 + 1) = r.2 - r.1 + 1 := wrap_id (by omega)
    have e6 : IntKind.i64.wrap (a + (r.2 - r.1 + 1)) = a + (r.2 - r.1 + 1) := wrap_id (by omega)
    have e13 : IntKind.i64.wrap ((i : Int) + 1) = ((i + 1 : Nat) : Int) := by rw [wrap_id (by omega)]; omega
    unfold t_spanSize_l1
    (focus (have hF := (And.intro (And.intro (And.intro @e0 @e1) (And.intro @e2 @e3)) (And.intro (And.intro @e4 @e5) (And.intro @e6 @e13))); (repeat' (first | (with_reducible refine Nx.of ?_) | ((with_reducible apply toV); refine stV (k := ?_)) | ((with_reducible apply toG); refine stG (k := ?_); (with_reducible refine Nx.of ?_)) | ((with_reducible apply toG0); refine stG0 (k := ?_); (with_reducible refine Nx.of ?_)) | ((with_reducible apply toC); refine stC (k := ?_); (with_reducible refine Nx.of ?_)) | ((with_reducible apply toO); refine stO (k := ?_)) | ((with_reducible apply toX); refine stX (k := ?_)) | fail)); (all_goals clear hF)))
    exact Fin.next (Wk.clean _ ⟨rfl, rfl, rfl, rfl, trivial⟩ ⟨rfl, encRs_stb m, rfl, rfl, trivial⟩)
  · have e1 : ((m.length : Int) < (m.length : Int)) = False := by simp
    have e3 : m.take m.length = m := List.take_length
    rw [e3]
    unfold t_spanSize_l1
    (focus (have hF := (And.intro @e0 @e1); (repeat' (first | (with_reducible refine Nx.of ?_) | ((with_reducible apply toV); refine stV (k := ?_)) | ((with_reducible apply toG); refine stG (k := ?_); (with_reducible refine Nx.of ?_)) | ((with_reducible apply toG0); refine stG0 (k := ?_); (with_reducible refine Nx.of ?_)) | ((with_reducible apply toC); refine stC (k := ?_); (with_reducible refine Nx.of ?_)) | ((with_reducible apply toO); refine stO (k := ?_)) | ((with_reducible apply toX); refine stX (k := ?_)) | fail)); (all_goals clear hF)))
    exact Fin.tmp' rfl rfl
end Go.Proofs.Ytdmfjkhbodbgoaa.Avm

namespace Go.Proofs.Ytdmfjkhbodbgoaa.Avm
open Go.Proofs
def r_ref04Same_1 : List SOp :=
  [⟨(some 2), (.box 25 (.tmp 0)), none⟩, ⟨(some 3), (.box 25 (.tmp 1)), none⟩, ⟨(some 4), (.assign (.const (.bool false))), none⟩]
instance : Live r_ref04Same_1 := ⟨[0, 1]⟩
def r_ref04Same_2 : List SOp :=
  [⟨(some 7), (.fieldAddr 25 (.tmp 2) 0), none⟩, ⟨(some 8), (.load 22 (.tmp 7)), none⟩, ⟨(some 9), (.call ⟨.builtin .len, #[.tmp 8], #[22]⟩), none⟩, ⟨(some 10), (.fieldAddr 25 (.tmp 3) 0), none⟩, ⟨(some 11), (.load 22 (.tmp 10)), none⟩, ⟨(some 12), (.call ⟨.builtin .len, #[.tmp 11], #[22]⟩), none⟩, ⟨(some 13), (.binOp .neq 3 (.tmp 9) (.tmp 12) 3), none⟩, ⟨(some 14), (.move (.tmp 13)), none⟩, ⟨(some 15), (.fieldAddr 25 (.tmp 2) 1), (some ((some 14), false))⟩, ⟨(some 16), (.load 23 (.tmp 15)), (some ((some 14), false))⟩, ⟨(some 17), (.call ⟨.builtin .len, #[.tmp 16], #[23]⟩), (some ((some 14), false))⟩, ⟨(some 18), (.fieldAddr 25 (.tmp 3) 1), (some ((some 14), false))⟩, ⟨(some 19), (.load 23 (.tmp 18)), (some ((some 14), false))⟩, ⟨(some 20), (.call ⟨.builtin .len, #[.tmp 19], #[23]⟩), (some ((some 14), false))⟩, ⟨(some 21), (.binOp .neq 3 (.tmp 17) (.tmp 20) 3), (some ((some 14), false))⟩, ⟨(some 22), (.pick (.tmp 14) (.const (.bool true)) (.tmp 21)), none⟩]
instance : Live r_ref04Same_2 := ⟨[2, 3]⟩
def r_ref04Same_3 : List SOp :=
  [⟨(some 4), (.assign (.const (.bool false))), none⟩]
instance : Live r_ref04Same_3 := ⟨[]⟩
def r_ref04Same_4 : List SOp :=
  [⟨(some 5), (.assign (.const (.int .i64 0))), none⟩]
instance : Live r_ref04Same_4 := ⟨[2, 3]⟩
def r_ref04Same_5 : List SOp :=
  [⟨(some 23), (.move (.tmp 5)), none⟩, ⟨(some 24), (.fieldAddr 25 (.tmp 2) 0), none⟩, ⟨(some 25), (.load 22 (.tmp 24)), none⟩, ⟨(some 26), (.call ⟨.builtin .len, #[.tmp 25], #[22]⟩), none⟩, ⟨(some 27), (.binOp .lss 3 (.tmp 23) (.tmp 26) 3), none⟩]
instance : Live r_ref04Same_5 := ⟨[2, 3, 5]⟩
def r_ref04Same_6 : List SOp :=
  [⟨(some 30), (.fieldAddr 25 (.tmp 2) 0), none⟩, ⟨(some 31), (.load 22 (.tmp 30)), none⟩, ⟨(some 32), (.move (.tmp 5)), none⟩, ⟨(some 33), (.indexAddr 22 (.tmp 31) (.tmp 32)), none⟩, ⟨(some 34), (.load 3 (.tmp 33)), none⟩, ⟨(some 35), (.fieldAddr 25 (.tmp 3) 0), none⟩, ⟨(some 36), (.load 22 (.tmp 35)), none⟩, ⟨(some 37), (.move (.tmp 5)), none⟩, ⟨(some 38), (.indexAddr 22 (.tmp 36) (.tmp 37)), none⟩, ⟨(some 39), (.load 3 (.tmp 38)), none⟩, ⟨(some 40), (.binOp .neq 3 (.tmp 34) (.tmp 39) 3), none⟩]
instance : Live r_ref04Same_6 := ⟨[2, 3, 5]⟩
def r_ref04Same_7 : List SOp :=
  [⟨(some 4), (.assign (.const (.bool false))), none⟩]
instance : Live r_ref04Same_7 := ⟨[]⟩
def r_ref04Same_8 : List SOp :=
  [⟨(some 28), (.move (.tmp 5)), none⟩, ⟨(some 29), (.binOp .add 3 (.tmp 28) (.const (.int .i64 1)) 3), none⟩, ⟨(some 5), (.assign (.tmp 29)), none⟩]
instance : Live r_ref04Same_8 := ⟨[2, 3, 5]⟩
def r_ref04Same_9 : List SOp :=
  [⟨(some 6), (.assign (.const (.int .i64 0))), none⟩]
instance : Live r_ref04Same_9 := ⟨[2, 3]⟩
def r_ref04Same_10 : List SOp :=
  [⟨(some 41), (.move (.tmp 6)), none⟩, ⟨(some 42), (.fieldAddr 25 (.tmp 2) 1), none⟩, ⟨(some 43), (.load 23 (.tmp 42)), none⟩, ⟨(some 44), (.call ⟨.builtin .len, #[.tmp 43], #[23]⟩), none⟩, ⟨(some 45), (.binOp .lss 3 (.tmp 41) (.tmp 44) 3), none⟩]
instance : Live r_ref04Same_10 := ⟨[2, 3, 6]⟩
def r_ref04Same_11 : List SOp :=
  [⟨(some 48), (.fieldAddr 25 (.tmp 2) 1), none⟩, ⟨(some 49), (.load 23 (.tmp 48)), none⟩, ⟨(some 50), (.move (.tmp 6)), none⟩, ⟨(some 51), (.indexAddr 23 (.tmp 49) (.tmp 50)), none⟩, ⟨(some 52), (.load 41 (.tmp 51)), none⟩, ⟨(some 53), (.fieldAddr 25 (.tmp 3) 1), none⟩, ⟨(some 54), (.load 23 (.tmp 53)), none⟩, ⟨(some 55), (.move (.tmp 6)), none⟩, ⟨(some 56), (.indexAddr 23 (.tmp 54) (.tmp 55)), none⟩, ⟨(some 57), (.load 41 (.tmp 56)), none⟩, ⟨(some 58), (.binOp .neq 41 (.tmp 52) (.tmp 57) 41), none⟩]
instance : Live r_ref04Same_11 := ⟨[2, 3, 6]⟩
def r_ref04Same_12 : List SOp :=
  [⟨(some 4), (.assign (.const (.bool false))), none⟩]
instance : Live r_ref04Same_12 := ⟨[]⟩
def r_ref04Same_13 : List SOp :=
  [⟨(some 46), (.move (.tmp 6)), none⟩, ⟨(some 47), (.binOp .add 3 (.tmp 46) (.const (.int .i64 1)) 3), none⟩, ⟨(some 6), (.assign (.tmp 47)), none⟩]
instance : Live r_ref04Same_13 := ⟨[2, 3, 6]⟩
def r_ref04Same_14 : List SOp :=
  [⟨(some 4), (.assign (.const (.bool true))), none⟩]
instance : Live r_ref04Same_14 := ⟨[]⟩
def t_ref04Same_l1 : SC :=
  (.seq (.seq (.ops false r_ref04Same_5) (.cond (.tmp 27) .skip (.exit 0))) (.seq (.block 1 (.seq (.ops true r_ref04Same_6) (.cond (.tmp 40) (.seq (.ops false r_ref04Same_7) .ret) .skip))) (.ops false r_ref04Same_8)))
def t_ref04Same_l2 : SC :=
  (.seq (.seq (.ops false r_ref04Same_10) (.cond (.tmp 45) .skip (.exit 2))) (.seq (.block 3 (.seq (.ops true r_ref04Same_11) (.cond (.tmp 58) (.seq (.ops false r_ref04Same_12) .ret) .skip))) (.ops false r_ref04Same_13)))
def t_ref04Same : SC :=
  (.seq (.ops false r_ref04Same_1) (.seq (.seq (.ops false r_ref04Same_2) (.cond (.tmp 22) (.seq (.ops false r_ref04Same_3) .ret) .skip)) (.seq (.seq (.ops false r_ref04Same_4) (.block 0 (.loop t_ref04Same_l1))) (.seq (.seq (.ops false r_ref04Same_9) (.block 2 (.loop t_ref04Same_l2))) (.seq (.ops false r_ref04Same_14) .ret)))))
theorem it_ref04Same : FnIs Try.prog 23 59 [.tmp 4] t_ref04Same := ⟨Try.f23, _, Try.func23, rfl, rfl, rfl, rfl, by kernel_rfl⟩
end Go.Proofs.Ytdmfjkhbodbgoaa.Avm

namespace Go.Proofs.Ytdmfjkhbodbgoaa.Avm
open Go.Proofs
def sameP (a b : Pst) : Bool := decide (a.vec = b.vec ∧ a.cloud = b.cloud)
theorem sameP_false {a b : Pst} (h : ¬ (a.vec = b.vec ∧ a.cloud = b.cloud)) : sameP a b = false := by simp [sameP, h]
theorem sameP_true {a b : Pst} (h : a.vec = b.vec ∧ a.cloud = b.cloud) : sameP a b = true := by simp [sameP, h]
theorem take_succ_eq {α : Type} {l m : List α} {i : Nat} {x : α} (h : l.take i = m.take i) (h1 : l[i]? = some x) (h2 : m[i]? = some x) : l.take (i + 1) = m.take (i + 1) := by
  rw [List.take_add_one, List.take_add_one, h, h1, h2]
theorem ev_ref04Same (a b : Pst) (ha : a.vec.length ≤ 1000000000) (hb : a.cloud.length ≤ 1000000000) : Ev (En Try.prog rfl).P 23 [encP a, encP b] (.ret (.bool (sameP a b))) := by
  refine Ev.of_body it_ref04Same (by simp) (Run.start ?_)
  have e0 : (encIs a.vec).length = a.vec.length := encIs_len _
  have e1 : (encIs b.vec).length = b.vec.length := encIs_len _
  have e2 : (encSs a.cloud).length = a.cloud.length := encSs_len _
  have e3 : (encSs b.cloud).length = b.cloud.length := encSs_len _
  unfold t_ref04Same encP
  by_cases c1 : a.vec.length = b.vec.length
  · have d1 : (!decide ((a.vec.length : Int) = (b.vec.length : Int))) = false := by simp; omega
    by_cases c2 : a.cloud.length = b.cloud.length
    · have d2 : (!decide ((a.cloud.length : Int) = (b.cloud.length : Int))) = false := by simp; omega
      (focus (have hF := (And.intro (And.intro @e0 (And.intro @e1 @e2)) (And.intro @e3 (And.intro @d1 @d2))); (repeat' (first | (with_reducible refine Nx.of ?_) | ((with_reducible apply toV); refine stV (k := ?_)) | ((with_reducible apply toG); refine stG (k := ?_); (with_reducible refine Nx.of ?_)) | ((with_reducible apply toG0); refine stG0 (k := ?_); (with_reducible refine Nx.of ?_)) | ((with_reducible apply toC); refine stC (k := ?_); (with_reducible refine Nx.of ?_)) | ((with_reducible apply toO); refine stO (k := ?_)) | ((with_reducible apply toX); refine stX (k := ?_)) | fail)); (all_goals clear hF)))
      refine Run.rangeP a.vec.length (fun i => ⟨tms [(2, .ptr 2 0), (3, .ptr 3 0), (5, .int .i64 i)], mms [(2, .cells [.sl 1 (encIs a.vec), .sl 3 (encSs a.cloud)]), (3, .cells [.sl 1 (encIs b.vec), .sl 3 (encSs b.cloud)])]⟩) (fun i => a.vec.take i = b.vec.take i)
        (Wk.toL _ _ ⟨rfl, rfl, rfl, trivial⟩ ⟨rfl, rfl, trivial⟩ ⟨rfl, rfl, rfl, trivial⟩ ⟨by simp [ABlk.no, AVal.noC, AVal.no, AVal.stb, encIs_stb, encSs_stb], by simp [ABlk.no, AVal.noC, AVal.no, AVal.stb, encIs_stb, encSs_stb], trivial⟩) (by simp) (fun i hi hI => ?_) (fun hI => ?_)
      · obtain ⟨x, hx⟩ : ∃ x, a.vec[i]? = some x := ⟨a.vec[i], by simp [hi]⟩
        obtain ⟨y, hy⟩ : ∃ y, b.vec[i]? = some y := ⟨b.vec[i]'(by omega), by simp [show i < b.vec.length by omega]⟩
        have f1 : ((i : Int) < (a.vec.length : Int)) = True := by simp only [eq_iff_iff, iff_true]; omega
        have f2 : (0 ≤ (i : Int)) = True := by simp
        have f3 : ((i : Int) < (b.vec.length : Int)) = True := by simp only [eq_iff_iff, iff_true]; omega
        have f4 := encIs_get hx
        have f5 := encIs_get hy
        have e13 : IntKind.i64.wrap ((i : Int) + 1) = ((i + 1 : Nat) : Int) := by rw [wrap_id (by omega)]; omega
        unfold t_ref04Same_l1
        by_cases c3 : x = y
        · have d3 : (!decide (x = y)) = false := by simpa using c3
          (focus (have hF := (And.intro (And.intro (And.intro @e0 @e1) (And.intro @e2 (And.intro @e3 @f1))) (And.intro (And.intro @f2 (And.intro @f3 @f4)) (And.intro @f5 (And.intro @d3 @e13)))); (repeat' (first | (with_reducible refine Nx.of ?_) | ((with_reducible apply toV); refine stV (k := ?_)) | ((with_reducible apply toG); refine stG (k := ?_); (with_reducible refine Nx.of ?_)) | ((with_reducible apply toG0); refine stG0 (k := ?_); (with_reducible refine Nx.of ?_)) | ((with_reducible apply toC); refine stC (k := ?_); (with_reducible refine Nx.of ?_)) | ((with_reducible apply toO); refine stO (k := ?_)) | ((with_reducible apply toX); refine stX (k := ?_)) | fail)); (all_goals clear hF)))
          exact Fin.nextP (Wk.toL _ _ ⟨rfl, rfl, rfl, trivial⟩ ⟨rfl, rfl, trivial⟩ ⟨rfl, rfl, rfl, trivial⟩ ⟨by simp [ABlk.no, AVal.noC, AVal.no, AVal.stb, encIs_stb, encSs_stb], by simp [ABlk.no, AVal.noC, AVal.no, AVal.stb, encIs_stb, encSs_stb], trivial⟩) (take_succ_eq hI hx (c3 ▸ hy))
        · have d3 : (!decide (x = y)) = true := by simpa using c3
          rw [sameP_false (fun h => c3 (by have := hx; rw [h.1, hy] at this; exact (Option.some.inj this).symm))]
          (focus (have hF := (And.intro (And.intro (And.intro @e0 @e1) (And.intro @e2 (And.intro @e3 @f1))) (And.intro (And.intro @f2 (And.intro @f3 @f4)) (And.intro @f5 (And.intro @d3 @e13)))); (repeat' (first | (with_reducible refine Nx.of ?_) | ((with_reducible apply toV); refine stV (k := ?_)) | ((with_reducible apply toG); refine stG (k := ?_); (with_reducible refine Nx.of ?_)) | ((with_reducible apply toG0); refine stG0 (k := ?_); (with_reducible refine Nx.of ?_)) | ((with_reducible apply toC); refine stC (k := ?_); (with_reducible refine Nx.of ?_)) | ((with_reducible apply toO); refine stO (k := ?_)) | ((with_reducible apply toX); refine stX (k := ?_)) | fail)); (all_goals clear hF)))
          exact Fin.outP_ret (Fin.block_ret (Fin.seq_ret (Fin.tmp' rfl rfl)))
      · have hv : a.vec = b.vec := by
          rw [List.take_length] at hI
          rw [hI, c1, List.take_length]
        have f1 : ((a.vec.length : Int) < (a.vec.length : Int)) = False := by simp
        unfold t_ref04Same_l1
        (focus (have hF := (And.intro (And.intro @e0 @e1) (And.intro @e2 (And.intro @e3 @f1))); (repeat' (first | (with_reducible refine Nx.of ?_) | ((with_reducible apply toV); refine stV (k := ?_)) | ((with_reducible apply toG); refine stG (k := ?_); (with_reducible refine Nx.of ?_)) | ((with_reducible apply toG0); refine stG0 (k := ?_); (with_reducible refine Nx.of ?_)) | ((with_reducible apply toC); refine stC (k := ?_); (with_reducible refine Nx.of ?_)) | ((with_reducible apply toO); refine stO (k := ?_)) | ((with_reducible apply toX); refine stX (k := ?_)) | fail)); (all_goals clear hF)))
        refine Run.rangeP a.cloud.length (fun i => ⟨tms [(2, .ptr 2 0), (3, .ptr 3 0), (6, .int .i64 i)], mms [(2, .cells [.sl 1 (encIs a.vec), .sl 3 (encSs a.cloud)]), (3, .cells [.sl 1 (encIs b.vec), .sl 3 (encSs b.cloud)])]⟩) (fun i => a.cloud.take i = b.cloud.take i)
          (Wk.toL _ _ ⟨rfl, rfl, rfl, trivial⟩ ⟨rfl, rfl, trivial⟩ ⟨rfl, rfl, rfl, trivial⟩ ⟨by simp [ABlk.no, AVal.noC, AVal.no, AVal.stb, encIs_stb, encSs_stb], by simp [ABlk.no, AVal.noC, AVal.no, AVal.stb, encIs_stb, encSs_stb], trivial⟩) (by simp) (fun i hi hI2 => ?_) (fun hI2 => ?_)
        · obtain ⟨x, hx⟩ : ∃ x, a.cloud[i]? = some x := ⟨a.cloud[i], by simp [hi]⟩
          obtain ⟨y, hy⟩ : ∃ y, b.cloud[i]? = some y := ⟨b.cloud[i]'(by omega), by simp [show i < b.cloud.length by omega]⟩
          have g1 : ((i : Int) < (a.cloud.length : Int)) = True := by simp only [eq_iff_iff, iff_true]; omega
          have g2 : (0 ≤ (i : Int)) = True := by simp
          have g3 : ((i : Int) < (b.cloud.length : Int)) = True := by simp only [eq_iff_iff, iff_true]; omega
          have g4 : (encSs a.cloud)[i]? = some (.agg [.int .i64 x.1, .int .i64 x.2.1, .int .i64 x.2.2]) := encSs_get hx
          have g5 : (encSs b.cloud)[i]? = some (.agg [.int .i64 y.1, .int .i64 y.2.1, .int .i64 y.2.2]) := encSs_get hy
          have e13 : IntKind.i64.wrap ((i : Int) + 1) = ((i + 1 : Nat) : Int) := by rw [wrap_id (by omega)]; omega
          unfold t_ref04Same_l2
          by_cases c3 : x = y
          · have d3 : decide (x.1 = y.1) = true := by simp [c3]
            have d4 : decide (x.2.1 = y.2.1) = true := by simp [c3]
            have d5 : decide (x.2.2 = y.2.2) = true := by simp [c3]
            (focus (have hF := (And.intro (And.intro (And.intro @e0 (And.intro @e1 @e2)) (And.intro @e3 (And.intro @g1 @g2))) (And.intro (And.intro @g3 (And.intro @g4 @g5)) (And.intro (And.intro @d3 @d4) (And.intro @d5 @e13)))); (repeat' (first | (with_reducible refine Nx.of ?_) | ((with_reducible apply toV); refine stV (k := ?_)) | ((with_reducible apply toG); refine stG (k := ?_); (with_reducible refine Nx.of ?_)) | ((with_reducible apply toG0); refine stG0 (k := ?_); (with_reducible refine Nx.of ?_)) | ((with_reducible apply toC); refine stC (k := ?_); (with_reducible refine Nx.of ?_)) | ((with_reducible apply toO); refine stO (k := ?_)) | ((with_reducible apply toX); refine stX (k := ?_)) | fail)); (all_goals clear hF)))
            exact Fin.nextP (Wk.toL _ _ ⟨rfl, rfl, rfl, trivial⟩ ⟨rfl, rfl, trivial⟩ ⟨rfl, rfl, rfl, trivial⟩ ⟨by simp [ABlk.no, AVal.noC, AVal.no, AVal.stb, encIs_stb, encSs_stb], by simp [ABlk.no, AVal.noC, AVal.no, AVal.stb, encIs_stb, encSs_stb], trivial⟩) (take_succ_eq hI2 hx (c3 ▸ hy))
          · rw [sameP_false (fun h => c3 (by have := hx; rw [h.2, hy] at this; exact (Option.some.inj this).symm))]
            by_cases h1 : x.1 = y.1
            · have d3 : decide (x.1 = y.1) = true := by simpa using h1
              by_cases h2 : x.2.1 = y.2.1
              · have d4 : decide (x.2.1 = y.2.1) = true := by simpa using h2
                have h3 : ¬ x.2.2 = y.2.2 := fun h3 => c3 (Prod.ext h1 (Prod.ext h2 h3))
                have d5 : decide (x.2.2 = y.2.2) = false := by simpa using h3
                (focus (have hF := (And.intro (And.intro (And.intro @e0 (And.intro @e1 @e2)) (And.intro @e3 (And.intro @g1 @g2))) (And.intro (And.intro @g3 (And.intro @g4 @g5)) (And.intro (And.intro @d3 @d4) (And.intro @d5 @e13)))); (repeat' (first | (with_reducible refine Nx.of ?_) | ((with_reducible apply toV); refine stV (k := ?_)) | ((with_reducible apply toG); refine stG (k := ?_); (with_reducible refine Nx.of ?_)) | ((with_reducible apply toG0); refine stG0 (k := ?_); (with_reducible refine Nx.of ?_)) | ((with_reducible apply toC); refine stC (k := ?_); (with_reducible refine Nx.of ?_)) | ((with_reducible apply toO); refine stO (k := ?_)) | ((with_reducible apply toX); refine stX (k := ?_)) | fail)); (all_goals clear hF)))
                exact Fin.outP_ret (Fin.block_ret (Fin.seq_ret (Fin.tmp' rfl rfl)))
              · have d4 : decide (x.2.1 = y.2.1) = false := by simpa using h2
                (focus (have hF := (And.intro (And.intro (And.intro @e0 (And.intro @e1 @e2)) (And.intro @e3 (And.intro @g1 @g2))) (And.intro (And.intro @g3 (And.intro @g4 @g5)) (And.intro @d3 (And.intro @d4 @e13)))); (repeat' (first | (with_reducible refine Nx.of ?_) | ((with_reducible apply toV); refine stV (k := ?_)) | ((with_reducible apply toG); refine stG (k := ?_); (with_reducible refine Nx.of ?_)) | ((with_reducible apply toG0); refine stG0 (k := ?_); (with_reducible refine Nx.of ?_)) | ((with_reducible apply toC); refine stC (k := ?_); (with_reducible refine Nx.of ?_)) | ((with_reducible apply toO); refine stO (k := ?_)) | ((with_reducible apply toX); refine stX (k := ?_)) | fail)); (all_goals clear hF)))
                exact Fin.outP_ret (Fin.block_ret (Fin.seq_ret (Fin.tmp' rfl rfl)))
            · have d3 : decide (x.1 = y.1) = false := by simpa using h1
              (focus (have hF := (And.intro (And.intro (And.intro @e0 @e1) (And.intro @e2 (And.intro @e3 @g1))) (And.intro (And.intro @g2 (And.intro @g3 @g4)) (And.intro @g5 (And.intro @d3 @e13)))); (repeat' (first | (with_reducible refine Nx.of ?_) | ((with_reducible apply toV); refine stV (k := ?_)) | ((with_reducible apply toG); refine stG (k := ?_); (with_reducible refine Nx.of ?_)) | ((with_reducible apply toG0); refine stG0 (k := ?_); (with_reducible refine Nx.of ?_)) | ((with_reducible apply toC); refine stC (k := ?_); (with_reducible refine Nx.of ?_)) | ((with_reducible apply toO); refine stO (k := ?_)) | ((with_reducible apply toX); refine stX (k := ?_)) | fail)); (all_goals clear hF)))
              exact Fin.outP_ret (Fin.block_ret (Fin.seq_ret (Fin.tmp' rfl rfl)))
        · have hc : a.cloud = b.cloud := by
            rw [List.take_length] at hI2
            rw [hI2, c2, List.take_length]
          have f1 : ((a.cloud.length : Int) < (a.cloud.length : Int)) = False := by simp
          rw [sameP_true ⟨hv, hc⟩]
          unfold t_ref04Same_l2
          (focus (have hF := (And.intro (And.intro @e0 @e1) (And.intro @e2 (And.intro @e3 @f1))); (repeat' (first | (with_reducible refine Nx.of ?_) | ((with_reducible apply toV); refine stV (k := ?_)) | ((with_reducible apply toG); refine stG (k := ?_); (with_reducible refine Nx.of ?_)) | ((with_reducible apply toG0); refine stG0 (k := ?_); (with_reducible refine Nx.of ?_)) | ((with_reducible apply toC); refine stC (k := ?_); (with_reducible refine Nx.of ?_)) | ((with_reducible apply toO); refine stO (k := ?_)) | ((with_reducible apply toX); refine stX (k := ?_)) | fail)); (all_goals clear hF)))
          exact Fin.tmp' rfl rfl
    · rw [sameP_false (fun h => c2 (by rw [h.2]))]
      have d2 : (!decide ((a.cloud.length : Int) = (b.cloud.length : Int))) = true := by simp; omega
      (focus (have hF := (And.intro (And.intro @e0 (And.intro @e1 @e2)) (And.intro @e3 (And.intro @d1 @d2))); (repeat' (first | (with_reducible refine Nx.of ?_) | ((with_reducible apply toV); refine stV (k := ?_)) | ((with_reducible apply toG); refine stG (k := ?_); (with_reducible refine Nx.of ?_)) | ((with_reducible apply toG0); refine stG0 (k := ?_); (with_reducible refine Nx.of ?_)) | ((with_reducible apply toC); refine stC (k := ?_); (with_reducible refine Nx.of ?_)) | ((with_reducible apply toO); refine stO (k := ?_)) | ((with_reducible apply toX); refine stX (k := ?_)) | fail)); (all_goals clear hF)))
      exact Fin.tmp' rfl rfl
  · rw [sameP_false (fun h => c1 (by rw [h.1]))]
    have d1 : (!decide ((a.vec.length : Int) = (b.vec.length : Int))) = true := by simp; omega
    (focus (have hF := (And.intro (And.intro @e0 @e1) (And.intro @e2 (And.intro @e3 @d1))); (repeat' (first | (with_reducible refine Nx.of ?_) | ((with_reducible apply toV); refine stV (k := ?_)) | ((with_reducible apply toG); refine stG (k := ?_); (with_reducible refine Nx.of ?_)) | ((with_reducible apply toG0); refine stG0 (k := ?_); (with_reducible refine Nx.of ?_)) | ((with_reducible apply toC); refine stC (k := ?_); (with_reducible refine Nx.of ?_)) | ((with_reducible apply toO); refine stO (k := ?_)) | ((with_reducible apply toX); refine stX (k := ?_)) | fail)); (all_goals clear hF)))
    exact Fin.tmp' rfl rfl
end Go.Proofs.Ytdmfjkhbodbgoaa.Avm

namespace Go.Proofs.Ytdmfjkhbodbgoaa.Avm
open Go.Proofs
def r_ref04Next_1 : List SOp :=
  [⟨(some 3), (.box 25 (.tmp 0)), none⟩, ⟨(some 6), (.alloc 32), none⟩, ⟨(some 7), (.assign (.const (.int .i64 0))), none⟩]
instance : Live r_ref04Next_1 := ⟨[0, 1, 2]⟩
def r_ref04Next_2 : List SOp :=
  [⟨(some 9), (.move (.tmp 1)), none⟩, ⟨(some 10), (.binOp .lss 3 (.tmp 9) (.const (.int .i64 0)) 3), none⟩, ⟨(some 11), (.move (.tmp 10)), none⟩, ⟨(some 12), (.move (.tmp 1)), (some ((some 11), false))⟩, ⟨(some 13), (.binOp .geq 3 (.tmp 12) (.const (.int .i64 16)) 3), (some ((some 11), false))⟩, ⟨(some 14), (.pick (.tmp 11) (.const (.bool true)) (.tmp 13)), none⟩]
instance : Live r_ref04Next_2 := ⟨[1, 2, 3, 6]⟩
def r_ref04Next_3 : List SOp :=
  [⟨(some 15), (.build 32 #[]), none⟩, ⟨none, (.store 32 (.tmp 6) (.tmp 15)), none⟩, ⟨(some 7), (.assign (.const (.int .i64 3))), none⟩]
instance : Live r_ref04Next_3 := ⟨[6]⟩
def r_ref04Next_4 : List SOp :=
  [⟨(some 16), (.load 25 (.tmp 3)), none⟩, ⟨(some 17), (.move (.tmp 1)), none⟩, ⟨(some 18), (.call ⟨.value (.func 48), #[.tmp 16, .tmp 17], #[25, 3]⟩), none⟩, ⟨(some 8), (.assign (.tmp 18)), none⟩]
instance : Live r_ref04Next_4 := ⟨[1, 2, 3, 6]⟩
def r_ref04Next_5 : List SOp :=
  [⟨(some 19), (.move (.tmp 8)), none⟩, ⟨(some 20), (.move (.tmp 2)), none⟩, ⟨(some 21), (.call ⟨.builtin .min, #[.tmp 20, .const (.int .i64 1000000000)], #[3, 3]⟩), none⟩, ⟨(some 22), (.binOp .geq 3 (.tmp 19) (.tmp 21) 3), none⟩]
instance : Live r_ref04Next_5 := ⟨[1, 2, 6, 8]⟩
def r_ref04Next_6 : List SOp :=
  [⟨(some 23), (.build 32 #[]), none⟩, ⟨none, (.store 32 (.tmp 6) (.tmp 23)), none⟩, ⟨(some 7), (.assign (.const (.int .i64 9))), none⟩]
instance : Live r_ref04Next_6 := ⟨[6]⟩
def r_ref04Next_7 : List SOp :=
  [⟨(some 24), (.move (.tmp 1)), none⟩, ⟨(some 25), (.move (.tmp 8)), none⟩, ⟨(some 26), (.binOp .add 3 (.tmp 25) (.const (.int .i64 1)) 3), none⟩, ⟨(some 27), (.build 32 #[(0, .tmp 24), (1, .tmp 26)]), none⟩, ⟨none, (.store 32 (.tmp 6) (.tmp 27)), none⟩, ⟨(some 7), (.assign (.const (.int .i64 0))), none⟩]
instance : Live r_ref04Next_7 := ⟨[1, 6, 8]⟩
def t_ref04Next : SC :=
  (.seq (.ops false r_ref04Next_1) (.seq (.seq (.ops false r_ref04Next_2) (.cond (.tmp 14) (.seq (.ops false r_ref04Next_3) .ret) .skip)) (.seq (.ops false r_ref04Next_4) (.seq (.seq (.ops false r_ref04Next_5) (.cond (.tmp 22) (.seq (.ops false r_ref04Next_6) .ret) .skip)) (.seq (.ops false r_ref04Next_7) .ret)))))
theorem it_ref04Next : FnIs Try.prog 14 28 [.cell 6 32, .tmp 7] t_ref04Next := ⟨Try.f14, _, Try.func14, rfl, rfl, rfl, rfl, by kernel_rfl⟩
end Go.Proofs.Ytdmfjkhbodbgoaa.Avm

namespace Go.Proofs.Ytdmfjkhbodbgoaa.Avm
open Go.Proofs
theorem ev_ref04Next_of (p : Pst) (last : Int → Int) (hlast : ∀ r, 0 ≤ last r) (r most : Int) (hcall : Ev (En Try.prog rfl).P 48 [encP p, .int .i64 r] (.ret (.int .i64 (last r)))) : Ev (En Try.prog rfl).P 14 [encP p, .int .i64 r, .int .i64 most] (.ret (.tup [encR (nextOf last r most).1, .int .i64 (nextOf last r most).2])) := by
  refine Ev.of_body it_ref04Next (by simp) (Run.start ?_)
  have hpx : encP p = .agg [.sl 1 (encIs p.vec), .sl 3 (encSs p.cloud)] := rfl
  unfold t_ref04Next
  rw [hpx]
  by_cases c1 : r < 0
  · have d1 : decide (r < 0) = true := by simpa using c1
    rw [nextOf_1 (.inl c1)]
    (focus (have hF := @d1; (repeat' (first | (with_reducible refine Nx.of ?_) | ((with_reducible apply toV); refine stV (k := ?_)) | ((with_reducible apply toG); refine stG (k := ?_); (with_reducible refine Nx.of ?_)) | ((with_reducible apply toG0); refine stG0 (k := ?_); (with_reducible refine Nx.of ?_)) | ((with_reducible apply toC); refine stC (k := ?_); (with_reducible refine Nx.of ?_)) | ((with_reducible apply toO); refine stO (k := ?_)) | ((with_reducible apply toX); refine stX (k := ?_)) | fail)); (all_goals clear hF)))
    exact Fin.all rfl rfl rfl
  · have d1 : decide (r < 0) = false := by simpa using c1
    by_cases c2 : 16 ≤ r
    · have d2 : decide (16 ≤ r) = true := by simpa using c2
      rw [nextOf_1 (.inr c2)]
      (focus (have hF := (And.intro @d1 @d2); (repeat' (first | (with_reducible refine Nx.of ?_) | ((with_reducible apply toV); refine stV (k := ?_)) | ((with_reducible apply toG); refine stG (k := ?_); (with_reducible refine Nx.of ?_)) | ((with_reducible apply toG0); refine stG0 (k := ?_); (with_reducible refine Nx.of ?_)) | ((with_reducible apply toC); refine stC (k := ?_); (with_reducible refine Nx.of ?_)) | ((with_reducible apply toO); refine stO (k := ?_)) | ((with_reducible apply toX); refine stX (k := ?_)) | fail)); (all_goals clear hF)))
      exact Fin.all rfl rfl rfl
    · have d2 : decide (16 ≤ r) = false := by simpa using c2
      have hn : ¬ (r < 0 ∨ 16 ≤ r) := by omega
      (focus (have hF := (And.intro @d1 @d2); (repeat' (first | (with_reducible refine Nx.of ?_) | ((with_reducible apply toV); refine stV (k := ?_)) | ((with_reducible apply toG); refine stG (k := ?_); (with_reducible refine Nx.of ?_)) | ((with_reducible apply toG0); refine stG0 (k := ?_); (with_reducible refine Nx.of ?_)) | ((with_reducible apply toC); refine stC (k := ?_); (with_reducible refine Nx.of ?_)) | ((with_reducible apply toO); refine stO (k := ?_)) | ((with_reducible apply toX); refine stX (k := ?_)) | fail)); (all_goals clear hF)))
      refine awp_pure (l := [encP p, .int .i64 r]) rfl rfl (by simp [stbs, encP_stb, AVal.stb]) hcall ?_
      have h0 := hlast r
      by_cases c3 : min most 1000000000 ≤ last r
      · have d3 : decide (min most 1000000000 ≤ last r) = true := by simpa using c3
        rw [nextOf_2 hn c3]
        (focus (have hF := (And.intro @d1 (And.intro @d2 @d3)); (repeat' (first | (with_reducible refine Nx.of ?_) | ((with_reducible apply toV); refine stV (k := ?_)) | ((with_reducible apply toG); refine stG (k := ?_); (with_reducible refine Nx.of ?_)) | ((with_reducible apply toG0); refine stG0 (k := ?_); (with_reducible refine Nx.of ?_)) | ((with_reducible apply toC); refine stC (k := ?_); (with_reducible refine Nx.of ?_)) | ((with_reducible apply toO); refine stO (k := ?_)) | ((with_reducible apply toX); refine stX (k := ?_)) | fail)); (all_goals clear hF)))
        exact Fin.all rfl rfl rfl
      · have d3 : decide (min most 1000000000 ≤ last r) = false := by simpa using c3
        rw [nextOf_3 hn c3]
        have e1 : IntKind.i64.wrap (last r + 1) = last r + 1 := wrap_id (by omega)
        (focus (have hF := (And.intro (And.intro @d1 @d2) (And.intro @d3 @e1)); (repeat' (first | (with_reducible refine Nx.of ?_) | ((with_reducible apply toV); refine stV (k := ?_)) | ((with_reducible apply toG); refine stG (k := ?_); (with_reducible refine Nx.of ?_)) | ((with_reducible apply toG0); refine stG0 (k := ?_); (with_reducible refine Nx.of ?_)) | ((with_reducible apply toC); refine stC (k := ?_); (with_reducible refine Nx.of ?_)) | ((with_reducible apply toO); refine stO (k := ?_)) | ((with_reducible apply toX); refine stX (k := ?_)) | fail)); (all_goals clear hF)))
        exact Fin.all rfl rfl rfl
end Go.Proofs.Ytdmfjkhbodbgoaa.Avm

namespace Go.Proofs.Ytdmfjkhbodbgoaa.Avm
open Go.Proofs
def r_pastSize_1 : List SOp :=
  [⟨(some 1), (.box 25 (.tmp 0)), none⟩, ⟨(some 2), (.assign (.const (.int .i64 0))), none⟩]
instance : Live r_pastSize_1 := ⟨[0]⟩
def r_pastSize_2 : List SOp :=
  [⟨(some 3), (.assign (.const (.int .i64 0))), none⟩]
instance : Live r_pastSize_2 := ⟨[1]⟩
def r_pastSize_3 : List SOp :=
  [⟨(some 6), (.load 25 (.tmp 1)), none⟩, ⟨(some 7), (.buildSlice 51 1 #[(0, .tmp 6)]), none⟩, ⟨(some 8), (.call ⟨.value (.func 47), #[.tmp 7], #[51]⟩), none⟩, ⟨(some 9), (.nilCheck (.tmp 8)), none⟩, ⟨(some 10), (.move (.const (.int .i64 0))), none⟩]
instance : Live r_pastSize_3 := ⟨[1, 3]⟩
def r_pastSize_4 : List SOp :=
  [⟨(some 11), (.binOp .lss 3 (.tmp 10) (.const (.int .i64 16)) 3), none⟩]
instance : Live r_pastSize_4 := ⟨[3, 8, 10]⟩
def r_pastSize_5 : List SOp :=
  [⟨(some 12), (.nilCheck (.tmp 8)), none⟩, ⟨(some 13), (.indexAddr 70 (.tmp 12) (.tmp 10)), none⟩, ⟨(some 14), (.load 58 (.tmp 13)), none⟩, ⟨(some 5), (.assign (.tmp 14)), none⟩]
instance : Live r_pastSize_5 := ⟨[3, 8, 10]⟩
def r_pastSize_6 : List SOp :=
  [⟨(some 15), (.move (.tmp 3)), none⟩, ⟨(some 16), (.move (.tmp 5)), none⟩, ⟨(some 17), (.call ⟨.value (.func 53), #[.tmp 16], #[58]⟩), none⟩, ⟨(some 18), (.binOp .add 3 (.tmp 15) (.tmp 17) 3), none⟩, ⟨(some 3), (.assign (.tmp 18)), none⟩]
instance : Live r_pastSize_6 := ⟨[3, 5, 8, 10]⟩
def r_pastSize_7 : List SOp :=
  [⟨(some 19), (.binOp .add 3 (.tmp 10) (.const (.int .i64 1)) 3), none⟩, ⟨(some 10), (.move (.tmp 19)), none⟩]
instance : Live r_pastSize_7 := ⟨[3, 8, 10]⟩
def r_pastSize_8 : List SOp :=
  [⟨(some 20), (.move (.tmp 3)), none⟩, ⟨(some 2), (.assign (.tmp 20)), none⟩]
instance : Live r_pastSize_8 := ⟨[3]⟩
def t_pastSize_l1 : SC :=
  (.seq (.ops false r_pastSize_4) (.seq (.cond (.tmp 11) .skip (.exit 0)) (.seq (.block 1 (.seq (.ops false r_pastSize_5) (.ops false r_pastSize_6))) (.ops false r_pastSize_7))))
def t_pastSize : SC :=
  (.seq (.ops false r_pastSize_1) (.seq (.ops false r_pastSize_2) (.seq (.seq (.ops false r_pastSize_3) (.block 0 (.loop t_pastSize_l1))) (.seq (.ops false r_pastSize_8) .ret))))
theorem it_pastSize : FnIs Try.prog 18 21 [.tmp 2] t_pastSize := ⟨Try.f18, _, Try.func18, rfl, rfl, rfl, rfl, by kernel_rfl⟩
end Go.Proofs.Ytdmfjkhbodbgoaa.Avm

namespace Go.Proofs.Ytdmfjkhbodbgoaa.Avm
open Go.Proofs
def r_law04fixed_1 : List SOp :=
  [⟨(some 0), (.assign (.const (.bool false))), none⟩]
instance : Live r_law04fixed_1 := ⟨[]⟩
def r_law04fixed_2 : List SOp :=
  [⟨(some 2), (.buildSlice 22 3 #[(0, .const (.int .i64 2)), (1, .const (.int .i64 0)), (2, .const (.int .i64 0))]), none⟩, ⟨(some 3), (.build 41 #[(0, .const (.int .i64 0)), (1, .const (.int .i64 3)), (2, .const (.int .i64 4))]), none⟩, ⟨(some 4), (.build 41 #[(0, .const (.int .i64 1)), (1, .const (.int .i64 2)), (2, .const (.int .i64 2))]), none⟩, ⟨(some 5), (.buildSlice 23 2 #[(0, .tmp 3), (1, .tmp 4)]), none⟩, ⟨(some 6), (.build 25 #[(0, .tmp 2), (1, .tmp 5)]), none⟩, ⟨(some 7), (.call ⟨.value (.func 17), #[.tmp 6], #[25]⟩), none⟩, ⟨(some 1), (.alloc 25), none⟩, ⟨none, (.store 25 (.tmp 1) (.tmp 7)), none⟩]
instance : Live r_law04fixed_2 := ⟨[]⟩
def r_law04fixed_3 : List SOp :=
  [⟨(some 8), (.load 25 (.tmp 1)), none⟩, ⟨(some 9), (.buildSlice 22 1 #[(0, .const (.int .i64 4))]), none⟩, ⟨(some 10), (.build 41 #[(0, .const (.int .i64 1)), (1, .const (.int .i64 2)), (2, .const (.int .i64 2))]), none⟩, ⟨(some 11), (.buildSlice 23 1 #[(0, .tmp 10)]), none⟩, ⟨(some 12), (.build 25 #[(0, .tmp 9), (1, .tmp 11)]), none⟩, ⟨(some 13), (.call ⟨.value (.func 23), #[.tmp 8, .tmp 12], #[25, 25]⟩), none⟩, ⟨(some 14), (.unOp .not 4 (.tmp 13)), none⟩]
instance : Live r_law04fixed_3 := ⟨[1]⟩
def r_law04fixed_4 : List SOp :=
  [⟨(some 0), (.assign (.const (.bool false))), none⟩]
instance : Live r_law04fixed_4 := ⟨[]⟩
def r_law04fixed_5 : List SOp :=
  [⟨(some 15), (.load 25 (.tmp 1)), none⟩, ⟨(some 16), (.build 32 #[(0, .const (.int .i64 0)), (1, .const (.int .i64 4))]), none⟩, ⟨(some 17), (.call ⟨.value (.func 15), #[.tmp 15, .tmp 16], #[25, 32]⟩), none⟩, ⟨(some 18), (.move (.tmp 17)), none⟩, ⟨(some 19), (.load 25 (.tmp 1)), (some ((some 18), true))⟩, ⟨(some 20), (.call ⟨.value (.func 18), #[.tmp 19], #[25]⟩), (some ((some 18), true))⟩, ⟨(some 21), (.binOp .eql 3 (.tmp 20) (.const (.int .i64 5)) 3), (some ((some 18), true))⟩, ⟨(some 22), (.pick (.tmp 18) (.tmp 21) (.const (.bool false))), none⟩, ⟨(some 0), (.assign (.tmp 22)), none⟩]
instance : Live r_law04fixed_5 := ⟨[1]⟩
def t_law04fixed : SC :=
  (.seq (.ops false r_law04fixed_1) (.seq (.ops false r_law04fixed_2) (.seq (.seq (.ops false r_law04fixed_3) (.cond (.tmp 14) (.seq (.ops false r_law04fixed_4) .ret) .skip)) (.seq (.ops false r_law04fixed_5) .ret))))
theorem it_law04fixed : FnIs Try.prog 11 23 [.tmp 0] t_law04fixed := ⟨Try.f11, _, Try.func11, rfl, rfl, rfl, rfl, by kernel_rfl⟩
end Go.Proofs.Ytdmfjkhbodbgoaa.Avm

namespace Go.Proofs.Ytdmfjkhbodbgoaa.Avm
open Go.Proofs
theorem pastT_wt {t : Tab} {n : Nat} (h : TabLe t n) : wt (pastT t) ≤ 16 + 16 * n := by
  have h1 := cloudT_len h 16
  show ((leadsT t 16).take (sizeT t 16)).length + (cloudT t 16).length ≤ _
  rw [List.length_take, leadsT_len]
  omega
theorem ofT_le (ds : List Rn) : TabLe (ofT ds) ds.length := by
  have := TabLe.dots tab0_le ds
  simpa [ofT] using this
theorem ev_pastNorm (p : Pst) (hw : wt p ≤ 50000000) : Ev (En Try.prog rfl).P 17 [encP p] (.ret (encP (normP p))) :=
  ev_pastNorm_of p _ (by omega) (ev_pasttablepast _ (n := wt p) (by simpa using openT_le [p]) hw)
theorem ev_pastJoin (ps : List Pst) (hl : ps.length ≤ 1000000000) (hw : (ps.map wt).sum ≤ 50000000) : Ev (En Try.prog rfl).P 20 [.sl 2 (encPs ps)] (.ret (encP (joinP ps))) :=
  ev_pastJoin_of ps _ hl (by omega) (ev_pasttablepast _ (openT_le ps) hw)
theorem ev_pastOf (ds : List Rn) (hl : ds.length ≤ 50000000) : Ev (En Try.prog rfl).P 33 [.sl 2 (encRs ds)] (.ret (encP (ofP ds))) :=
  ev_pastOf_of ds _ (by omega) (ev_pasttablepast _ (ofT_le ds) hl)
theorem ev_pastPut (p : Pst) (d : Rn) (hw : wt p ≤ 40000000) : Ev (En Try.prog rfl).P 16 [encP p, encR d] (.ret (encP (putP p d))) := by
  have h1 : wt (ofP [d]) ≤ 32 := pastT_wt (ofT_le [d])
  exact ev_pastPut_of p d _ _ (by show wt p + wt (ofP [d]) ≤ 900000000; omega) (ev_pasttablepast _ (ofT_le [d]) (by simp)) (ev_pasttablepast _ (openT_le [p, ofP [d]]) (by simp; omega))
theorem can_okRuns {m : List Rn} (h : Can m) : okRuns m := fun r hr => by have := h.2 r hr; unfold okR at this; omega
theorem ev_spanSize (l : List Rn) (hl : l.length ≤ 50000000) : Ev (En Try.prog rfl).P 53 [.sl 2 (encRs l)] (.ret (.int .i64 (sizeR (normR l)))) := by
  have h := normR_len l
  exact ev_spanSize_of l (normR l) (by omega) (can_okRuns (normR_can l)) (ev_spanNorm l (by omega))
def sizeTab (t : Tab) (n : Nat) : Int := (List.range n).foldl (fun a r => a + sizeR (normR (t.getD r []))) 0
theorem sizeTab_succ (t : Tab) (n : Nat) : sizeTab t (n + 1) = sizeTab t n + sizeR (normR (t.getD n [])) := by
  unfold sizeTab
  rw [List.range_succ, List.foldl_append]
  rfl
theorem sizeR_bound (l : List Rn) {n : Nat} (h : l.length ≤ n) : 0 ≤ sizeR (normR l) ∧ sizeR (normR l) ≤ 1000000000 * (n : Int) := by
  have h1 := sizeFold_le (can_okRuns (normR_can l)) 0
  have h2 := normR_len l
  unfold sizeR
  omega
theorem sizeTab_bound {t : Tab} {n : Nat} (h : TabLe t n) : ∀ m : Nat, 0 ≤ sizeTab t m ∧ sizeTab t m ≤ (m : Int) * (1000000000 * (n : Int))
  | 0 => by simp [sizeTab]
  | m + 1 => by
    have h1 := sizeTab_bound h m
    have h2 := sizeR_bound (t.getD m []) (h.2 m)
    rw [sizeTab_succ, Int.natCast_add, Int.add_mul]
    omega
def sizeP (p : Pst) : Int := sizeTab (openT [p]) 16
theorem ev_pastSize (p : Pst) (hw : wt p ≤ 50000000) : Ev (En Try.prog rfl).P 18 [encP p] (.ret (.int .i64 (sizeP p))) := by
  refine Ev.of_body it_pastSize (by simp) (Run.start ?_)
  unfold t_pastSize encP
  have ht : TabLe (openT [p]) (wt p) := by simpa using openT_le [p]
  have h16 : (encTs (openT [p])).length = 16 := by rw [encTs_len, ht.1]
  (focus (have hF := @h16; (repeat' (first | (with_reducible refine Nx.of ?_) | ((with_reducible apply toV); refine stV (k := ?_)) | ((with_reducible apply toG); refine stG (k := ?_)) | ((with_reducible apply toG0); refine stG0 (k := ?_)) | ((with_reducible apply toC); refine stC (k := ?_)) | ((with_reducible apply toO); refine stO (k := ?_)) | ((with_reducible apply toX); refine stX (k := ?_)) | (with_reducible refine Ny.of ?_ ?_) | (refine Hyp.of ?_; intro hc; (try simp only [hc]); (try simp only [Bh] at hc)) | fail)); (all_goals clear hF)))
  refine stCall [.sl 2 (encPs [p])] (he := ev_pastopen [p] (by simp) (by simpa using (show wt p ≤ 900000000 by omega))) (k := ?_)
  (focus (have hF := @h16; (repeat' (first | (with_reducible refine Nx.of ?_) | ((with_reducible apply toV); refine stV (k := ?_)) | ((with_reducible apply toG); refine stG (k := ?_)) | ((with_reducible apply toG0); refine stG0 (k := ?_)) | ((with_reducible apply toC); refine stC (k := ?_)) | ((with_reducible apply toO); refine stO (k := ?_)) | ((with_reducible apply toX); refine stX (k := ?_)) | (with_reducible refine Ny.of ?_ ?_) | (refine Hyp.of ?_; intro hc; (try simp only [hc]); (try simp only [Bh] at hc)) | fail)); (all_goals clear hF)))
  have hs : sizeP p = sizeTab (openT [p]) 16 := rfl
  rw [hs]
  generalize openT [p] = t at ht h16 ⊢
  refine Run.while (σ := Nat) (fun r => ⟨tms [(3, .int .i64 (sizeTab t r)), (8, .sptr (encTs t)), (10, .int .i64 r)], NoM⟩) (fun r => r ≤ 16) (fun r => 16 - r) 0 (Wk.clean _ ⟨rfl, rfl, rfl, trivial⟩ ⟨rfl, encTs_stb t, rfl, trivial⟩) (Nat.zero_le _) ?_
  intro r hr
  unfold t_pastSize_l1
  by_cases hlt : r < 16
  · have hrt : r < t.length := by rw [ht.1]; exact hlt
    have hq := ht.2 r
    have g1 := drop_head (encTs_get hrt)
    have hb := sizeTab_bound ht r
    have hb2 := sizeR_bound (t.getD r []) hq
    have hnx := sizeTab_succ t r
    have hr16 : (r : Int) * (1000000000 * (wt p : Int)) ≤ 16 * (1000000000 * (wt p : Int)) := Int.mul_le_mul_of_nonneg_right (by omega) (by omega)
    (focus (have hF := (And.intro @h16 @g1); (repeat' (first | (with_reducible refine Nx.of ?_) | ((with_reducible apply toV); refine stV (k := ?_)) | ((with_reducible apply toG); refine stG (k := ?_)) | ((with_reducible apply toG0); refine stG0 (k := ?_)) | ((with_reducible apply toC); refine stC (k := ?_)) | ((with_reducible apply toO); refine stO (k := ?_)) | ((with_reducible apply toX); refine stX (k := ?_)) | (with_reducible refine Ny.of ?_ ?_) | (refine Hyp.of ?_; intro hc; (try simp only [hc]); (try simp only [Bh] at hc)) | fail)); (all_goals clear hF)))
    refine stCall [.sl 2 (encRs (t.getD r []))] (he := ev_spanSize _ (by omega)) (k := ?_)
    (focus (have hF := (And.intro @h16 @g1); (repeat' (first | (with_reducible refine Nx.of ?_) | ((with_reducible apply toV); refine stV (k := ?_)) | ((with_reducible apply toG); refine stG (k := ?_)) | ((with_reducible apply toG0); refine stG0 (k := ?_)) | ((with_reducible apply toC); refine stC (k := ?_)) | ((with_reducible apply toO); refine stO (k := ?_)) | ((with_reducible apply toX); refine stX (k := ?_)) | (with_reducible refine Ny.of ?_ ?_) | (refine Hyp.of ?_; intro hc; (try simp only [hc]); (try simp only [Bh] at hc)) | fail)); (all_goals clear hF)))
    apply Fin.nextW (r + 1)
    case h => exact Wk.clean _ ⟨by simp [↓upd_app, ↓tms_cons', hnx], rfl, rfl, trivial⟩ ⟨rfl, encTs_stb t, rfl, trivial⟩
    omega
  · rw [show r = 16 by omega]
    (focus (have hF := @h16; (repeat' (first | (with_reducible refine Nx.of ?_) | ((with_reducible apply toV); refine stV (k := ?_)) | ((with_reducible apply toG); refine stG (k := ?_)) | ((with_reducible apply toG0); refine stG0 (k := ?_)) | ((with_reducible apply toC); refine stC (k := ?_)) | ((with_reducible apply toO); refine stO (k := ?_)) | ((with_reducible apply toX); refine stX (k := ?_)) | (with_reducible refine Ny.of ?_ ?_) | (refine Hyp.of ?_; intro hc; (try simp only [hc]); (try simp only [Bh] at hc)) | fail)); (all_goals clear hF)))
    exact Fin.tmp' rfl rfl
theorem normR_sorted {l c : List Rn} (hc : clips l = c) (h : c.Pairwise leLo) : normR l = c.foldl addR [] := by
  subst hc
  exact (normR_eq h (List.Perm.refl _)).symm
def fix0 : Pst := ⟨[2, 0, 0], [(0, 3, 4), (1, 2, 2)]⟩
def fix1 : Pst := ⟨[4], [(1, 2, 2)]⟩
theorem fix_rows : openT [fix0] = [[(1, 2), (3, 4)], [(1, 0), (2, 2)], [(1, 0)], [], [], [], [], [], [], [], [], [], [], [], [], []] := by decide
theorem fix_norm : (openT [fix0]).map normR = [[(1, 4)], [(2, 2)], [], [], [], [], [], [], [], [], [], [], [], [], [], []] := by
  rw [fix_rows]
  have n0 : normR [] = [] := normR_of_can Can.nil
  have n1 : normR [(1, 2), (3, 4)] = [(1, 4)] := (normR_sorted (c := [(1, 2), (3, 4)]) (by decide) (by simp [leLo])).trans (by decide)
  have n2 : normR [(1, 0), (2, 2)] = [(2, 2)] := (normR_sorted (c := [(2, 2)]) (by decide) (by simp)).trans (by decide)
  have n3 : normR [(1, 0)] = [] := (normR_sorted (c := []) (by decide) (by simp)).trans (by decide)
  simp only [List.map_cons, List.map_nil, n0, n1, n2, n3]
theorem getD_norm (t : Tab) (r : Nat) : normR (t.getD r []) = (t.map normR).getD r [] := by
  simp only [List.getD_eq_getElem?_getD, List.getElem?_map]
  cases t[r]? with
  | none => exact normR_of_can Can.nil
  | some l => rfl
def pastN (m : Tab) : Pst :=
  ⟨((List.range 16).map fun r => (leadOf (m.getD r [])).1).take ((List.range 16).foldl (fun a r => if 0 < (leadOf (m.getD r [])).1 then r + 1 else a) 0), (List.range 16).flatMap fun r => (leadOf (m.getD r [])).2.map (spanOf r)⟩
theorem pastT_N (t : Tab) : pastT t = pastN (t.map normR) := by
  unfold pastT pastN leadsT sizeT cloudT cloudRow restT leadT
  simp only [getD_norm]
theorem fix_normP : normP fix0 = fix1 := by
  unfold normP
  rw [pastT_N, fix_norm]
  rfl
theorem fix_size : sizeP fix1 = 5 := by
  have h : openT [fix1] = [[(1, 4)], [(2, 2)], [], [], [], [], [], [], [], [], [], [], [], [], [], []] := by decide
  have hm : (openT [fix1]).map normR = openT [fix1] := by
    rw [h]
    have n0 : normR [] = [] := normR_of_can Can.nil
    have n1 : normR [(1, 4)] = [(1, 4)] := (normR_sorted (c := [(1, 4)]) (by decide) (by simp)).trans (by decide)
    have n2 : normR [(2, 2)] = [(2, 2)] := (normR_sorted (c := [(2, 2)]) (by decide) (by simp)).trans (by decide)
    simp only [List.map_cons, List.map_nil, n0, n1, n2]
  unfold sizeP sizeTab
  simp only [getD_norm, hm]
  rw [h]
  rfl
theorem ev_law04fixed : Ev (En Try.prog rfl).P 11 [] (.ret (.bool true)) := by
  refine Ev.of_body it_law04fixed (by simp) (Run.start ?_)
  unfold t_law04fixed
  have h1 : sameP fix1 fix1 = true := by decide
  have h2 : hasP fix1 (0, 4) = true := by decide
  have c1 := ev_pastNorm fix0 (by decide)
  rw [fix_normP] at c1
  have c2 := ev_ref04Same fix1 fix1 (by decide) (by decide)
  rw [h1] at c2
  have c3 := ev_pastHas fix1 (0, 4) (by decide)
  rw [h2] at c3
  have c4 := ev_pastSize fix1 (by decide)
  rw [fix_size] at c4
  (focus (have hF := True.intro; (repeat' (first | (with_reducible refine Nx.of ?_) | ((with_reducible apply toV); refine stV (k := ?_)) | ((with_reducible apply toG); refine stG (k := ?_)) | ((with_reducible apply toG0); refine stG0 (k := ?_)) | ((with_reducible apply toC); refine stC (k := ?_)) | ((with_reducible apply toO); refine stO (k := ?_)) | ((with_reducible apply toX); refine stX (k := ?_)) | (with_reducible refine Ny.of ?_ ?_) | (refine Hyp.of ?_; intro hc; (try simp only [hc]); (try simp only [Bh] at hc)) | fail)); (all_goals clear hF)))
  refine stCall [encP fix0] (he := c1) (k := ?_)
  unfold encP
  (focus (have hF := True.intro; (repeat' (first | (with_reducible refine Nx.of ?_) | ((with_reducible apply toV); refine stV (k := ?_)) | ((with_reducible apply toG); refine stG (k := ?_)) | ((with_reducible apply toG0); refine stG0 (k := ?_)) | ((with_reducible apply toC); refine stC (k := ?_)) | ((with_reducible apply toO); refine stO (k := ?_)) | ((with_reducible apply toX); refine stX (k := ?_)) | (with_reducible refine Ny.of ?_ ?_) | (refine Hyp.of ?_; intro hc; (try simp only [hc]); (try simp only [Bh] at hc)) | fail)); (all_goals clear hF)))
  refine stCall [encP fix1, encP fix1] (he := c2) (k := ?_)
  (focus (have hF := True.intro; (repeat' (first | (with_reducible refine Nx.of ?_) | ((with_reducible apply toV); refine stV (k := ?_)) | ((with_reducible apply toG); refine stG (k := ?_)) | ((with_reducible apply toG0); refine stG0 (k := ?_)) | ((with_reducible apply toC); refine stC (k := ?_)) | ((with_reducible apply toO); refine stO (k := ?_)) | ((with_reducible apply toX); refine stX (k := ?_)) | (with_reducible refine Ny.of ?_ ?_) | (refine Hyp.of ?_; intro hc; (try simp only [hc]); (try simp only [Bh] at hc)) | fail)); (all_goals clear hF)))
  refine stCall [encP fix1, encR (0, 4)] (he := c3) (k := ?_)
  (focus (have hF := True.intro; (repeat' (first | (with_reducible refine Nx.of ?_) | ((with_reducible apply toV); refine stV (k := ?_)) | ((with_reducible apply toG); refine stG (k := ?_)) | ((with_reducible apply toG0); refine stG0 (k := ?_)) | ((with_reducible apply toC); refine stC (k := ?_)) | ((with_reducible apply toO); refine stO (k := ?_)) | ((with_reducible apply toX); refine stX (k := ?_)) | (with_reducible refine Ny.of ?_ ?_) | (refine Hyp.of ?_; intro hc; (try simp only [hc]); (try simp only [Bh] at hc)) | fail)); (all_goals clear hF)))
  refine stCall [encP fix1] (he := c4) (k := ?_)
  (focus (have hF := True.intro; (repeat' (first | (with_reducible refine Nx.of ?_) | ((with_reducible apply toV); refine stV (k := ?_)) | ((with_reducible apply toG); refine stG (k := ?_)) | ((with_reducible apply toG0); refine stG0 (k := ?_)) | ((with_reducible apply toC); refine stC (k := ?_)) | ((with_reducible apply toO); refine stO (k := ?_)) | ((with_reducible apply toX); refine stX (k := ?_)) | (with_reducible refine Ny.of ?_ ?_) | (refine Hyp.of ?_; intro hc; (try simp only [hc]); (try simp only [Bh] at hc)) | fail)); (all_goals clear hF)))
  exact Fin.tmp' rfl rfl
end Go.Proofs.Ytdmfjkhbodbgoaa.Avm

namespace Go.Proofs.Ytdmfjkhbodbgoaa.Avm
theorem pastT_ext {t t' : Tab} (h : t.length = 16) (h' : t'.length = 16) (hx : ∀ r, r < 16 → ∀ n, inT t r n ↔ inT t' r n) : pastT t = pastT t' := by
  have : t.map normR = t'.map normR := by
    refine List.ext_getElem (by simp [h, h']) fun i h1 h2 => ?_
    rw [List.length_map] at h1 h2
    rw [List.getElem_map, List.getElem_map]
    refine normR_ext fun n => ?_
    have := hx i (by omega) n
    unfold inT at this
    simpa [List.getD_eq_getElem?_getD, h1, h2] using this
  rw [pastT_N, pastT_N, this]
theorem joinP_ext {ps qs : List Pst} (h : ∀ r, r < 16 → ∀ n, (∃ p ∈ ps, inP p r n) ↔ ∃ p ∈ qs, inP p r n) : joinP ps = joinP qs :=
  pastT_ext (openT_le ps).1 (openT_le qs).1 fun r hr n => by rw [open_in hr, open_in hr, h r hr]
theorem normP_join (p : Pst) : normP p = joinP [p] := rfl
theorem normP_in (p : Pst) {r : Nat} (hr : r < 16) (n : Int) : inP (normP p) r n ↔ inP p r n := by
  rw [normP_join, joinP_in _ hr]; simp
theorem normP_ext {p q : Pst} (h : ∀ r, r < 16 → ∀ n, inP p r n ↔ inP q r n) : normP p = normP q := joinP_ext fun r hr n => by simp [h r hr]
def CanP (p : Pst) : Prop := normP p = p
theorem canP_of (t : Tab) (h : t.length = 16) : CanP (pastT t) := pastT_ext (openT_le _).1 h fun r hr n => by rw [open_in hr]; simp [past_in t hr]
theorem canP_join (ps : List Pst) : CanP (joinP ps) := canP_of _ (openT_le ps).1
theorem canP_norm (p : Pst) : CanP (normP p) := canP_join [p]
theorem CanP.ext {p q : Pst} (hp : CanP p) (hq : CanP q) (h : ∀ r, r < 16 → ∀ n, inP p r n ↔ inP q r n) : p = q := by
  rw [← hp, ← hq]
  exact normP_ext h
theorem inP_iff_norm {p q : Pst} (h : normP p = normP q) {r : Nat} (hr : r < 16) (n : Int) : inP p r n ↔ inP q r n := by
  rw [← normP_in p hr, h, normP_in q hr]
def tot (t : Tab) : Nat := (t.map List.length).sum
theorem sum_get : ∀ (l : List Nat) (i : Nat), (l.getD i 0) ≤ l.sum
  | [], i => by simp
  | x :: l, 0 => by simp
  | x :: l, i + 1 => by have := sum_get l i; simp at this ⊢; omega
theorem tot_row (t : Tab) (r : Nat) : (t.getD r []).length ≤ tot t := by
  have := sum_get (t.map List.length) r
  unfold tot
  simp only [List.getD_eq_getElem?_getD, List.getElem?_map] at this ⊢
  cases h : t[r]? with
  | none => simp
  | some l => simpa [h] using this
theorem tot_le {t : Tab} (h : t.length = 16) : TabLe t (tot t) := ⟨h, tot_row t⟩
theorem sum_set_le : ∀ (t : Tab) (r : Nat) (l : List Rn), ((t.set r l).map List.length).sum ≤ (t.map List.length).sum + (l.length - (t.getD r []).length)
  | [], r, l => by simp
  | x :: t, 0, l => by simp; omega
  | x :: t, r + 1, l => by have := sum_set_le t r l; simp at this ⊢; omega
theorem tot_add (t : Tab) (r : Nat) (x : Rn) : tot (addAt t r x) ≤ tot t + 1 := by
  have := sum_set_le t r (t.getD r [] ++ [x])
  unfold tot addAt
  simp only [List.length_append, List.length_cons, List.length_nil] at this
  omega
theorem tot_range (v : List Int) (t : Tab) : ∀ i, tot ((List.range i).foldl (putVec v) t) ≤ tot t + i
  | 0 => Nat.le_refl _
  | i + 1 => by
    rw [range_fold]
    have h1 := tot_range v t i
    have h2 := tot_add ((List.range i).foldl (putVec v) t) i (1, vecAt v i)
    unfold putVec at *
    omega
theorem tot_cloud : ∀ (c : List Sn) (t : Tab), tot (addCloud c t) ≤ tot t + c.length
  | [], t => Nat.le_refl _
  | s :: c, t => by
    have h1 := tot_cloud c (putSn t s)
    have h2 : tot (putSn t s) ≤ tot t + 1 := by
      unfold putSn
      split
      · exact tot_add _ _ _
      · omega
    show tot (addCloud c (putSn t s)) ≤ _
    simp only [List.length_cons]
    omega
theorem tot_open : ∀ (ps : List Pst) (t : Tab), tot (ps.foldl openOne t) ≤ tot t + (ps.map wt).sum
  | [], t => Nat.le_refl _
  | p :: ps, t => by
    have h1 := tot_open ps (openOne t p)
    have h2 : tot (openOne t p) ≤ tot t + wt p := by
      have a := tot_range p.vec t (min p.vec.length 16)
      have b := tot_cloud p.cloud (addVec p.vec t)
      unfold openOne addVec wt at *
      omega
    simp only [List.foldl_cons, List.map_cons, List.sum_cons]
    omega
theorem tot_openT (ps : List Pst) : tot (openT ps) ≤ (ps.map wt).sum := by
  have h0 : tot tab0 = 0 := by decide
  have := tot_open ps tab0
  unfold openT
  omega
theorem tot_dots : ∀ (ds : List Rn) (t : Tab), tot (ds.foldl putDot t) ≤ tot t + ds.length
  | [], t => Nat.le_refl _
  | d :: ds, t => by
    have h1 := tot_dots ds (putDot t d)
    have h2 : tot (putDot t d) ≤ tot t + 1 := by
      unfold putDot
      split
      · exact tot_add _ _ _
      · omega
    simp only [List.foldl_cons, List.length_cons]
    omega
theorem tot_ofT (ds : List Rn) : tot (ofT ds) ≤ ds.length := by
  have h0 : tot tab0 = 0 := by decide
  have := tot_dots ds tab0
  unfold ofT
  omega
theorem rest_sum (t : Tab) : ∀ m, (cloudT t m).length ≤ ((List.range m).map fun r => (t.getD r []).length).sum
  | 0 => by simp [cloudT]
  | m + 1 => by
    rw [cloudT_succ, List.length_append, List.range_succ, List.map_append, List.sum_append]
    have h1 := rest_sum t m
    have h2 : (cloudRow t m).length ≤ (t.getD m []).length := by
      have a := leadOf_len (normR (t.getD m []))
      have b := normR_len (t.getD m [])
      simp only [cloudRow, restT, List.length_map]
      omega
    simp only [List.map_cons, List.map_nil, List.sum_cons, List.sum_nil]
    omega
theorem range_getD : ∀ (t : Tab), ((List.range t.length).map fun r => (t.getD r []).length).sum = tot t
  | t => by
    unfold tot
    congr 1
    refine List.ext_getElem (by simp) fun i h1 h2 => ?_
    simp at h1 h2 ⊢
    simp [h1]
theorem pastT_tot {t : Tab} (h : t.length = 16) : wt (pastT t) ≤ 16 + tot t := by
  have h1 := rest_sum t 16
  have h2 := range_getD t
  rw [h] at h2
  show ((leadsT t 16).take (sizeT t 16)).length + (cloudT t 16).length ≤ _
  rw [List.length_take, leadsT_len]
  omega
theorem joinP_wt (ps : List Pst) : wt (joinP ps) ≤ 16 + (ps.map wt).sum := by
  have h1 := pastT_tot (openT_le ps).1
  have h2 := tot_openT ps
  show wt (pastT (openT ps)) ≤ _
  omega
theorem ofP_wt (ds : List Rn) : wt (ofP ds) ≤ 16 + ds.length := by
  have h1 := pastT_tot (ofT_le ds).1
  have h2 := tot_ofT ds
  show wt (pastT (ofT ds)) ≤ _
  omega
theorem putP_wt (p : Pst) (d : Rn) : wt (putP p d) ≤ wt p + 33 := by
  have h1 := joinP_wt [p, ofP [d]]
  have h2 := ofP_wt [d]
  simp only [List.map_cons, List.map_nil, List.sum_cons, List.sum_nil, List.length_cons, List.length_nil] at h1 h2
  show wt (joinP [p, ofP [d]]) ≤ _
  omega
theorem normP_wt (p : Pst) : wt (normP p) ≤ wt p + 16 := by
  have := joinP_wt [p]
  simp only [List.map_cons, List.map_nil, List.sum_cons, List.sum_nil] at this
  show wt (joinP [p]) ≤ _
  omega
theorem n9_ex : ∃ N : Nat, N = 1000000000 := ⟨_, rfl⟩
noncomputable def n9 : Nat := Classical.choose n9_ex
theorem n9_eq : n9 = 1000000000 := Classical.choose_spec n9_ex
open Classical in
noncomputable def card (q : Int → Prop) : Nat := (List.range n9).countP fun (i : Nat) => decide (q ((i : Int) + 1))
open Classical in
theorem card_def (q : Int → Prop) : card q = (List.range n9).countP fun (i : Nat) => decide (q ((i : Int) + 1)) := rfl
open Classical in
theorem countP_add {α : Type} (p q r s : α → Prop) (l : List α) (h : ∀ x, (if p x then 1 else 0) + (if q x then 1 else 0) = (if r x then 1 else 0) + (if s x then 1 else 0)) :
    l.countP (fun x => decide (p x)) + l.countP (fun x => decide (q x)) = l.countP (fun x => decide (r x)) + l.countP (fun x => decide (s x)) := by
  induction l with
  | nil => rfl
  | cons x l ih =>
    have := h x
    simp only [List.countP_cons, decide_eq_true_eq]
    omega
open Classical in
theorem card_union (p q : Int → Prop) : card (fun n => p n ∨ q n) + card (fun n => p n ∧ q n) = card p + card q := by
  simp only [card_def]
  refine countP_add _ _ _ _ _ fun x => ?_
  by_cases h1 : p ((x : Int) + 1) <;> by_cases h2 : q ((x : Int) + 1) <;> simp [h1, h2]
open Classical in
theorem card_part (p q : Int → Prop) : card (fun n => p n ∧ ¬ q n) + card (fun n => p n ∧ q n) = card p := by
  have h0 : card (fun _ => False) = 0 := by simp [card_def]
  have := countP_add (fun i : Nat => p ((i : Int) + 1) ∧ ¬ q ((i : Int) + 1)) (fun i : Nat => p ((i : Int) + 1) ∧ q ((i : Int) + 1)) (fun i : Nat => p ((i : Int) + 1)) (fun i : Nat => False) (List.range n9) (fun x => by
    by_cases h1 : p ((x : Int) + 1) <;> by_cases h2 : q ((x : Int) + 1) <;> simp [h1, h2])
  simp only [card_def] at h0 ⊢
  omega
theorem card_congr {p q : Int → Prop} (h : ∀ n, 1 ≤ n → n ≤ 1000000000 → (p n ↔ q n)) : card p = card q := by
  classical
  simp only [card_def]
  refine List.countP_congr fun i hi => ?_
  rw [List.mem_range, n9_eq] at hi
  simp only [decide_eq_true_eq]
  exact h _ (by omega) (by omega)
theorem count_range (a b : Nat) : ∀ N : Nat, (List.range N).countP (fun i => decide (a ≤ i ∧ i < b)) = min N b - min N a
  | 0 => by simp
  | N + 1 => by
    rw [List.range_succ, List.countP_append, count_range a b N]
    by_cases h : a ≤ N ∧ N < b
    · simp only [List.countP_cons, List.countP_nil, h, and_self, decide_true, if_true]
      omega
    · simp only [List.countP_cons, List.countP_nil, h, decide_false, Bool.false_eq_true, if_false]
      omega
theorem card_run {a b : Int} (h1 : 1 ≤ a) (h2 : a ≤ b) (h3 : b ≤ 1000000000) : (card (fun n => a ≤ n ∧ n ≤ b) : Int) = b - a + 1 := by
  classical
  have h : card (fun n => a ≤ n ∧ n ≤ b) = min n9 b.toNat - min n9 (a - 1).toNat := by
    rw [← count_range (a - 1).toNat b.toNat n9, card_def]
    refine List.countP_congr fun i hi => ?_
    simp only [decide_eq_true_eq]
    omega
  rw [h, n9_eq]
  omega
theorem sizeFold_shift (m : List Rn) (a : Int) : m.foldl sizeStep a = a + m.foldl sizeStep 0 := by
  induction m generalizing a with
  | nil => simp
  | cons x m ih =>
    simp only [List.foldl_cons]
    rw [ih, ih (sizeStep 0 x)]
    unfold sizeStep
    omega
theorem sizeR_card : ∀ {m : List Rn}, Can m → sizeR m = (card (inR m) : Int)
  | [], _ => by
    have : card (inR []) = 0 := by
      classical
      rw [card_def]
      exact List.countP_eq_zero.2 fun i _ => by simp [inR_nil]
    rw [this]; rfl
  | x :: m, h => by
    have hx := (Can.cons_iff.1 h).1
    unfold okR at hx
    have ih := sizeR_card h.tail
    have h1 := card_run hx.1 hx.2.1 hx.2.2
    have h2 := card_union (fun n => x.1 ≤ n ∧ n ≤ x.2) (inR m)
    have h3 : card (fun n => (x.1 ≤ n ∧ n ≤ x.2) ∧ inR m n) = 0 := by
      classical
      rw [card_def]
      refine List.countP_eq_zero.2 fun i _ => ?_
      simp only [decide_eq_true_eq]
      rintro ⟨q1, q2⟩
      have := h.above q2
      omega
    have h4 : card (inR (x :: m)) = card (fun n => (x.1 ≤ n ∧ n ≤ x.2) ∨ inR m n) := card_congr fun n _ _ => inR_cons x m n
    unfold sizeR at *
    rw [List.foldl_cons, sizeFold_shift, ih, h4]
    unfold sizeStep
    omega
noncomputable def cardT (q : Nat → Int → Prop) : Nat → Nat
  | 0 => 0
  | m + 1 => cardT q m + card (q m)
theorem cardT_congr {q q' : Nat → Int → Prop} : ∀ {m : Nat}, (∀ r, r < m → ∀ n, 1 ≤ n → n ≤ 1000000000 → (q r n ↔ q' r n)) → cardT q m = cardT q' m
  | 0, _ => rfl
  | m + 1, h => by
    show cardT q m + card (q m) = cardT q' m + card (q' m)
    rw [cardT_congr (m := m) fun r hr => h r (by omega), card_congr (h m (by omega))]
theorem sizeTab_card (t : Tab) : ∀ m, sizeTab t m = (cardT (inT t) m : Int)
  | 0 => rfl
  | m + 1 => by
    rw [sizeTab_succ, sizeTab_card t m, sizeR_card (normR_can _)]
    show _ = ((cardT (inT t) m + card (inT t m) : Nat) : Int)
    rw [card_congr (p := inR (normR (t.getD m []))) (q := inT t m) fun n _ _ => normR_in _ n]
    omega
theorem sizeP_card (p : Pst) : sizeP p = (cardT (inP p) 16 : Int) := by
  unfold sizeP
  rw [sizeTab_card]
  congr 1
  exact cardT_congr fun r hr n _ _ => by rw [open_in hr]; simp
theorem cardT_union (p q : Nat → Int → Prop) : ∀ m, cardT (fun r n => p r n ∨ q r n) m + cardT (fun r n => p r n ∧ q r n) m = cardT p m + cardT q m
  | 0 => rfl
  | m + 1 => by
    have h1 := cardT_union p q m
    have h2 := card_union (p m) (q m)
    simp only [cardT] at *
    omega
theorem cardT_part (p q : Nat → Int → Prop) : ∀ m, cardT (fun r n => p r n ∧ ¬ q r n) m + cardT (fun r n => p r n ∧ q r n) m = cardT p m
  | 0 => rfl
  | m + 1 => by
    have h1 := cardT_part p q m
    have h2 := card_part (p m) (q m)
    simp only [cardT] at *
    omega
end Go.Proofs.Ytdmfjkhbodbgoaa.Avm

namespace Go.Proofs.Ytdmfjkhbodbgoaa.Avm
open Go.Proofs
def r_slicesEqualintint_1 : List SOp :=
  [⟨(some 4), (.assign (.const (.bool false))), none⟩]
instance : Live r_slicesEqualintint_1 := ⟨[0, 1]⟩
def r_slicesEqualintint_2 : List SOp :=
  [⟨(some 6), (.move (.tmp 0)), none⟩, ⟨(some 7), (.call ⟨.builtin .len, #[.tmp 6], #[22]⟩), none⟩, ⟨(some 8), (.move (.tmp 1)), none⟩, ⟨(some 9), (.call ⟨.builtin .len, #[.tmp 8], #[22]⟩), none⟩, ⟨(some 10), (.binOp .neq 3 (.tmp 7) (.tmp 9) 3), none⟩]
instance : Live r_slicesEqualintint_2 := ⟨[0, 1]⟩
def r_slicesEqualintint_3 : List SOp :=
  [⟨(some 4), (.assign (.const (.bool false))), none⟩]
instance : Live r_slicesEqualintint_3 := ⟨[]⟩
def r_slicesEqualintint_4 : List SOp :=
  [⟨(some 11), (.move (.tmp 0)), none⟩, ⟨(some 12), (.call ⟨.builtin .len, #[.tmp 11], #[22]⟩), none⟩, ⟨(some 13), (.move (.const (.int .i64 0))), none⟩]
instance : Live r_slicesEqualintint_4 := ⟨[0, 1]⟩
def r_slicesEqualintint_5 : List SOp :=
  [⟨(some 14), (.binOp .lss 3 (.tmp 13) (.tmp 12) 3), none⟩]
instance : Live r_slicesEqualintint_5 := ⟨[0, 1, 12, 13]⟩
def r_slicesEqualintint_6 : List SOp :=
  [⟨(some 15), (.move (.tmp 13)), none⟩, ⟨(some 5), (.assign (.tmp 15)), none⟩]
instance : Live r_slicesEqualintint_6 := ⟨[0, 1, 12, 13]⟩
def r_slicesEqualintint_7 : List SOp :=
  [⟨(some 16), (.move (.tmp 0)), none⟩, ⟨(some 17), (.move (.tmp 5)), none⟩, ⟨(some 18), (.indexAddr 22 (.tmp 16) (.tmp 17)), none⟩, ⟨(some 19), (.load 3 (.tmp 18)), none⟩, ⟨(some 20), (.move (.tmp 1)), none⟩, ⟨(some 21), (.move (.tmp 5)), none⟩, ⟨(some 22), (.indexAddr 22 (.tmp 20) (.tmp 21)), none⟩, ⟨(some 23), (.load 3 (.tmp 22)), none⟩, ⟨(some 24), (.binOp .neq 3 (.tmp 19) (.tmp 23) 3), none⟩]
instance : Live r_slicesEqualintint_7 := ⟨[0, 1, 5, 12, 13]⟩
def r_slicesEqualintint_8 : List SOp :=
  [⟨(some 4), (.assign (.const (.bool false))), none⟩]
instance : Live r_slicesEqualintint_8 := ⟨[]⟩
def r_slicesEqualintint_9 : List SOp :=
  [⟨(some 25), (.binOp .add 3 (.tmp 13) (.const (.int .i64 1)) 3), none⟩, ⟨(some 13), (.move (.tmp 25)), none⟩]
instance : Live r_slicesEqualintint_9 := ⟨[0, 1, 12, 13]⟩
def r_slicesEqualintint_10 : List SOp :=
  [⟨(some 4), (.assign (.const (.bool true))), none⟩]
instance : Live r_slicesEqualintint_10 := ⟨[]⟩
def t_slicesEqualintint_l1 : SC :=
  (.seq (.ops false r_slicesEqualintint_5) (.seq (.cond (.tmp 14) .skip (.exit 0)) (.seq (.block 1 (.seq (.ops false r_slicesEqualintint_6) (.seq (.ops true r_slicesEqualintint_7) (.cond (.tmp 24) (.seq (.ops false r_slicesEqualintint_8) .ret) .skip)))) (.ops false r_slicesEqualintint_9))))
def t_slicesEqualintint : SC :=
  (.seq (.ops false r_slicesEqualintint_1) (.seq (.seq (.ops false r_slicesEqualintint_2) (.cond (.tmp 10) (.seq (.ops false r_slicesEqualintint_3) .ret) .skip)) (.seq (.seq (.ops false r_slicesEqualintint_4) (.block 0 (.loop t_slicesEqualintint_l1))) (.seq (.ops false r_slicesEqualintint_10) .ret))))
theorem it_slicesEqualintint : FnIs Try.prog 54 26 [.tmp 4] t_slicesEqualintint := ⟨Try.f54, _, Try.func54, rfl, rfl, rfl, rfl, by kernel_rfl⟩
end Go.Proofs.Ytdmfjkhbodbgoaa.Avm

namespace Go.Proofs.Ytdmfjkhbodbgoaa.Avm
open Go.Proofs
def r_slicesEqualapiSpanapiSpan_1 : List SOp :=
  [⟨(some 4), (.assign (.const (.bool false))), none⟩]
instance : Live r_slicesEqualapiSpanapiSpan_1 := ⟨[0, 1]⟩
def r_slicesEqualapiSpanapiSpan_2 : List SOp :=
  [⟨(some 6), (.move (.tmp 0)), none⟩, ⟨(some 7), (.call ⟨.builtin .len, #[.tmp 6], #[23]⟩), none⟩, ⟨(some 8), (.move (.tmp 1)), none⟩, ⟨(some 9), (.call ⟨.builtin .len, #[.tmp 8], #[23]⟩), none⟩, ⟨(some 10), (.binOp .neq 3 (.tmp 7) (.tmp 9) 3), none⟩]
instance : Live r_slicesEqualapiSpanapiSpan_2 := ⟨[0, 1]⟩
def r_slicesEqualapiSpanapiSpan_3 : List SOp :=
  [⟨(some 4), (.assign (.const (.bool false))), none⟩]
instance : Live r_slicesEqualapiSpanapiSpan_3 := ⟨[]⟩
def r_slicesEqualapiSpanapiSpan_4 : List SOp :=
  [⟨(some 11), (.move (.tmp 0)), none⟩, ⟨(some 12), (.call ⟨.builtin .len, #[.tmp 11], #[23]⟩), none⟩, ⟨(some 13), (.move (.const (.int .i64 0))), none⟩]
instance : Live r_slicesEqualapiSpanapiSpan_4 := ⟨[0, 1]⟩
def r_slicesEqualapiSpanapiSpan_5 : List SOp :=
  [⟨(some 14), (.binOp .lss 3 (.tmp 13) (.tmp 12) 3), none⟩]
instance : Live r_slicesEqualapiSpanapiSpan_5 := ⟨[0, 1, 12, 13]⟩
def r_slicesEqualapiSpanapiSpan_6 : List SOp :=
  [⟨(some 15), (.move (.tmp 13)), none⟩, ⟨(some 5), (.assign (.tmp 15)), none⟩]
instance : Live r_slicesEqualapiSpanapiSpan_6 := ⟨[0, 1, 12, 13]⟩
def r_slicesEqualapiSpanapiSpan_7 : List SOp :=
  [⟨(some 16), (.move (.tmp 0)), none⟩, ⟨(some 17), (.move (.tmp 5)), none⟩, ⟨(some 18), (.indexAddr 23 (.tmp 16) (.tmp 17)), none⟩, ⟨(some 19), (.load 41 (.tmp 18)), none⟩, ⟨(some 20), (.move (.tmp 1)), none⟩, ⟨(some 21), (.move (.tmp 5)), none⟩, ⟨(some 22), (.indexAddr 23 (.tmp 20) (.tmp 21)), none⟩, ⟨(some 23), (.load 41 (.tmp 22)), none⟩, ⟨(some 24), (.binOp .neq 41 (.tmp 19) (.tmp 23) 41), none⟩]
instance : Live r_slicesEqualapiSpanapiSpan_7 := ⟨[0, 1, 5, 12, 13]⟩
def r_slicesEqualapiSpanapiSpan_8 : List SOp :=
  [⟨(some 4), (.assign (.const (.bool false))), none⟩]
instance : Live r_slicesEqualapiSpanapiSpan_8 := ⟨[]⟩
def r_slicesEqualapiSpanapiSpan_9 : List SOp :=
  [⟨(some 25), (.binOp .add 3 (.tmp 13) (.const (.int .i64 1)) 3), none⟩, ⟨(some 13), (.move (.tmp 25)), none⟩]
instance : Live r_slicesEqualapiSpanapiSpan_9 := ⟨[0, 1, 12, 13]⟩
def r_slicesEqualapiSpanapiSpan_10 : List SOp :=
  [⟨(some 4), (.assign (.const (.bool true))), none⟩]
instance : Live r_slicesEqualapiSpanapiSpan_10 := ⟨[]⟩
def t_slicesEqualapiSpanapiSpan_l1 : SC :=
  (.seq (.ops false r_slicesEqualapiSpanapiSpan_5) (.seq (.cond (.tmp 14) .skip (.exit 0)) (.seq (.block 1 (.seq (.ops false r_slicesEqualapiSpanapiSpan_6) (.seq (.ops true r_slicesEqualapiSpanapiSpan_7) (.cond (.tmp 24) (.seq (.ops false r_slicesEqualapiSpanapiSpan_8) .ret) .skip)))) (.ops false r_slicesEqualapiSpanapiSpan_9))))
def t_slicesEqualapiSpanapiSpan : SC :=
  (.seq (.ops false r_slicesEqualapiSpanapiSpan_1) (.seq (.seq (.ops false r_slicesEqualapiSpanapiSpan_2) (.cond (.tmp 10) (.seq (.ops false r_slicesEqualapiSpanapiSpan_3) .ret) .skip)) (.seq (.seq (.ops false r_slicesEqualapiSpanapiSpan_4) (.block 0 (.loop t_slicesEqualapiSpanapiSpan_l1))) (.seq (.ops false r_slicesEqualapiSpanapiSpan_10) .ret))))
theorem it_slicesEqualapiSpanapiSpan : FnIs Try.prog 55 26 [.tmp 4] t_slicesEqualapiSpanapiSpan := ⟨Try.f55, _, Try.func55, rfl, rfl, rfl, rfl, by kernel_rfl⟩
end Go.Proofs.Ytdmfjkhbodbgoaa.Avm

namespace Go.Proofs.Ytdmfjkhbodbgoaa.Avm
open Go.Proofs
def r_pastIsNorm_1 : List SOp :=
  [⟨(some 1), (.box 25 (.tmp 0)), none⟩, ⟨(some 2), (.assign (.const (.bool false))), none⟩]
instance : Live r_pastIsNorm_1 := ⟨[0]⟩
def r_pastIsNorm_2 : List SOp :=
  [⟨(some 4), (.load 25 (.tmp 1)), none⟩, ⟨(some 5), (.call ⟨.value (.func 17), #[.tmp 4], #[25]⟩), none⟩, ⟨(some 3), (.alloc 25), none⟩, ⟨none, (.store 25 (.tmp 3) (.tmp 5)), none⟩]
instance : Live r_pastIsNorm_2 := ⟨[1]⟩
def r_pastIsNorm_3 : List SOp :=
  [⟨(some 6), (.fieldAddr 25 (.tmp 1) 0), none⟩, ⟨(some 7), (.load 22 (.tmp 6)), none⟩, ⟨(some 8), (.fieldAddr 25 (.tmp 3) 0), none⟩, ⟨(some 9), (.load 22 (.tmp 8)), none⟩, ⟨(some 10), (.call ⟨.value (.func 54), #[.tmp 7, .tmp 9], #[22, 22]⟩), none⟩, ⟨(some 11), (.move (.tmp 10)), none⟩, ⟨(some 12), (.fieldAddr 25 (.tmp 1) 1), (some ((some 11), true))⟩, ⟨(some 13), (.load 23 (.tmp 12)), (some ((some 11), true))⟩, ⟨(some 14), (.fieldAddr 25 (.tmp 3) 1), (some ((some 11), true))⟩, ⟨(some 15), (.load 23 (.tmp 14)), (some ((some 11), true))⟩, ⟨(some 16), (.call ⟨.value (.func 55), #[.tmp 13, .tmp 15], #[23, 23]⟩), (some ((some 11), true))⟩, ⟨(some 17), (.pick (.tmp 11) (.tmp 16) (.const (.bool false))), none⟩, ⟨(some 2), (.assign (.tmp 17)), none⟩]
instance : Live r_pastIsNorm_3 := ⟨[1, 3]⟩
def t_pastIsNorm : SC :=
  (.seq (.ops false r_pastIsNorm_1) (.seq (.ops false r_pastIsNorm_2) (.seq (.ops false r_pastIsNorm_3) .ret)))
theorem it_pastIsNorm : FnIs Try.prog 19 18 [.tmp 2] t_pastIsNorm := ⟨Try.f19, _, Try.func19, rfl, rfl, rfl, rfl, by kernel_rfl⟩
end Go.Proofs.Ytdmfjkhbodbgoaa.Avm

namespace Go.Proofs.Ytdmfjkhbodbgoaa.Avm
open Go.Proofs
theorem list_ext_upto {α : Type} {a b : List α} (hl : a.length = b.length) (h : ∀ j, j < a.length → a[j]? = b[j]?) : a = b := by
  refine List.ext_getElem? fun j => ?_
  by_cases hj : j < a.length
  · exact h j hj
  · rw [List.getElem?_eq_none (by omega), List.getElem?_eq_none (by omega)]
theorem upto_succ {α : Type} {a b : List α} {i : Nat} (h : ∀ j, j < i → a[j]? = b[j]?) (hi : a[i]? = b[i]?) : ∀ j, j < i + 1 → a[j]? = b[j]? := fun j hj => by
  by_cases e : j = i
  · rw [e]; exact hi
  · exact h j (by omega)
theorem ev_slicesEqualintint (a b : List Int) (ha : a.length ≤ 1000000000) (hb : b.length ≤ 1000000000) : Ev (En Try.prog rfl).P 54 [.sl 1 (encIs a), .sl 1 (encIs b)] (.ret (.bool (decide (a = b)))) := by
  refine Ev.of_body it_slicesEqualintint (by simp) (Run.start ?_)
  unfold t_slicesEqualintint
  have e1 := encIs_len a
  have e2 := encIs_len b
  (focus (have hF := (And.intro @e1 @e2); (repeat' (first | (with_reducible refine Nx.of ?_) | ((with_reducible apply toV); refine stV (k := ?_)) | ((with_reducible apply toG); refine stG (k := ?_)) | ((with_reducible apply toG0); refine stG0 (k := ?_)) | ((with_reducible apply toC); refine stC (k := ?_)) | ((with_reducible apply toO); refine stO (k := ?_)) | ((with_reducible apply toX); refine stX (k := ?_)) | (with_reducible refine Ny.of ?_ ?_) | (refine Hyp.of ?_; intro hc; (try simp only [hc]); (try simp only [Bh] at hc)) | fail)); (all_goals clear hF)))
  · rw [decide_eq_false fun h => hc (by rw [h])]
    exact Fin.tmp' rfl rfl
  · refine Run.while (σ := Nat) (fun i => ⟨tms [(0, .sl 1 (encIs a)), (1, .sl 1 (encIs b)), (12, .int .i64 (a.length : Int)), (13, .int .i64 (i : Int))], mms []⟩) (fun i => i ≤ a.length ∧ ∀ j, j < i → a[j]? = b[j]?) (fun i => a.length - i) 0 (have hW := @encIs_stb; stWk) ⟨Nat.zero_le _, fun j hj => absurd hj (Nat.not_lt_zero _)⟩ ?_
    rintro i ⟨hi, hp⟩
    unfold t_slicesEqualintint_l1
    by_cases hlt : i < a.length
    · obtain ⟨x, hx⟩ : ∃ x, a[i]? = some x := ⟨a[i], by simp [hlt]⟩
      obtain ⟨y, hy⟩ : ∃ y, b[i]? = some y := ⟨b[i]'(by omega), by simp [show i < b.length by omega]⟩
      have g1 := encIs_get hx
      have g2 := encIs_get hy
      (focus (have hF := (And.intro (And.intro @e1 @e2) (And.intro @g1 @g2)); (repeat' (first | (with_reducible refine Nx.of ?_) | ((with_reducible apply toV); refine stV (k := ?_)) | ((with_reducible apply toG); refine stG (k := ?_)) | ((with_reducible apply toG0); refine stG0 (k := ?_)) | ((with_reducible apply toC); refine stC (k := ?_)) | ((with_reducible apply toO); refine stO (k := ?_)) | ((with_reducible apply toX); refine stX (k := ?_)) | (with_reducible refine Ny.of ?_ ?_) | (refine Hyp.of ?_; intro hc; (try simp only [hc]); (try simp only [Bh] at hc)) | fail)); (all_goals clear hF)))
      · rw [decide_eq_false fun h => hc (by rw [h, hy] at hx; exact (Option.some.inj hx).symm)]
        exact Fin.tmp' rfl rfl
      · have hs := upto_succ hp (hx.trans ((congrArg some hc).trans hy.symm))
        (refine Fin.nextW (i + 1) ?_ (have hW := @encIs_stb; stWk); (try dsimp only))
        exact ⟨⟨hlt, hs⟩, by omega⟩
    · rw [decide_eq_true (list_ext_upto (by omega) fun j hj => hp j (by omega))]
      (focus (have hF := (And.intro @e1 @e2); (repeat' (first | (with_reducible refine Nx.of ?_) | ((with_reducible apply toV); refine stV (k := ?_)) | ((with_reducible apply toG); refine stG (k := ?_)) | ((with_reducible apply toG0); refine stG0 (k := ?_)) | ((with_reducible apply toC); refine stC (k := ?_)) | ((with_reducible apply toO); refine stO (k := ?_)) | ((with_reducible apply toX); refine stX (k := ?_)) | (with_reducible refine Ny.of ?_ ?_) | (refine Hyp.of ?_; intro hc; (try simp only [hc]); (try simp only [Bh] at hc)) | fail)); (all_goals clear hF)))
      exact Fin.tmp' rfl rfl
theorem ev_slicesEqualapiSpanapiSpan (a b : List Sn) (ha : a.length ≤ 1000000000) (hb : b.length ≤ 1000000000) : Ev (En Try.prog rfl).P 55 [.sl 3 (encSs a), .sl 3 (encSs b)] (.ret (.bool (decide (a = b)))) := by
  refine Ev.of_body it_slicesEqualapiSpanapiSpan (by simp) (Run.start ?_)
  unfold t_slicesEqualapiSpanapiSpan
  have e1 := encSs_len a
  have e2 := encSs_len b
  (focus (have hF := (And.intro @e1 @e2); (repeat' (first | (with_reducible refine Nx.of ?_) | ((with_reducible apply toV); refine stV (k := ?_)) | ((with_reducible apply toG); refine stG (k := ?_)) | ((with_reducible apply toG0); refine stG0 (k := ?_)) | ((with_reducible apply toC); refine stC (k := ?_)) | ((with_reducible apply toO); refine stO (k := ?_)) | ((with_reducible apply toX); refine stX (k := ?_)) | (with_reducible refine Ny.of ?_ ?_) | (refine Hyp.of ?_; intro hc; (try simp only [hc]); (try simp only [Bh] at hc)) | fail)); (all_goals clear hF)))
  · rw [decide_eq_false fun h => hc (by rw [h])]
    exact Fin.tmp' rfl rfl
  · refine Run.while (σ := Nat) (fun i => ⟨tms [(0, .sl 3 (encSs a)), (1, .sl 3 (encSs b)), (12, .int .i64 (a.length : Int)), (13, .int .i64 (i : Int))], mms []⟩) (fun i => i ≤ a.length ∧ ∀ j, j < i → a[j]? = b[j]?) (fun i => a.length - i) 0 (have hW := @encSs_stb; stWk) ⟨Nat.zero_le _, fun j hj => absurd hj (Nat.not_lt_zero _)⟩ ?_
    rintro i ⟨hi, hp⟩
    unfold t_slicesEqualapiSpanapiSpan_l1
    by_cases hlt : i < a.length
    · obtain ⟨x, hx⟩ : ∃ x, a[i]? = some x := ⟨a[i], by simp [hlt]⟩
      obtain ⟨y, hy⟩ : ∃ y, b[i]? = some y := ⟨b[i]'(by omega), by simp [show i < b.length by omega]⟩
      have g1 := encSs_get hx
      have g2 := encSs_get hy
      (focus (have hF := (And.intro (And.intro @e1 @e2) (And.intro @g1 @g2)); (repeat' (first | (with_reducible refine Nx.of ?_) | ((with_reducible apply toV); refine stV (k := ?_)) | ((with_reducible apply toG); refine stG (k := ?_)) | ((with_reducible apply toG0); refine stG0 (k := ?_)) | ((with_reducible apply toC); refine stC (k := ?_)) | ((with_reducible apply toO); refine stO (k := ?_)) | ((with_reducible apply toX); refine stX (k := ?_)) | (with_reducible refine Ny.of ?_ ?_) | (refine Hyp.of ?_; intro hc; (try simp only [hc]); (try simp only [Bh] at hc)) | fail)); (all_goals clear hF)))
      · rw [decide_eq_false fun h => by
          rw [h, hy] at hx
          have := Option.some.inj hx
          subst this
          simp at hc]
        exact Fin.tmp' rfl rfl
      · have hxy : x = y := Prod.ext hc.1 (Prod.ext hc.2.1 hc.2.2)
        have hs := upto_succ hp (hx.trans ((congrArg some hxy).trans hy.symm))
        (refine Fin.nextW (i + 1) ?_ (have hW := @encSs_stb; stWk); (try dsimp only))
        exact ⟨⟨hlt, hs⟩, by omega⟩
    · rw [decide_eq_true (list_ext_upto (by omega) fun j hj => hp j (by omega))]
      (focus (have hF := (And.intro @e1 @e2); (repeat' (first | (with_reducible refine Nx.of ?_) | ((with_reducible apply toV); refine stV (k := ?_)) | ((with_reducible apply toG); refine stG (k := ?_)) | ((with_reducible apply toG0); refine stG0 (k := ?_)) | ((with_reducible apply toC); refine stC (k := ?_)) | ((with_reducible apply toO); refine stO (k := ?_)) | ((with_reducible apply toX); refine stX (k := ?_)) | (with_reducible refine Ny.of ?_ ?_) | (refine Hyp.of ?_; intro hc; (try simp only [hc]); (try simp only [Bh] at hc)) | fail)); (all_goals clear hF)))
      exact Fin.tmp' rfl rfl
def isNormP (p : Pst) : Bool := decide (p.vec = (normP p).vec) && decide (p.cloud = (normP p).cloud)
theorem isNormP_iff {p : Pst} : isNormP p = true ↔ CanP p := by
  unfold isNormP CanP
  rw [Bool.and_eq_true, decide_eq_true_eq, decide_eq_true_eq]
  constructor
  · rintro ⟨h1, h2⟩
    have : ∀ q : Pst, p.vec = q.vec → p.cloud = q.cloud → q = p := fun q a b => by cases p; cases q; simp at a b; rw [a, b]
    exact this _ h1 h2
  · intro h
    rw [h]
    exact ⟨rfl, rfl⟩
theorem ev_pastIsNorm (p : Pst) (hw : wt p ≤ 40000000) : Ev (En Try.prog rfl).P 19 [encP p] (.ret (.bool (isNormP p))) := by
  refine Ev.of_body it_pastIsNorm (by simp) (Run.start ?_)
  unfold t_pastIsNorm encP
  have c1 := ev_pastNorm p (by omega)
  have hn := normP_wt p
  have hw1 : p.vec.length + p.cloud.length = wt p := rfl
  have hw2 : (normP p).vec.length + (normP p).cloud.length = wt (normP p) := rfl
  have c2 := ev_slicesEqualintint p.vec (normP p).vec (by omega) (by omega)
  have c3 := ev_slicesEqualapiSpanapiSpan p.cloud (normP p).cloud (by omega) (by omega)
  (focus (have hF := True.intro; (repeat' (first | (with_reducible refine Nx.of ?_) | ((with_reducible apply toV); refine stV (k := ?_)) | ((with_reducible apply toG); refine stG (k := ?_)) | ((with_reducible apply toG0); refine stG0 (k := ?_)) | ((with_reducible apply toC); refine stC (k := ?_)) | ((with_reducible apply toO); refine stO (k := ?_)) | ((with_reducible apply toX); refine stX (k := ?_)) | (with_reducible refine Ny.of ?_ ?_) | (refine Hyp.of ?_; intro hc; (try simp only [hc]); (try simp only [Bh] at hc)) | fail)); (all_goals clear hF)))
  refine stCall [encP p] (he := c1) (k := ?_)
  unfold encP
  (focus (have hF := True.intro; (repeat' (first | (with_reducible refine Nx.of ?_) | ((with_reducible apply toV); refine stV (k := ?_)) | ((with_reducible apply toG); refine stG (k := ?_)) | ((with_reducible apply toG0); refine stG0 (k := ?_)) | ((with_reducible apply toC); refine stC (k := ?_)) | ((with_reducible apply toO); refine stO (k := ?_)) | ((with_reducible apply toX); refine stX (k := ?_)) | (with_reducible refine Ny.of ?_ ?_) | (refine Hyp.of ?_; intro hc; (try simp only [hc]); (try simp only [Bh] at hc)) | fail)); (all_goals clear hF)))
  by_cases hv : p.vec = (normP p).vec
  · have hr : isNormP p = decide (p.cloud = (normP p).cloud) := by unfold isNormP; rw [decide_eq_true hv]; rfl
    rw [decide_eq_true hv] at c2
    rw [hr]
    refine stCall [.sl 1 (encIs p.vec), .sl 1 (encIs (normP p).vec)] (he := c2) (k := ?_)
    (focus (have hF := True.intro; (repeat' (first | (with_reducible refine Nx.of ?_) | ((with_reducible apply toV); refine stV (k := ?_)) | ((with_reducible apply toG); refine stG (k := ?_)) | ((with_reducible apply toG0); refine stG0 (k := ?_)) | ((with_reducible apply toC); refine stC (k := ?_)) | ((with_reducible apply toO); refine stO (k := ?_)) | ((with_reducible apply toX); refine stX (k := ?_)) | (with_reducible refine Ny.of ?_ ?_) | (refine Hyp.of ?_; intro hc; (try simp only [hc]); (try simp only [Bh] at hc)) | fail)); (all_goals clear hF)))
    refine stCall [.sl 3 (encSs p.cloud), .sl 3 (encSs (normP p).cloud)] (he := c3) (k := ?_)
    (focus (have hF := True.intro; (repeat' (first | (with_reducible refine Nx.of ?_) | ((with_reducible apply toV); refine stV (k := ?_)) | ((with_reducible apply toG); refine stG (k := ?_)) | ((with_reducible apply toG0); refine stG0 (k := ?_)) | ((with_reducible apply toC); refine stC (k := ?_)) | ((with_reducible apply toO); refine stO (k := ?_)) | ((with_reducible apply toX); refine stX (k := ?_)) | (with_reducible refine Ny.of ?_ ?_) | (refine Hyp.of ?_; intro hc; (try simp only [hc]); (try simp only [Bh] at hc)) | fail)); (all_goals clear hF)))
    exact Fin.tmp' rfl rfl
  · have hr : isNormP p = false := by unfold isNormP; rw [decide_eq_false hv]; rfl
    rw [decide_eq_false hv] at c2
    rw [hr]
    refine stCall [.sl 1 (encIs p.vec), .sl 1 (encIs (normP p).vec)] (he := c2) (k := ?_)
    (focus (have hF := True.intro; (repeat' (first | (with_reducible refine Nx.of ?_) | ((with_reducible apply toV); refine stV (k := ?_)) | ((with_reducible apply toG); refine stG (k := ?_)) | ((with_reducible apply toG0); refine stG0 (k := ?_)) | ((with_reducible apply toC); refine stC (k := ?_)) | ((with_reducible apply toO); refine stO (k := ?_)) | ((with_reducible apply toX); refine stX (k := ?_)) | (with_reducible refine Ny.of ?_ ?_) | (refine Hyp.of ?_; intro hc; (try simp only [hc]); (try simp only [Bh] at hc)) | fail)); (all_goals clear hF)))
    exact Fin.tmp' rfl rfl
end Go.Proofs.Ytdmfjkhbodbgoaa.Avm

namespace Go.Proofs.Ytdmfjkhbodbgoaa.Avm
open Go.Proofs
def r_spanMeet_1 : List SOp :=
  [⟨(some 4), (.assign (.const (.slice none 0 0))), none⟩]
instance : Live r_spanMeet_1 := ⟨[0, 1]⟩
def r_spanMeet_2 : List SOp :=
  [⟨(some 11), (.move (.tmp 0)), none⟩, ⟨(some 12), (.call ⟨.value (.func 92), #[.tmp 11], #[58]⟩), none⟩, ⟨(some 13), (.move (.tmp 1)), none⟩, ⟨(some 14), (.call ⟨.value (.func 92), #[.tmp 13], #[58]⟩), none⟩, ⟨(some 5), (.assign (.tmp 12)), none⟩, ⟨(some 6), (.assign (.tmp 14)), none⟩]
instance : Live r_spanMeet_2 := ⟨[0, 1]⟩
def r_spanMeet_3 : List SOp :=
  [⟨(some 7), (.assign (.const (.slice none 0 0))), none⟩]
instance : Live r_spanMeet_3 := ⟨[5, 6]⟩
def r_spanMeet_4 : List SOp :=
  [⟨(some 8), (.assign (.const (.int .i64 0))), none⟩, ⟨(some 9), (.assign (.const (.int .i64 0))), none⟩]
instance : Live r_spanMeet_4 := ⟨[5, 6, 7]⟩
def r_spanMeet_5 : List SOp :=
  [⟨(some 15), (.move (.tmp 8)), none⟩, ⟨(some 16), (.move (.tmp 5)), none⟩, ⟨(some 17), (.call ⟨.builtin .len, #[.tmp 16], #[58]⟩), none⟩, ⟨(some 18), (.binOp .lss 3 (.tmp 15) (.tmp 17) 3), none⟩, ⟨(some 19), (.move (.tmp 18)), none⟩, ⟨(some 20), (.move (.tmp 9)), (some ((some 19), true))⟩, ⟨(some 21), (.move (.tmp 6)), (some ((some 19), true))⟩, ⟨(some 22), (.call ⟨.builtin .len, #[.tmp 21], #[58]⟩), (some ((some 19), true))⟩, ⟨(some 23), (.binOp .lss 3 (.tmp 20) (.tmp 22) 3), (some ((some 19), true))⟩, ⟨(some 24), (.pick (.tmp 19) (.tmp 23) (.const (.bool false))), none⟩]
instance : Live r_spanMeet_5 := ⟨[5, 6, 7, 8, 9]⟩
def r_spanMeet_6 : List SOp :=
  [⟨(some 25), (.move (.tmp 5)), none⟩, ⟨(some 26), (.move (.tmp 8)), none⟩, ⟨(some 27), (.indexAddr 58 (.tmp 25) (.tmp 26)), none⟩, ⟨(some 28), (.fieldAddr 73 (.tmp 27) 0), none⟩, ⟨(some 29), (.load 3 (.tmp 28)), none⟩, ⟨(some 30), (.move (.tmp 6)), none⟩, ⟨(some 31), (.move (.tmp 9)), none⟩, ⟨(some 32), (.indexAddr 58 (.tmp 30) (.tmp 31)), none⟩, ⟨(some 33), (.fieldAddr 73 (.tmp 32) 0), none⟩, ⟨(some 34), (.load 3 (.tmp 33)), none⟩, ⟨(some 35), (.call ⟨.builtin .max, #[.tmp 29, .tmp 34], #[3, 3]⟩), none⟩, ⟨(some 36), (.move (.tmp 5)), none⟩, ⟨(some 37), (.move (.tmp 8)), none⟩, ⟨(some 38), (.indexAddr 58 (.tmp 36) (.tmp 37)), none⟩, ⟨(some 39), (.fieldAddr 73 (.tmp 38) 1), none⟩, ⟨(some 40), (.load 3 (.tmp 39)), none⟩, ⟨(some 41), (.move (.tmp 6)), none⟩, ⟨(some 42), (.move (.tmp 9)), none⟩, ⟨(some 43), (.indexAddr 58 (.tmp 41) (.tmp 42)), none⟩, ⟨(some 44), (.fieldAddr 73 (.tmp 43) 1), none⟩, ⟨(some 45), (.load 3 (.tmp 44)), none⟩, ⟨(some 46), (.call ⟨.builtin .min, #[.tmp 40, .tmp 45], #[3, 3]⟩), none⟩, ⟨(some 47), (.build 73 #[(0, .tmp 35), (1, .tmp 46)]), none⟩, ⟨(some 10), (.alloc 73), none⟩, ⟨none, (.store 73 (.tmp 10) (.tmp 47)), none⟩]
instance : Live r_spanMeet_6 := ⟨[5, 6, 7, 8, 9]⟩
def r_spanMeet_7 : List SOp :=
  [⟨(some 48), (.fieldAddr 73 (.tmp 10) 0), none⟩, ⟨(some 49), (.load 3 (.tmp 48)), none⟩, ⟨(some 50), (.fieldAddr 73 (.tmp 10) 1), none⟩, ⟨(some 51), (.load 3 (.tmp 50)), none⟩, ⟨(some 52), (.binOp .leq 3 (.tmp 49) (.tmp 51) 3), none⟩]
instance : Live r_spanMeet_7 := ⟨[5, 6, 7, 8, 9, 10]⟩
def r_spanMeet_8 : List SOp :=
  [⟨(some 53), (.move (.tmp 7)), none⟩, ⟨(some 54), (.load 73 (.tmp 10)), none⟩, ⟨(some 55), (.buildSlice 58 1 #[(0, .tmp 54)]), none⟩, ⟨(some 56), (.call ⟨.builtin .append, #[.tmp 53, .tmp 55], #[58, 58]⟩), none⟩, ⟨(some 7), (.assign (.tmp 56)), none⟩]
instance : Live r_spanMeet_8 := ⟨[5, 6, 7, 8, 9, 10]⟩
def r_spanMeet_9 : List SOp :=
  [⟨(some 57), (.move (.tmp 5)), none⟩, ⟨(some 58), (.move (.tmp 8)), none⟩, ⟨(some 59), (.indexAddr 58 (.tmp 57) (.tmp 58)), none⟩, ⟨(some 60), (.fieldAddr 73 (.tmp 59) 1), none⟩, ⟨(some 61), (.load 3 (.tmp 60)), none⟩, ⟨(some 62), (.move (.tmp 6)), none⟩, ⟨(some 63), (.move (.tmp 9)), none⟩, ⟨(some 64), (.indexAddr 58 (.tmp 62) (.tmp 63)), none⟩, ⟨(some 65), (.fieldAddr 73 (.tmp 64) 1), none⟩, ⟨(some 66), (.load 3 (.tmp 65)), none⟩, ⟨(some 67), (.binOp .lss 3 (.tmp 61) (.tmp 66) 3), none⟩]
instance : Live r_spanMeet_9 := ⟨[5, 6, 7, 8, 9]⟩
def r_spanMeet_10 : List SOp :=
  [⟨(some 68), (.move (.tmp 8)), none⟩, ⟨(some 69), (.binOp .add 3 (.tmp 68) (.const (.int .i64 1)) 3), none⟩, ⟨(some 8), (.assign (.tmp 69)), none⟩]
instance : Live r_spanMeet_10 := ⟨[5, 6, 7, 8, 9]⟩
def r_spanMeet_11 : List SOp :=
  [⟨(some 70), (.move (.tmp 9)), none⟩, ⟨(some 71), (.binOp .add 3 (.tmp 70) (.const (.int .i64 1)) 3), none⟩, ⟨(some 9), (.assign (.tmp 71)), none⟩]
instance : Live r_spanMeet_11 := ⟨[5, 6, 7, 8, 9]⟩
def r_spanMeet_12 : List SOp :=
  [⟨(some 72), (.move (.tmp 7)), none⟩, ⟨(some 4), (.assign (.tmp 72)), none⟩]
instance : Live r_spanMeet_12 := ⟨[7]⟩
def t_spanMeet_l1 : SC :=
  (.seq (.seq (.ops false r_spanMeet_5) (.cond (.tmp 24) .skip (.exit 0))) (.block 1 (.seq (.ops true r_spanMeet_6) (.seq (.seq (.ops false r_spanMeet_7) (.cond (.tmp 52) (.ops false r_spanMeet_8) .skip)) (.seq (.ops true r_spanMeet_9) (.cond (.tmp 67) (.ops false r_spanMeet_10) (.ops false r_spanMeet_11)))))))
def t_spanMeet : SC :=
  (.seq (.ops false r_spanMeet_1) (.seq (.ops false r_spanMeet_2) (.seq (.ops false r_spanMeet_3) (.seq (.seq (.ops false r_spanMeet_4) (.block 0 (.loop t_spanMeet_l1))) (.seq (.ops false r_spanMeet_12) .ret)))))
theorem it_spanMeet : FnIs Try.prog 57 73 [.tmp 4] t_spanMeet := ⟨Try.f57, _, Try.func57, rfl, rfl, rfl, rfl, by kernel_rfl⟩
end Go.Proofs.Ytdmfjkhbodbgoaa.Avm

namespace Go.Proofs.Ytdmfjkhbodbgoaa.Avm
open Go.Proofs
def r_spanothers_1 : List SOp :=
  [⟨(some 2), (.assign (.const (.slice none 0 0))), none⟩]
instance : Live r_spanothers_1 := ⟨[0]⟩
def r_spanothers_2 : List SOp :=
  [⟨(some 3), (.assign (.const (.slice none 0 0))), none⟩]
instance : Live r_spanothers_2 := ⟨[0]⟩
def r_spanothers_3 : List SOp :=
  [⟨(some 4), (.assign (.const (.int .i64 1))), none⟩]
instance : Live r_spanothers_3 := ⟨[0, 3]⟩
def r_spanothers_4 : List SOp :=
  [⟨(some 7), (.move (.tmp 0)), none⟩, ⟨(some 8), (.call ⟨.builtin .len, #[.tmp 7], #[58]⟩), none⟩, ⟨(some 9), (.move (.const (.int .i64 0))), none⟩]
instance : Live r_spanothers_4 := ⟨[0, 3, 4]⟩
def r_spanothers_5 : List SOp :=
  [⟨(some 10), (.binOp .lss 3 (.tmp 9) (.tmp 8) 3), none⟩]
instance : Live r_spanothers_5 := ⟨[3, 4, 7, 8, 9]⟩
def r_spanothers_6 : List SOp :=
  [⟨(some 11), (.indexAddr 58 (.tmp 7) (.tmp 9)), none⟩, ⟨(some 12), (.load 73 (.tmp 11)), none⟩, ⟨(some 6), (.alloc 73), none⟩, ⟨none, (.store 73 (.tmp 6) (.tmp 12)), none⟩]
instance : Live r_spanothers_6 := ⟨[3, 4, 7, 8, 9]⟩
def r_spanothers_7 : List SOp :=
  [⟨(some 13), (.move (.tmp 4)), none⟩, ⟨(some 14), (.fieldAddr 73 (.tmp 6) 0), none⟩, ⟨(some 15), (.load 3 (.tmp 14)), none⟩, ⟨(some 16), (.binOp .lss 3 (.tmp 13) (.tmp 15) 3), none⟩]
instance : Live r_spanothers_7 := ⟨[3, 4, 6, 7, 8, 9]⟩
def r_spanothers_8 : List SOp :=
  [⟨(some 17), (.move (.tmp 3)), none⟩, ⟨(some 18), (.move (.tmp 4)), none⟩, ⟨(some 19), (.fieldAddr 73 (.tmp 6) 0), none⟩, ⟨(some 20), (.load 3 (.tmp 19)), none⟩, ⟨(some 21), (.binOp .sub 3 (.tmp 20) (.const (.int .i64 1)) 3), none⟩, ⟨(some 22), (.build 73 #[(0, .tmp 18), (1, .tmp 21)]), none⟩, ⟨(some 23), (.buildSlice 58 1 #[(0, .tmp 22)]), none⟩, ⟨(some 24), (.call ⟨.builtin .append, #[.tmp 17, .tmp 23], #[58, 58]⟩), none⟩, ⟨(some 3), (.assign (.tmp 24)), none⟩]
instance : Live r_spanothers_8 := ⟨[3, 4, 6, 7, 8, 9]⟩
def r_spanothers_9 : List SOp :=
  [⟨(some 25), (.fieldAddr 73 (.tmp 6) 1), none⟩, ⟨(some 26), (.load 3 (.tmp 25)), none⟩, ⟨(some 27), (.binOp .add 3 (.tmp 26) (.const (.int .i64 1)) 3), none⟩, ⟨(some 4), (.assign (.tmp 27)), none⟩]
instance : Live r_spanothers_9 := ⟨[3, 6, 7, 8, 9]⟩
def r_spanothers_10 : List SOp :=
  [⟨(some 28), (.binOp .add 3 (.tmp 9) (.const (.int .i64 1)) 3), none⟩, ⟨(some 9), (.move (.tmp 28)), none⟩]
instance : Live r_spanothers_10 := ⟨[3, 4, 7, 8, 9]⟩
def r_spanothers_11 : List SOp :=
  [⟨(some 29), (.move (.tmp 4)), none⟩, ⟨(some 30), (.binOp .leq 3 (.tmp 29) (.const (.int .i64 1000000000)) 3), none⟩]
instance : Live r_spanothers_11 := ⟨[3, 4]⟩
def r_spanothers_12 : List SOp :=
  [⟨(some 31), (.move (.tmp 3)), none⟩, ⟨(some 32), (.move (.tmp 4)), none⟩, ⟨(some 33), (.build 73 #[(0, .tmp 32), (1, .const (.int .i64 1000000000))]), none⟩, ⟨(some 34), (.buildSlice 58 1 #[(0, .tmp 33)]), none⟩, ⟨(some 35), (.call ⟨.builtin .append, #[.tmp 31, .tmp 34], #[58, 58]⟩), none⟩, ⟨(some 3), (.assign (.tmp 35)), none⟩]
instance : Live r_spanothers_12 := ⟨[3, 4]⟩
def r_spanothers_13 : List SOp :=
  [⟨(some 36), (.move (.tmp 3)), none⟩, ⟨(some 2), (.assign (.tmp 36)), none⟩]
instance : Live r_spanothers_13 := ⟨[3]⟩
def t_spanothers_l1 : SC :=
  (.seq (.ops false r_spanothers_5) (.seq (.cond (.tmp 10) .skip (.exit 0)) (.seq (.block 1 (.seq (.ops false r_spanothers_6) (.seq (.seq (.ops false r_spanothers_7) (.cond (.tmp 16) (.ops false r_spanothers_8) .skip)) (.ops false r_spanothers_9)))) (.ops false r_spanothers_10))))
def t_spanothers : SC :=
  (.seq (.ops false r_spanothers_1) (.seq (.ops false r_spanothers_2) (.seq (.ops false r_spanothers_3) (.seq (.seq (.ops false r_spanothers_4) (.block 0 (.loop t_spanothers_l1))) (.seq (.seq (.ops false r_spanothers_11) (.cond (.tmp 30) (.ops false r_spanothers_12) .skip)) (.seq (.ops false r_spanothers_13) .ret))))))
theorem it_spanothers : FnIs Try.prog 93 37 [.tmp 2] t_spanothers := ⟨Try.f93, _, Try.func93, rfl, rfl, rfl, rfl, by kernel_rfl⟩
end Go.Proofs.Ytdmfjkhbodbgoaa.Avm

namespace Go.Proofs.Ytdmfjkhbodbgoaa.Avm
open Go.Proofs
def r_spanMinus_1 : List SOp :=
  [⟨(some 4), (.assign (.const (.slice none 0 0))), none⟩]
instance : Live r_spanMinus_1 := ⟨[0, 1]⟩
def r_spanMinus_2 : List SOp :=
  [⟨(some 5), (.move (.tmp 0)), none⟩, ⟨(some 6), (.move (.tmp 1)), none⟩, ⟨(some 7), (.call ⟨.value (.func 92), #[.tmp 6], #[58]⟩), none⟩, ⟨(some 8), (.call ⟨.value (.func 93), #[.tmp 7], #[58]⟩), none⟩, ⟨(some 9), (.call ⟨.value (.func 57), #[.tmp 5, .tmp 8], #[58, 58]⟩), none⟩, ⟨(some 4), (.assign (.tmp 9)), none⟩]
instance : Live r_spanMinus_2 := ⟨[0, 1]⟩
def t_spanMinus : SC :=
  (.seq (.ops false r_spanMinus_1) (.seq (.ops false r_spanMinus_2) .ret))
theorem it_spanMinus : FnIs Try.prog 58 10 [.tmp 4] t_spanMinus := ⟨Try.f58, _, Try.func58, rfl, rfl, rfl, rfl, by kernel_rfl⟩
end Go.Proofs.Ytdmfjkhbodbgoaa.Avm

namespace Go.Proofs.Ytdmfjkhbodbgoaa.Avm
open Go.Proofs
def r_spanWithin_1 : List SOp :=
  [⟨(some 4), (.assign (.const (.bool false))), none⟩]
instance : Live r_spanWithin_1 := ⟨[0, 1]⟩
def r_spanWithin_2 : List SOp :=
  [⟨(some 5), (.move (.tmp 0)), none⟩, ⟨(some 6), (.move (.tmp 1)), none⟩, ⟨(some 7), (.call ⟨.value (.func 58), #[.tmp 5, .tmp 6], #[58, 58]⟩), none⟩, ⟨(some 8), (.call ⟨.builtin .len, #[.tmp 7], #[58]⟩), none⟩, ⟨(some 9), (.binOp .eql 3 (.tmp 8) (.const (.int .i64 0)) 3), none⟩, ⟨(some 4), (.assign (.tmp 9)), none⟩]
instance : Live r_spanWithin_2 := ⟨[0, 1]⟩
def t_spanWithin : SC :=
  (.seq (.ops false r_spanWithin_1) (.seq (.ops false r_spanWithin_2) .ret))
theorem it_spanWithin : FnIs Try.prog 59 10 [.tmp 4] t_spanWithin := ⟨Try.f59, _, Try.func59, rfl, rfl, rfl, rfl, by kernel_rfl⟩
end Go.Proofs.Ytdmfjkhbodbgoaa.Avm

namespace Go.Proofs.Ytdmfjkhbodbgoaa.Avm
open Go.Proofs
def bothR (x y : Rn) : Rn := (max x.1 y.1, min x.2 y.2)
def one0 (r : Rn) : List Rn := if r.1 ≤ r.2 then [r] else []
def meetR : List Rn → List Rn → List Rn
  | [], _ => []
  | _ :: _, [] => []
  | x :: l, y :: m => one0 (bothR x y) ++ if x.2 < y.2 then meetR l (y :: m) else meetR (x :: l) m
termination_by l m => l.length + m.length
theorem meetR_nil (l : List Rn) : meetR l [] = [] := by cases l <;> simp [meetR]
theorem meetR_cons (x y : Rn) (l m : List Rn) : meetR (x :: l) (y :: m) = one0 (bothR x y) ++ if x.2 < y.2 then meetR l (y :: m) else meetR (x :: l) m := by
  conv => lhs; unfold meetR
structure MtS where
  i : Nat
  j : Nat
  o : List Rn
theorem ev_spanMeet_of (a b x y : List Rn) (ha : Ev (En Try.prog rfl).P 92 [.sl 2 (encRs a)] (.ret (.sl 2 (encRs x)))) (hb : Ev (En Try.prog rfl).P 92 [.sl 2 (encRs b)] (.ret (.sl 2 (encRs y)))) (hx : x.length ≤ 400000000) (hy : y.length ≤ 400000000) :
    Ev (En Try.prog rfl).P 57 [.sl 2 (encRs a), .sl 2 (encRs b)] (.ret (.sl 2 (encRs (meetR x y)))) := by
  refine Ev.of_body it_spanMeet (by simp) (Run.start ?_)
  unfold t_spanMeet
  have e1 := encRs_len x
  have e2 := encRs_len y
  (focus (have hF := True.intro; (repeat' (first | (with_reducible refine Nx.of ?_) | ((with_reducible apply toV); refine stV (k := ?_)) | ((with_reducible apply toG); refine stG (k := ?_)) | ((with_reducible apply toG0); refine stG0 (k := ?_)) | ((with_reducible apply toC); refine stC (k := ?_)) | ((with_reducible apply toO); refine stO (k := ?_)) | ((with_reducible apply toX); refine stX (k := ?_)) | (with_reducible refine Ny.of ?_ ?_) | (refine Hyp.of ?_; intro hc; (try simp only [hc]); (try simp only [Bh] at hc)) | fail)); (all_goals clear hF)))
  refine stCall [.sl 2 (encRs a)] (he := ha) (k := ?_)
  (focus (have hF := True.intro; (repeat' (first | (with_reducible refine Nx.of ?_) | ((with_reducible apply toV); refine stV (k := ?_)) | ((with_reducible apply toG); refine stG (k := ?_)) | ((with_reducible apply toG0); refine stG0 (k := ?_)) | ((with_reducible apply toC); refine stC (k := ?_)) | ((with_reducible apply toO); refine stO (k := ?_)) | ((with_reducible apply toX); refine stX (k := ?_)) | (with_reducible refine Ny.of ?_ ?_) | (refine Hyp.of ?_; intro hc; (try simp only [hc]); (try simp only [Bh] at hc)) | fail)); (all_goals clear hF)))
  refine stCall [.sl 2 (encRs b)] (he := hb) (k := ?_)
  (focus (have hF := (And.intro @e1 @e2); (repeat' (first | (with_reducible refine Nx.of ?_) | ((with_reducible apply toV); refine stV (k := ?_)) | ((with_reducible apply toG); refine stG (k := ?_)) | ((with_reducible apply toG0); refine stG0 (k := ?_)) | ((with_reducible apply toC); refine stC (k := ?_)) | ((with_reducible apply toO); refine stO (k := ?_)) | ((with_reducible apply toX); refine stX (k := ?_)) | (with_reducible refine Ny.of ?_ ?_) | (refine Hyp.of ?_; intro hc; (try simp only [hc]); (try simp only [Bh] at hc)) | fail)); (all_goals clear hF)))
  refine Run.wk (Wk.own_nil 7 56 2 rfl rfl) ?_
  refine Run.while (σ := MtS) (fun z => ⟨tms [(5, .sl 2 (encRs x)), (6, .sl 2 (encRs y)), (7, .os 56 z.o.length), (8, .int .i64 (z.i : Int)), (9, .int .i64 (z.j : Int))], mms [(56, .arr z.o.length 2 (encRs z.o))]⟩)
    (fun z => z.i ≤ x.length ∧ z.j ≤ y.length ∧ z.o.length ≤ z.i + z.j ∧ z.o ++ meetR (x.drop z.i) (y.drop z.j) = meetR x y) (fun z => (x.length - z.i) + (y.length - z.j)) ⟨0, 0, []⟩ (have hW := @encRs_stb; stWk) ⟨Nat.zero_le _, Nat.zero_le _, Nat.le_refl _, rfl⟩ ?_
  rintro ⟨i, j, o⟩ ⟨hi, hj, ho, hp⟩
  dsimp only at hi hj ho hp ⊢
  have e3 := encRs_len o
  unfold t_spanMeet_l1
  by_cases hxi : i < x.length
  · by_cases hyj : j < y.length
    · obtain ⟨r, hr⟩ : ∃ r, x[i]? = some r := ⟨x[i], by simp [hxi]⟩
      obtain ⟨s, hs⟩ : ∃ s, y[j]? = some s := ⟨y[j], by simp [hyj]⟩
      have g1 := encRs_get hr
      have g2 := encRs_get hs
      obtain ⟨_, hxe⟩ := List.getElem?_eq_some_iff.1 hr
      obtain ⟨_, hye⟩ := List.getElem?_eq_some_iff.1 hs
      have hd := meetR_cons r s (x.drop (i + 1)) (y.drop (j + 1))
      rw [← hxe, ← hye, ← List.drop_eq_getElem_cons hxi, ← List.drop_eq_getElem_cons hyj, hxe, hye] at hd
      unfold encR at g1 g2
      (focus (have hF := (And.intro (And.intro @e1 (And.intro @e2 @e3)) (And.intro @g1 (And.intro @g2 @encRs_snoc))); (repeat' (first | (with_reducible refine Nx.of ?_) | ((with_reducible apply toV); refine stV (k := ?_)) | ((with_reducible apply toG); refine stG (k := ?_)) | ((with_reducible apply toG0); refine stG0 (k := ?_)) | ((with_reducible apply toC); refine stC (k := ?_)) | ((with_reducible apply toO); refine stO (k := ?_)) | ((with_reducible apply toX); refine stX (k := ?_)) | (with_reducible refine Ny.of ?_ ?_) | (refine Hyp.of ?_; intro hc; (try simp only [hc]); (try simp only [Bh] at hc)) | fail)); (all_goals clear hF)))
      · rename_i hc1
        rw [show one0 (bothR r s) = [(max r.1 s.1, min r.2 s.2)] from if_pos hc1, if_pos hc] at hd
        rw [hd, ← List.append_assoc] at hp
        have hl : (o ++ [(max r.1 s.1, min r.2 s.2)]).length = o.length + 1 := by simp
        (refine Fin.nextW (⟨i + 1, j, o ++ [(max r.1 s.1, min r.2 s.2)]⟩) ?_ (have hW := (And.intro @encRs_stb @hl); stWk); (try dsimp only))
        exact ⟨⟨by omega, by omega, by rw [hl]; omega, hp⟩, by omega⟩
      · rename_i hc1
        rw [show one0 (bothR r s) = [(max r.1 s.1, min r.2 s.2)] from if_pos hc1, if_neg hc] at hd
        rw [hd, ← List.append_assoc] at hp
        have hl : (o ++ [(max r.1 s.1, min r.2 s.2)]).length = o.length + 1 := by simp
        (refine Fin.nextW (⟨i, j + 1, o ++ [(max r.1 s.1, min r.2 s.2)]⟩) ?_ (have hW := (And.intro @encRs_stb @hl); stWk); (try dsimp only))
        exact ⟨⟨by omega, by omega, by rw [hl]; omega, hp⟩, by omega⟩
      · rename_i hc1
        rw [show one0 (bothR r s) = [] from if_neg hc1, if_pos hc] at hd
        rw [hd, List.nil_append] at hp
        (refine Fin.nextW (⟨i + 1, j, o⟩) ?_ (have hW := @encRs_stb; stWk); (try dsimp only))
        exact ⟨⟨by omega, by omega, by omega, hp⟩, by omega⟩
      · rename_i hc1
        rw [show one0 (bothR r s) = [] from if_neg hc1, if_neg hc] at hd
        rw [hd, List.nil_append] at hp
        (refine Fin.nextW (⟨i, j + 1, o⟩) ?_ (have hW := @encRs_stb; stWk); (try dsimp only))
        exact ⟨⟨by omega, by omega, by omega, hp⟩, by omega⟩
    · rw [List.drop_eq_nil_of_le (show y.length ≤ j by omega), meetR_nil, List.append_nil] at hp
      rw [← hp]
      (focus (have hF := (And.intro @e1 (And.intro @e2 @e3)); (repeat' (first | (with_reducible refine Nx.of ?_) | ((with_reducible apply toV); refine stV (k := ?_)) | ((with_reducible apply toG); refine stG (k := ?_)) | ((with_reducible apply toG0); refine stG0 (k := ?_)) | ((with_reducible apply toC); refine stC (k := ?_)) | ((with_reducible apply toO); refine stO (k := ?_)) | ((with_reducible apply toX); refine stX (k := ?_)) | (with_reducible refine Ny.of ?_ ?_) | (refine Hyp.of ?_; intro hc; (try simp only [hc]); (try simp only [Bh] at hc)) | fail)); (all_goals clear hF)))
      exact stRet (.sl 2 (encRs o))
  · rw [List.drop_eq_nil_of_le (show x.length ≤ i by omega), show meetR [] (y.drop j) = [] by unfold meetR; rfl, List.append_nil] at hp
    rw [← hp]
    (focus (have hF := (And.intro @e1 (And.intro @e2 @e3)); (repeat' (first | (with_reducible refine Nx.of ?_) | ((with_reducible apply toV); refine stV (k := ?_)) | ((with_reducible apply toG); refine stG (k := ?_)) | ((with_reducible apply toG0); refine stG0 (k := ?_)) | ((with_reducible apply toC); refine stC (k := ?_)) | ((with_reducible apply toO); refine stO (k := ?_)) | ((with_reducible apply toX); refine stX (k := ?_)) | (with_reducible refine Ny.of ?_ ?_) | (refine Hyp.of ?_; intro hc; (try simp only [hc]); (try simp only [Bh] at hc)) | fail)); (all_goals clear hF)))
    exact stRet (.sl 2 (encRs o))
def othersFrom : Int → List Rn → List Rn
  | k, [] => one0 (k, 1000000000)
  | k, r :: l => (if k < r.1 then [(k, r.1 - 1)] else []) ++ othersFrom (r.2 + 1) l
def othersR (l : List Rn) : List Rn := othersFrom 1 l
structure OtS where
  i : Nat
  k : Int
  o : List Rn
theorem ev_spanothers (l : List Rn) (hl : l.length ≤ 400000000) (hb : ∀ r ∈ l, 1 ≤ r.1 ∧ r.1 ≤ 1000000000 ∧ 1 ≤ r.2 ∧ r.2 ≤ 1000000000) : Ev (En Try.prog rfl).P 93 [.sl 2 (encRs l)] (.ret (.sl 2 (encRs (othersR l)))) := by
  refine Ev.of_body it_spanothers (by simp) (Run.start ?_)
  unfold t_spanothers
  have e1 := encRs_len l
  (focus (have hF := @e1; (repeat' (first | (with_reducible refine Nx.of ?_) | ((with_reducible apply toV); refine stV (k := ?_)) | ((with_reducible apply toG); refine stG (k := ?_)) | ((with_reducible apply toG0); refine stG0 (k := ?_)) | ((with_reducible apply toC); refine stC (k := ?_)) | ((with_reducible apply toO); refine stO (k := ?_)) | ((with_reducible apply toX); refine stX (k := ?_)) | (with_reducible refine Ny.of ?_ ?_) | (refine Hyp.of ?_; intro hc; (try simp only [hc]); (try simp only [Bh] at hc)) | fail)); (all_goals clear hF)))
  refine Run.wk (Wk.own_nil 3 24 2 rfl rfl) ?_
  refine Run.while (σ := OtS) (fun z => ⟨tms [(3, .os 24 z.o.length), (4, .int .i64 z.k), (7, .sl 2 (encRs l)), (8, .int .i64 (l.length : Int)), (9, .int .i64 (z.i : Int))], mms [(24, .arr z.o.length 2 (encRs z.o))]⟩)
    (fun z => z.i ≤ l.length ∧ z.o.length ≤ z.i ∧ 1 ≤ z.k ∧ z.k ≤ 1000000001 ∧ z.o ++ othersFrom z.k (l.drop z.i) = othersR l) (fun z => l.length - z.i) ⟨0, 1, []⟩ (have hW := @encRs_stb; stWk) ⟨Nat.zero_le _, Nat.le_refl _, by decide, by decide, rfl⟩ ?_
  rintro ⟨i, k, o⟩ ⟨hi, ho, hk1, hk2, hp⟩
  dsimp only at hi ho hp hk1 hk2 ⊢
  have e3 := encRs_len o
  unfold t_spanothers_l1
  by_cases hlt : i < l.length
  · obtain ⟨r, hr⟩ : ∃ r, l[i]? = some r := ⟨l[i], by simp [hlt]⟩
    have g1 := encRs_get hr
    have hbr := hb r (List.mem_of_getElem? hr)
    obtain ⟨_, hre⟩ := List.getElem?_eq_some_iff.1 hr
    rw [List.drop_eq_getElem_cons hlt, hre] at hp
    change o ++ ((if k < r.1 then [(k, r.1 - 1)] else []) ++ othersFrom (r.2 + 1) (l.drop (i + 1))) = _ at hp
    unfold encR at g1
    (focus (have hF := (And.intro (And.intro @e1 @e3) (And.intro @g1 @encRs_snoc)); (repeat' (first | (with_reducible refine Nx.of ?_) | ((with_reducible apply toV); refine stV (k := ?_)) | ((with_reducible apply toG); refine stG (k := ?_)) | ((with_reducible apply toG0); refine stG0 (k := ?_)) | ((with_reducible apply toC); refine stC (k := ?_)) | ((with_reducible apply toO); refine stO (k := ?_)) | ((with_reducible apply toX); refine stX (k := ?_)) | (with_reducible refine Ny.of ?_ ?_) | (refine Hyp.of ?_; intro hc; (try simp only [hc]); (try simp only [Bh] at hc)) | fail)); (all_goals clear hF)))
    · rw [if_pos hc, ← List.append_assoc] at hp
      have hl : (o ++ [(k, r.1 - 1)]).length = o.length + 1 := by simp
      (refine Fin.nextW (⟨i + 1, r.2 + 1, o ++ [(k, r.1 - 1)]⟩) ?_ (have hW := (And.intro @encRs_stb @hl); stWk); (try dsimp only))
      exact ⟨⟨by omega, by rw [hl]; omega, by omega, by omega, hp⟩, by omega⟩
    · rw [if_neg hc, List.nil_append] at hp
      (refine Fin.nextW (⟨i + 1, r.2 + 1, o⟩) ?_ (have hW := @encRs_stb; stWk); (try dsimp only))
      exact ⟨⟨by omega, by omega, by omega, by omega, hp⟩, by omega⟩
  · rw [List.drop_eq_nil_of_le (show l.length ≤ i by omega)] at hp
    change o ++ one0 (k, 1000000000) = _ at hp
    (focus (have hF := (And.intro @e1 (And.intro @e3 @encRs_snoc)); (repeat' (first | (with_reducible refine Nx.of ?_) | ((with_reducible apply toV); refine stV (k := ?_)) | ((with_reducible apply toG); refine stG (k := ?_)) | ((with_reducible apply toG0); refine stG0 (k := ?_)) | ((with_reducible apply toC); refine stC (k := ?_)) | ((with_reducible apply toO); refine stO (k := ?_)) | ((with_reducible apply toX); refine stX (k := ?_)) | (with_reducible refine Ny.of ?_ ?_) | (refine Hyp.of ?_; intro hc; (try simp only [hc]); (try simp only [Bh] at hc)) | fail)); (all_goals clear hF)))
    · rw [show one0 (k, 1000000000) = [(k, 1000000000)] from if_pos hc] at hp
      rw [← hp]
      exact stRet (.sl 2 (encRs (o ++ [(k, 1000000000)])))
    · rw [show one0 (k, 1000000000) = [] from if_neg hc, List.append_nil] at hp
      rw [← hp]
      exact stRet (.sl 2 (encRs o))
theorem ev_spanMinus_of (a b x y : List Rn) (hb : Ev (En Try.prog rfl).P 92 [.sl 2 (encRs b)] (.ret (.sl 2 (encRs y)))) (ho : Ev (En Try.prog rfl).P 93 [.sl 2 (encRs y)] (.ret (.sl 2 (encRs (othersR y)))))
    (hm : Ev (En Try.prog rfl).P 57 [.sl 2 (encRs a), .sl 2 (encRs (othersR y))] (.ret (.sl 2 (encRs x)))) : Ev (En Try.prog rfl).P 58 [.sl 2 (encRs a), .sl 2 (encRs b)] (.ret (.sl 2 (encRs x))) := by
  refine Ev.of_body it_spanMinus (by simp) (Run.start ?_)
  unfold t_spanMinus
  (focus (have hF := True.intro; (repeat' (first | (with_reducible refine Nx.of ?_) | ((with_reducible apply toV); refine stV (k := ?_)) | ((with_reducible apply toG); refine stG (k := ?_)) | ((with_reducible apply toG0); refine stG0 (k := ?_)) | ((with_reducible apply toC); refine stC (k := ?_)) | ((with_reducible apply toO); refine stO (k := ?_)) | ((with_reducible apply toX); refine stX (k := ?_)) | (with_reducible refine Ny.of ?_ ?_) | (refine Hyp.of ?_; intro hc; (try simp only [hc]); (try simp only [Bh] at hc)) | fail)); (all_goals clear hF)))
  refine stCall [.sl 2 (encRs b)] (he := hb) (k := ?_)
  (focus (have hF := True.intro; (repeat' (first | (with_reducible refine Nx.of ?_) | ((with_reducible apply toV); refine stV (k := ?_)) | ((with_reducible apply toG); refine stG (k := ?_)) | ((with_reducible apply toG0); refine stG0 (k := ?_)) | ((with_reducible apply toC); refine stC (k := ?_)) | ((with_reducible apply toO); refine stO (k := ?_)) | ((with_reducible apply toX); refine stX (k := ?_)) | (with_reducible refine Ny.of ?_ ?_) | (refine Hyp.of ?_; intro hc; (try simp only [hc]); (try simp only [Bh] at hc)) | fail)); (all_goals clear hF)))
  refine stCall [.sl 2 (encRs y)] (he := ho) (k := ?_)
  (focus (have hF := True.intro; (repeat' (first | (with_reducible refine Nx.of ?_) | ((with_reducible apply toV); refine stV (k := ?_)) | ((with_reducible apply toG); refine stG (k := ?_)) | ((with_reducible apply toG0); refine stG0 (k := ?_)) | ((with_reducible apply toC); refine stC (k := ?_)) | ((with_reducible apply toO); refine stO (k := ?_)) | ((with_reducible apply toX); refine stX (k := ?_)) | (with_reducible refine Ny.of ?_ ?_) | (refine Hyp.of ?_; intro hc; (try simp only [hc]); (try simp only [Bh] at hc)) | fail)); (all_goals clear hF)))
  refine stCall [.sl 2 (encRs a), .sl 2 (encRs (othersR y))] (he := hm) (k := ?_)
  (focus (have hF := True.intro; (repeat' (first | (with_reducible refine Nx.of ?_) | ((with_reducible apply toV); refine stV (k := ?_)) | ((with_reducible apply toG); refine stG (k := ?_)) | ((with_reducible apply toG0); refine stG0 (k := ?_)) | ((with_reducible apply toC); refine stC (k := ?_)) | ((with_reducible apply toO); refine stO (k := ?_)) | ((with_reducible apply toX); refine stX (k := ?_)) | (with_reducible refine Ny.of ?_ ?_) | (refine Hyp.of ?_; intro hc; (try simp only [hc]); (try simp only [Bh] at hc)) | fail)); (all_goals clear hF)))
  exact stRet (.sl 2 (encRs x))
theorem ev_spanWithin_of (a b x : List Rn) (hx : x.length ≤ 1000000000) (hm : Ev (En Try.prog rfl).P 58 [.sl 2 (encRs a), .sl 2 (encRs b)] (.ret (.sl 2 (encRs x)))) : Ev (En Try.prog rfl).P 59 [.sl 2 (encRs a), .sl 2 (encRs b)] (.ret (.bool (decide (x = [])))) := by
  refine Ev.of_body it_spanWithin (by simp) (Run.start ?_)
  unfold t_spanWithin
  have e1 := encRs_len x
  (focus (have hF := @e1; (repeat' (first | (with_reducible refine Nx.of ?_) | ((with_reducible apply toV); refine stV (k := ?_)) | ((with_reducible apply toG); refine stG (k := ?_)) | ((with_reducible apply toG0); refine stG0 (k := ?_)) | ((with_reducible apply toC); refine stC (k := ?_)) | ((with_reducible apply toO); refine stO (k := ?_)) | ((with_reducible apply toX); refine stX (k := ?_)) | (with_reducible refine Ny.of ?_ ?_) | (refine Hyp.of ?_; intro hc; (try simp only [hc]); (try simp only [Bh] at hc)) | fail)); (all_goals clear hF)))
  refine stCall [.sl 2 (encRs a), .sl 2 (encRs b)] (he := hm) (k := ?_)
  (focus (have hF := @e1; (repeat' (first | (with_reducible refine Nx.of ?_) | ((with_reducible apply toV); refine stV (k := ?_)) | ((with_reducible apply toG); refine stG (k := ?_)) | ((with_reducible apply toG0); refine stG0 (k := ?_)) | ((with_reducible apply toC); refine stC (k := ?_)) | ((with_reducible apply toO); refine stO (k := ?_)) | ((with_reducible apply toX); refine stX (k := ?_)) | (with_reducible refine Ny.of ?_ ?_) | (refine Hyp.of ?_; intro hc; (try simp only [hc]); (try simp only [Bh] at hc)) | fail)); (all_goals clear hF)))
  have hd : decide (x = []) = decide ((x.length : Int) = 0) := by
    rw [decide_eq_decide]
    constructor
    · intro h; rw [h]; rfl
    · intro h; exact List.eq_nil_of_length_eq_zero (by omega)
  rw [hd]
  exact Fin.tmp' rfl rfl
end Go.Proofs.Ytdmfjkhbodbgoaa.Avm

namespace Go.Proofs.Ytdmfjkhbodbgoaa.Avm
theorem inR_one0 (x : Rn) (n : Int) : inR (one0 x) n ↔ x.1 ≤ n ∧ n ≤ x.2 := by
  unfold one0
  by_cases h : x.1 ≤ x.2
  · rw [if_pos h]; exact inR_one x n
  · rw [if_neg h]
    constructor
    · intro hh; exact absurd hh (inR_nil n)
    · intro hh; omega
theorem meetR_in : ∀ {l m : List Rn}, Can l → Can m → ∀ n, inR (meetR l m) n ↔ inR l n ∧ inR m n
  | [], m, _, _, n => by
    unfold meetR
    constructor
    · intro h; exact absurd h (inR_nil n)
    · intro h; exact absurd h.1 (inR_nil n)
  | x :: l, [], _, _, n => by
    rw [meetR_nil]
    constructor
    · intro h; exact absurd h (inR_nil n)
    · intro h; exact absurd h.2 (inR_nil n)
  | x :: l, y :: m, hl, hm, n => by
    rw [meetR_cons, inR_append, inR_one0, inR_cons, inR_cons]
    have a := fun h => hl.above (n := n) h
    have b := fun h => hm.above (n := n) h
    unfold bothR
    by_cases h : x.2 < y.2
    · rw [if_pos h, meetR_in hl.tail hm n, inR_cons]
      constructor
      · rintro (h1 | ⟨h1, h2⟩)
        · exact ⟨.inl (by omega), .inl (by omega)⟩
        · exact ⟨.inr h1, h2⟩
      · rintro ⟨h1 | h1, h2⟩
        · rcases h2 with h2 | h2
          · exact .inl (by omega)
          · have := b h2; omega
        · exact .inr ⟨h1, h2⟩
    · rw [if_neg h, meetR_in hl hm.tail n, inR_cons]
      constructor
      · rintro (h1 | ⟨h1, h2⟩)
        · exact ⟨.inl (by omega), .inl (by omega)⟩
        · exact ⟨h1, .inr h2⟩
      · rintro ⟨h1, h2 | h2⟩
        · rcases h1 with h1 | h1
          · exact .inl (by omega)
          · have := a h1; omega
        · exact .inr ⟨h1, h2⟩
termination_by l m => l.length + m.length
theorem meetR_len : ∀ l m : List Rn, (meetR l m).length ≤ l.length + m.length
  | [], m => by unfold meetR; simp
  | x :: l, [] => by rw [meetR_nil]; simp
  | x :: l, y :: m => by
    rw [meetR_cons, List.length_append]
    have h0 : (one0 (bothR x y)).length ≤ 1 := by unfold one0; split <;> simp
    by_cases h : x.2 < y.2
    · rw [if_pos h]
      have := meetR_len l (y :: m)
      simp only [List.length_cons] at *
      omega
    · rw [if_neg h]
      have := meetR_len (x :: l) m
      simp only [List.length_cons] at *
      omega
termination_by l m => l.length + m.length
theorem othersFrom_in : ∀ {l : List Rn} (k : Int), Can l → 1 ≤ k → (∀ n, inR l n → k ≤ n) → ∀ n, inR (othersFrom k l) n ↔ k ≤ n ∧ n ≤ 1000000000 ∧ ¬ inR l n
  | [], k, _, hk, _, n => by
    unfold othersFrom
    rw [inR_one0]
    constructor
    · intro h; exact ⟨h.1, h.2, inR_nil n⟩
    · intro h; exact ⟨h.1, h.2.1⟩
  | r :: l, k, hl, hk, hb, n => by
    have hr := (Can.cons_iff.1 hl).1
    unfold okR at hr
    have hkr : k ≤ r.1 := hb r.1 ((inR_cons r l _).2 (.inl ⟨Int.le_refl _, hr.2.1⟩))
    have ih := othersFrom_in (l := l) (r.2 + 1) hl.tail (by omega) (fun n h => by have := hl.above h; omega) n
    show inR ((if k < r.1 then [(k, r.1 - 1)] else []) ++ othersFrom (r.2 + 1) l) n ↔ _
    rw [inR_append, ih, inR_cons]
    have a := fun h => hl.above (n := n) h
    by_cases h : k < r.1
    · rw [if_pos h, inR_one]
      constructor
      · rintro (h1 | ⟨h1, h2, h3⟩)
        · exact ⟨by omega, by omega, fun h4 => by
            rcases h4 with h4 | h4
            · omega
            · have := a h4; omega⟩
        · exact ⟨by omega, h2, fun h4 => by
            rcases h4 with h4 | h4
            · omega
            · exact h3 h4⟩
      · rintro ⟨h1, h2, h3⟩
        by_cases h4 : n < r.1
        · exact .inl (by omega)
        · refine .inr ⟨?_, h2, fun h5 => h3 (.inr h5)⟩
          have : ¬ (r.1 ≤ n ∧ n ≤ r.2) := fun h5 => h3 (.inl h5)
          omega
    · rw [if_neg h]
      constructor
      · rintro (h1 | ⟨h1, h2, h3⟩)
        · exact absurd h1 (inR_nil n)
        · exact ⟨by omega, h2, fun h4 => by
            rcases h4 with h4 | h4
            · omega
            · exact h3 h4⟩
      · rintro ⟨h1, h2, h3⟩
        refine .inr ⟨?_, h2, fun h5 => h3 (.inr h5)⟩
        have : ¬ (r.1 ≤ n ∧ n ≤ r.2) := fun h5 => h3 (.inl h5)
        omega
theorem othersFrom_len : ∀ (l : List Rn) (k : Int), (othersFrom k l).length ≤ l.length + 1
  | [], k => by unfold othersFrom one0; split <;> simp
  | r :: l, k => by
    have := othersFrom_len l (r.2 + 1)
    show ((if k < r.1 then [(k, r.1 - 1)] else []) ++ othersFrom (r.2 + 1) l).length ≤ _
    rw [List.length_append, List.length_cons]
    split <;> simp <;> omega
theorem othersR_in {l : List Rn} (h : Can l) (n : Int) : inR (othersR l) n ↔ 1 ≤ n ∧ n ≤ 1000000000 ∧ ¬ inR l n :=
  othersFrom_in 1 h (by omega) (fun n hn => (h.bound hn).1) n
def minusR (a b : List Rn) : List Rn := meetR (normR a) (normR (othersR (normR b)))
theorem minusR_in (a b : List Rn) (n : Int) : inR (minusR a b) n ↔ mem1 a n ∧ ¬ mem1 b n := by
  unfold minusR
  rw [meetR_in (normR_can _) (normR_can _), normR_in, normR_in]
  constructor
  · rintro ⟨h1, h2⟩
    refine ⟨h1, fun h3 => ?_⟩
    have := (othersR_in (normR_can b) n).1 h2.2.2
    exact this.2.2 ((normR_in b n).2 h3)
  · rintro ⟨h1, h2⟩
    refine ⟨h1, h1.1, h1.2.1, (othersR_in (normR_can b) n).2 ⟨h1.1, h1.2.1, fun h3 => h2 ((normR_in b n).1 h3)⟩⟩
end Go.Proofs.Ytdmfjkhbodbgoaa.Avm

namespace Go.Proofs.Ytdmfjkhbodbgoaa.Avm
open Go.Proofs
def r_pastWithin_1 : List SOp :=
  [⟨(some 2), (.box 25 (.tmp 0)), none⟩, ⟨(some 3), (.box 25 (.tmp 1)), none⟩, ⟨(some 4), (.assign (.const (.bool false))), none⟩]
instance : Live r_pastWithin_1 := ⟨[0, 1]⟩
def r_pastWithin_2 : List SOp :=
  [⟨(some 8), (.load 25 (.tmp 2)), none⟩, ⟨(some 9), (.buildSlice 51 1 #[(0, .tmp 8)]), none⟩, ⟨(some 10), (.call ⟨.value (.func 47), #[.tmp 9], #[51]⟩), none⟩, ⟨(some 11), (.load 25 (.tmp 3)), none⟩, ⟨(some 12), (.buildSlice 51 1 #[(0, .tmp 11)]), none⟩, ⟨(some 13), (.call ⟨.value (.func 47), #[.tmp 12], #[51]⟩), none⟩, ⟨(some 5), (.assign (.tmp 10)), none⟩, ⟨(some 6), (.assign (.tmp 13)), none⟩]
instance : Live r_pastWithin_2 := ⟨[2, 3]⟩
def r_pastWithin_3 : List SOp :=
  [⟨(some 14), (.move (.const (.int .i64 0))), none⟩]
instance : Live r_pastWithin_3 := ⟨[5, 6]⟩
def r_pastWithin_4 : List SOp :=
  [⟨(some 15), (.binOp .lss 3 (.tmp 14) (.const (.int .i64 16)) 3), none⟩]
instance : Live r_pastWithin_4 := ⟨[5, 6, 14]⟩
def r_pastWithin_5 : List SOp :=
  [⟨(some 16), (.move (.tmp 14)), none⟩, ⟨(some 7), (.assign (.tmp 16)), none⟩]
instance : Live r_pastWithin_5 := ⟨[5, 6, 14]⟩
def r_pastWithin_6 : List SOp :=
  [⟨(some 17), (.move (.tmp 5)), none⟩, ⟨(some 18), (.move (.tmp 7)), none⟩, ⟨(some 19), (.nilCheck (.tmp 17)), none⟩, ⟨(some 20), (.indexAddr 70 (.tmp 19) (.tmp 18)), none⟩, ⟨(some 21), (.load 58 (.tmp 20)), none⟩, ⟨(some 22), (.call ⟨.builtin .len, #[.tmp 21], #[58]⟩), none⟩, ⟨(some 23), (.binOp .gtr 3 (.tmp 22) (.const (.int .i64 0)) 3), none⟩, ⟨(some 24), (.move (.tmp 23)), none⟩, ⟨(some 25), (.move (.tmp 5)), (some ((some 24), true))⟩, ⟨(some 26), (.move (.tmp 7)), (some ((some 24), true))⟩, ⟨(some 27), (.nilCheck (.tmp 25)), (some ((some 24), true))⟩, ⟨(some 28), (.indexAddr 70 (.tmp 27) (.tmp 26)), (some ((some 24), true))⟩, ⟨(some 29), (.load 58 (.tmp 28)), (some ((some 24), true))⟩, ⟨(some 30), (.move (.tmp 6)), (some ((some 24), true))⟩, ⟨(some 31), (.move (.tmp 7)), (some ((some 24), true))⟩, ⟨(some 32), (.nilCheck (.tmp 30)), (some ((some 24), true))⟩, ⟨(some 33), (.indexAddr 70 (.tmp 32) (.tmp 31)), (some ((some 24), true))⟩, ⟨(some 34), (.load 58 (.tmp 33)), (some ((some 24), true))⟩, ⟨(some 35), (.call ⟨.value (.func 59), #[.tmp 29, .tmp 34], #[58, 58]⟩), (some ((some 24), true))⟩, ⟨(some 36), (.unOp .not 4 (.tmp 35)), (some ((some 24), true))⟩, ⟨(some 37), (.pick (.tmp 24) (.tmp 36) (.const (.bool false))), none⟩]
instance : Live r_pastWithin_6 := ⟨[5, 6, 7, 14]⟩
def r_pastWithin_7 : List SOp :=
  [⟨(some 4), (.assign (.const (.bool false))), none⟩]
instance : Live r_pastWithin_7 := ⟨[]⟩
def r_pastWithin_8 : List SOp :=
  [⟨(some 38), (.binOp .add 3 (.tmp 14) (.const (.int .i64 1)) 3), none⟩, ⟨(some 14), (.move (.tmp 38)), none⟩]
instance : Live r_pastWithin_8 := ⟨[5, 6, 14]⟩
def r_pastWithin_9 : List SOp :=
  [⟨(some 4), (.assign (.const (.bool true))), none⟩]
instance : Live r_pastWithin_9 := ⟨[]⟩
def t_pastWithin_l1 : SC :=
  (.seq (.ops false r_pastWithin_4) (.seq (.cond (.tmp 15) .skip (.exit 0)) (.seq (.block 1 (.seq (.ops false r_pastWithin_5) (.seq (.ops true r_pastWithin_6) (.cond (.tmp 37) (.seq (.ops false r_pastWithin_7) .ret) .skip)))) (.ops false r_pastWithin_8))))
def t_pastWithin : SC :=
  (.seq (.ops false r_pastWithin_1) (.seq (.ops true r_pastWithin_2) (.seq (.seq (.ops false r_pastWithin_3) (.block 0 (.loop t_pastWithin_l1))) (.seq (.ops false r_pastWithin_9) .ret))))
theorem it_pastWithin : FnIs Try.prog 24 39 [.tmp 4] t_pastWithin := ⟨Try.f24, _, Try.func24, rfl, rfl, rfl, rfl, by kernel_rfl⟩
end Go.Proofs.Ytdmfjkhbodbgoaa.Avm

namespace Go.Proofs.Ytdmfjkhbodbgoaa.Avm
open Go.Proofs
def r_pastOrder_1 : List SOp :=
  [⟨(some 2), (.box 25 (.tmp 0)), none⟩, ⟨(some 3), (.box 25 (.tmp 1)), none⟩, ⟨(some 4), (.assign (.const (.int .i64 0))), none⟩]
instance : Live r_pastOrder_1 := ⟨[0, 1]⟩
def r_pastOrder_2 : List SOp :=
  [⟨(some 7), (.load 25 (.tmp 2)), none⟩, ⟨(some 8), (.load 25 (.tmp 3)), none⟩, ⟨(some 9), (.call ⟨.value (.func 24), #[.tmp 7, .tmp 8], #[25, 25]⟩), none⟩, ⟨(some 10), (.load 25 (.tmp 3)), none⟩, ⟨(some 11), (.load 25 (.tmp 2)), none⟩, ⟨(some 12), (.call ⟨.value (.func 24), #[.tmp 10, .tmp 11], #[25, 25]⟩), none⟩, ⟨(some 5), (.assign (.tmp 9)), none⟩, ⟨(some 6), (.assign (.tmp 12)), none⟩]
instance : Live r_pastOrder_2 := ⟨[2, 3]⟩
def r_pastOrder_3 : List SOp :=
  [⟨(some 14), (.move (.tmp 5)), none⟩, ⟨(some 15), (.move (.tmp 14)), none⟩, ⟨(some 16), (.move (.tmp 6)), (some ((some 15), true))⟩, ⟨(some 17), (.pick (.tmp 15) (.tmp 16) (.const (.bool false))), none⟩, ⟨(some 13), (.assign (.tmp 17)), none⟩]
instance : Live r_pastOrder_3 := ⟨[5, 6]⟩
def r_pastOrder_4 : List SOp :=
  [⟨(some 4), (.assign (.const (.int .i64 0))), none⟩]
instance : Live r_pastOrder_4 := ⟨[]⟩
def r_pastOrder_5 : List SOp :=
  [⟨(some 19), (.move (.tmp 5)), none⟩, ⟨(some 18), (.assign (.tmp 19)), none⟩]
instance : Live r_pastOrder_5 := ⟨[5, 6]⟩
def r_pastOrder_6 : List SOp :=
  [⟨(some 4), (.assign (.const (.int .i64 1))), none⟩]
instance : Live r_pastOrder_6 := ⟨[]⟩
def r_pastOrder_7 : List SOp :=
  [⟨(some 21), (.move (.tmp 6)), none⟩, ⟨(some 20), (.assign (.tmp 21)), none⟩]
instance : Live r_pastOrder_7 := ⟨[6]⟩
def r_pastOrder_8 : List SOp :=
  [⟨(some 4), (.assign (.const (.int .i64 2))), none⟩]
instance : Live r_pastOrder_8 := ⟨[]⟩
def r_pastOrder_9 : List SOp :=
  [⟨(some 4), (.assign (.const (.int .i64 3))), none⟩]
instance : Live r_pastOrder_9 := ⟨[]⟩
def t_pastOrder : SC :=
  (.seq (.ops false r_pastOrder_1) (.seq (.seq (.ops true r_pastOrder_2) (.block 0 (.seq (.ops false r_pastOrder_3) (.cond (.tmp 13) (.seq (.ops false r_pastOrder_4) .ret) (.seq (.ops false r_pastOrder_5) (.cond (.tmp 18) (.seq (.ops false r_pastOrder_6) .ret) (.seq (.ops false r_pastOrder_7) (.cond (.tmp 20) (.seq (.ops false r_pastOrder_8) .ret) .skip)))))))) (.seq (.ops false r_pastOrder_9) .ret)))
theorem it_pastOrder : FnIs Try.prog 26 22 [.tmp 4] t_pastOrder := ⟨Try.f26, _, Try.func26, rfl, rfl, rfl, rfl, by kernel_rfl⟩
end Go.Proofs.Ytdmfjkhbodbgoaa.Avm

namespace Go.Proofs.Ytdmfjkhbodbgoaa.Avm
open Go.Proofs
def r_pastEmpty_1 : List SOp :=
  [⟨(some 1), (.box 25 (.tmp 0)), none⟩, ⟨(some 2), (.assign (.const (.bool false))), none⟩]
instance : Live r_pastEmpty_1 := ⟨[0]⟩
def r_pastEmpty_2 : List SOp :=
  [⟨(some 3), (.load 25 (.tmp 1)), none⟩, ⟨(some 4), (.call ⟨.value (.func 18), #[.tmp 3], #[25]⟩), none⟩, ⟨(some 5), (.binOp .eql 3 (.tmp 4) (.const (.int .i64 0)) 3), none⟩, ⟨(some 2), (.assign (.tmp 5)), none⟩]
instance : Live r_pastEmpty_2 := ⟨[1]⟩
def t_pastEmpty : SC :=
  (.seq (.ops false r_pastEmpty_1) (.seq (.ops false r_pastEmpty_2) .ret))
theorem it_pastEmpty : FnIs Try.prog 25 6 [.tmp 2] t_pastEmpty := ⟨Try.f25, _, Try.func25, rfl, rfl, rfl, rfl, by kernel_rfl⟩
end Go.Proofs.Ytdmfjkhbodbgoaa.Avm

namespace Go.Proofs.Ytdmfjkhbodbgoaa.Avm
open Go.Proofs
theorem ev_spanMeet (a b : List Rn) (ha : a.length ≤ 300000000) (hb : b.length ≤ 300000000) : Ev (En Try.prog rfl).P 57 [.sl 2 (encRs a), .sl 2 (encRs b)] (.ret (.sl 2 (encRs (meetR (normR a) (normR b))))) :=
  ev_spanMeet_of a b _ _ (ev_spanNorm a (by omega)) (ev_spanNorm b (by omega)) (by have := normR_len a; omega) (by have := normR_len b; omega)
theorem ev_spanMinus (a b : List Rn) (ha : a.length ≤ 200000000) (hb : b.length ≤ 200000000) : Ev (En Try.prog rfl).P 58 [.sl 2 (encRs a), .sl 2 (encRs b)] (.ret (.sl 2 (encRs (minusR a b)))) := by
  have h1 := normR_len b
  have h2 := othersFrom_len (normR b) 1
  exact ev_spanMinus_of a b _ _ (ev_spanNorm b (by omega)) (ev_spanothers _ (by omega) fun r hr => by have := (normR_can b).2 r hr; unfold okR at this; omega) (ev_spanMeet a _ (by omega) (by unfold othersR; omega))
theorem minusR_len (a b : List Rn) : (minusR a b).length ≤ a.length + b.length + 1 := by
  have h1 := meetR_len (normR a) (normR (othersR (normR b)))
  have h2 := normR_len a
  have h3 := normR_len (othersR (normR b))
  have h4 := othersFrom_len (normR b) 1
  have h5 := normR_len b
  unfold minusR othersR at *
  omega
theorem ev_spanWithin (a b : List Rn) (ha : a.length ≤ 200000000) (hb : b.length ≤ 200000000) : Ev (En Try.prog rfl).P 59 [.sl 2 (encRs a), .sl 2 (encRs b)] (.ret (.bool (decide (minusR a b = [])))) :=
  ev_spanWithin_of a b _ (by have := minusR_len a b; omega) (ev_spanMinus a b ha hb)
def WithP (t u : Tab) : Prop := ∀ r, r < 16 → minusR (t.getD r []) (u.getD r []) = []
open Classical in
noncomputable def withinP (p q : Pst) : Bool := decide (WithP (openT [p]) (openT [q]))
theorem withinP_true {p q : Pst} (h : WithP (openT [p]) (openT [q])) : withinP p q = true := by
  classical
  exact decide_eq_true h
theorem withinP_false {p q : Pst} (h : ¬ WithP (openT [p]) (openT [q])) : withinP p q = false := by
  classical
  exact decide_eq_false h
theorem meetR_ok : ∀ (l m : List Rn), ∀ r ∈ meetR l m, r.1 ≤ r.2
  | [], m, r, h => by unfold meetR at h; simp at h
  | x :: l, [], r, h => by rw [meetR_nil] at h; simp at h
  | x :: l, y :: m, r, h => by
    rw [meetR_cons] at h
    rcases List.mem_append.1 h with h | h
    · unfold one0 at h
      split at h
      · rename_i hc
        simp at h
        subst h
        exact hc
      · simp at h
    · split at h
      · exact meetR_ok l (y :: m) r h
      · exact meetR_ok (x :: l) m r h
termination_by l m => l.length + m.length
theorem withP_iff {t u : Tab} : WithP t u ↔ ∀ r, r < 16 → ∀ n, inT t r n → inT u r n := by
  constructor
  · intro h r hr n hn
    by_cases h' : inT u r n
    · exact h'
    · have := (minusR_in (t.getD r []) (u.getD r []) n).2 ⟨hn, h'⟩
      rw [h r hr] at this
      exact absurd this (inR_nil n)
  · intro h r hr
    cases hm : minusR (t.getD r []) (u.getD r []) with
    | nil => rfl
    | cons x l =>
      have hx : x ∈ minusR (t.getD r []) (u.getD r []) := by rw [hm]; exact List.mem_cons_self
      have hok := meetR_ok _ _ x hx
      have := (minusR_in (t.getD r []) (u.getD r []) x.1).1 ⟨x, hx, Int.le_refl _, hok⟩
      exact absurd (h r hr x.1 this.1) this.2
theorem withinP_iff {p q : Pst} : withinP p q = true ↔ ∀ r, r < 16 → ∀ n, inP p r n → inP q r n := by
  have h : WithP (openT [p]) (openT [q]) ↔ ∀ r, r < 16 → ∀ n, inP p r n → inP q r n := by
    rw [withP_iff]
    constructor
    · intro h r hr n
      have := h r hr n
      rw [open_in hr, open_in hr] at this
      simpa using this
    · intro h r hr n
      rw [open_in hr, open_in hr]
      simpa using h r hr n
  rw [← h]
  constructor
  · intro h1
    by_cases h2 : WithP (openT [p]) (openT [q])
    · exact h2
    · rw [withinP_false h2] at h1; simp at h1
  · exact withinP_true
theorem minusR_nil (b : List Rn) : minusR [] b = [] := by
  unfold minusR
  rw [normR_of_can Can.nil]
  unfold meetR
  rfl
theorem ev_pastWithin (p q : Pst) (hp : wt p ≤ 100000000) (hq : wt q ≤ 100000000) : Ev (En Try.prog rfl).P 24 [encP p, encP q] (.ret (.bool (withinP p q))) := by
  refine Ev.of_body it_pastWithin (by simp) (Run.start ?_)
  unfold t_pastWithin encP
  have c1 := ev_pastopen [p] (by simp) (by simp; omega)
  have c2 := ev_pastopen [q] (by simp) (by simp; omega)
  have ht : TabLe (openT [p]) (wt p) := by simpa using openT_le [p]
  have hu : TabLe (openT [q]) (wt q) := by simpa using openT_le [q]
  have hr := @withinP_true p q
  have hr' := @withinP_false p q
  (focus (have hF := True.intro; (repeat' (first | (with_reducible refine Nx.of ?_) | ((with_reducible apply toV); refine stV (k := ?_)) | ((with_reducible apply toG); refine stG (k := ?_)) | ((with_reducible apply toG0); refine stG0 (k := ?_)) | ((with_reducible apply toC); refine stC (k := ?_)) | ((with_reducible apply toO); refine stO (k := ?_)) | ((with_reducible apply toX); refine stX (k := ?_)) | (with_reducible refine Ny.of ?_ ?_) | (refine Hyp.of ?_; intro hc; (try simp only [hc]); (try simp only [Bh] at hc)) | fail)); (all_goals clear hF)))
  refine stCall [.sl 2 (encPs [p])] (he := c1) (k := ?_)
  (focus (have hF := True.intro; (repeat' (first | (with_reducible refine Nx.of ?_) | ((with_reducible apply toV); refine stV (k := ?_)) | ((with_reducible apply toG); refine stG (k := ?_)) | ((with_reducible apply toG0); refine stG0 (k := ?_)) | ((with_reducible apply toC); refine stC (k := ?_)) | ((with_reducible apply toO); refine stO (k := ?_)) | ((with_reducible apply toX); refine stX (k := ?_)) | (with_reducible refine Ny.of ?_ ?_) | (refine Hyp.of ?_; intro hc; (try simp only [hc]); (try simp only [Bh] at hc)) | fail)); (all_goals clear hF)))
  refine stCall [.sl 2 (encPs [q])] (he := c2) (k := ?_)
  clear c1 c2
  generalize openT [p] = t at ht hr hr' ⊢
  generalize openT [q] = u at hu hr hr' ⊢
  have e1 : (encTs t).length = 16 := by rw [encTs_len, ht.1]
  have e2 : (encTs u).length = 16 := by rw [encTs_len, hu.1]
  (focus (have hF := (And.intro @e1 @e2); (repeat' (first | (with_reducible refine Nx.of ?_) | ((with_reducible apply toV); refine stV (k := ?_)) | ((with_reducible apply toG); refine stG (k := ?_)) | ((with_reducible apply toG0); refine stG0 (k := ?_)) | ((with_reducible apply toC); refine stC (k := ?_)) | ((with_reducible apply toO); refine stO (k := ?_)) | ((with_reducible apply toX); refine stX (k := ?_)) | (with_reducible refine Ny.of ?_ ?_) | (refine Hyp.of ?_; intro hc; (try simp only [hc]); (try simp only [Bh] at hc)) | fail)); (all_goals clear hF)))
  refine Run.while (σ := Nat) (fun i => ⟨tms [(5, .sptr (encTs t)), (6, .sptr (encTs u)), (14, .int .i64 (i : Int))], mms []⟩) (fun i => i ≤ 16 ∧ ∀ r, r < i → minusR (t.getD r []) (u.getD r []) = []) (fun i => 16 - i) 0 (have hW := @encTs_stb; stWk) ⟨Nat.zero_le _, fun j hj => absurd hj (Nat.not_lt_zero _)⟩ ?_
  rintro i ⟨hi, hp⟩
  unfold t_pastWithin_l1
  by_cases hlt : i < 16
  · have hit : i < t.length := by rw [ht.1]; exact hlt
    have hiu : i < u.length := by rw [hu.1]; exact hlt
    have h1 := ht.2 i
    have h2 := hu.2 i
    have g1 := drop_head (encTs_get hit)
    have g2 := drop_head (encTs_get hiu)
    have c3 := ev_spanWithin (t.getD i []) (u.getD i []) (by omega) (by omega)
    have hs : minusR (t.getD i []) (u.getD i []) = [] → ∀ r, r < i + 1 → minusR (t.getD r []) (u.getD r []) = [] := fun h r hr => by
      by_cases e : r = i
      · rw [e]; exact h
      · exact hp r (by omega)
    have e3 := encRs_len (t.getD i [])
    by_cases hn : t.getD i [] = []
    · have hs2 := hs (by rw [hn, minusR_nil])
      have e4 : (encRs (t.getD i [])).length = 0 := by rw [e3, hn]; rfl
      (focus (have hF := (And.intro (And.intro @e1 @e2) (And.intro @g1 (And.intro @g2 @e4))); (repeat' (first | (with_reducible refine Nx.of ?_) | ((with_reducible apply toV); refine stV (k := ?_)) | ((with_reducible apply toG); refine stG (k := ?_)) | ((with_reducible apply toG0); refine stG0 (k := ?_)) | ((with_reducible apply toC); refine stC (k := ?_)) | ((with_reducible apply toO); refine stO (k := ?_)) | ((with_reducible apply toX); refine stX (k := ?_)) | (with_reducible refine Ny.of ?_ ?_) | (refine Hyp.of ?_; intro hc; (try simp only [hc]); (try simp only [Bh] at hc)) | fail)); (all_goals clear hF)))
      (refine Fin.nextW (i + 1) ?_ (have hW := @encTs_stb; stWk); (try dsimp only))
      exact ⟨⟨hlt, hs2⟩, by omega⟩
    · have e4 : 0 < (t.getD i []).length := List.length_pos_iff.2 hn
      (focus (have hF := (And.intro (And.intro @e1 @e2) (And.intro @g1 (And.intro @g2 @e3))); (repeat' (first | (with_reducible refine Nx.of ?_) | ((with_reducible apply toV); refine stV (k := ?_)) | ((with_reducible apply toG); refine stG (k := ?_)) | ((with_reducible apply toG0); refine stG0 (k := ?_)) | ((with_reducible apply toC); refine stC (k := ?_)) | ((with_reducible apply toO); refine stO (k := ?_)) | ((with_reducible apply toX); refine stX (k := ?_)) | (with_reducible refine Ny.of ?_ ?_) | (refine Hyp.of ?_; intro hc; (try simp only [hc]); (try simp only [Bh] at hc)) | fail)); (all_goals clear hF)))
      refine stCall [.sl 2 (encRs (t.getD i [])), .sl 2 (encRs (u.getD i []))] (he := c3) (k := ?_)
      (focus (have hF := (And.intro (And.intro @e1 @e2) (And.intro @g1 (And.intro @g2 @e3))); (repeat' (first | (with_reducible refine Nx.of ?_) | ((with_reducible apply toV); refine stV (k := ?_)) | ((with_reducible apply toG); refine stG (k := ?_)) | ((with_reducible apply toG0); refine stG0 (k := ?_)) | ((with_reducible apply toC); refine stC (k := ?_)) | ((with_reducible apply toO); refine stO (k := ?_)) | ((with_reducible apply toX); refine stX (k := ?_)) | (with_reducible refine Ny.of ?_ ?_) | (refine Hyp.of ?_; intro hc; (try simp only [hc]); (try simp only [Bh] at hc)) | fail)); (all_goals clear hF)))
      · rw [hr' fun h => hc (h i hlt)]
        exact Fin.tmp' rfl rfl
      · have hs2 := hs hc
        (refine Fin.nextW (i + 1) ?_ (have hW := @encTs_stb; stWk); (try dsimp only))
        exact ⟨⟨hlt, hs2⟩, by omega⟩
  · rw [hr fun r hr => hp r (by omega)]
    (focus (have hF := (And.intro @e1 @e2); (repeat' (first | (with_reducible refine Nx.of ?_) | ((with_reducible apply toV); refine stV (k := ?_)) | ((with_reducible apply toG); refine stG (k := ?_)) | ((with_reducible apply toG0); refine stG0 (k := ?_)) | ((with_reducible apply toC); refine stC (k := ?_)) | ((with_reducible apply toO); refine stO (k := ?_)) | ((with_reducible apply toX); refine stX (k := ?_)) | (with_reducible refine Ny.of ?_ ?_) | (refine Hyp.of ?_; intro hc; (try simp only [hc]); (try simp only [Bh] at hc)) | fail)); (all_goals clear hF)))
    exact Fin.tmp' rfl rfl
noncomputable def orderP (p q : Pst) : Int := if withinP p q = true then (if withinP q p = true then 0 else 1) else if withinP q p = true then 2 else 3
theorem ev_pastOrder (p q : Pst) (hp : wt p ≤ 100000000) (hq : wt q ≤ 100000000) : Ev (En Try.prog rfl).P 26 [encP p, encP q] (.ret (.int .i64 (orderP p q))) := by
  refine Ev.of_body it_pastOrder (by simp) (Run.start ?_)
  unfold t_pastOrder encP orderP
  have c1 := ev_pastWithin p q hp hq
  have c2 := ev_pastWithin q p hq hp
  (focus (have hF := True.intro; (repeat' (first | (with_reducible refine Nx.of ?_) | ((with_reducible apply toV); refine stV (k := ?_)) | ((with_reducible apply toG); refine stG (k := ?_)) | ((with_reducible apply toG0); refine stG0 (k := ?_)) | ((with_reducible apply toC); refine stC (k := ?_)) | ((with_reducible apply toO); refine stO (k := ?_)) | ((with_reducible apply toX); refine stX (k := ?_)) | (with_reducible refine Ny.of ?_ ?_) | (refine Hyp.of ?_; intro hc; (try simp only [hc]); (try simp only [Bh] at hc)) | fail)); (all_goals clear hF)))
  refine stCall [encP p, encP q] (he := c1) (k := ?_)
  (focus (have hF := True.intro; (repeat' (first | (with_reducible refine Nx.of ?_) | ((with_reducible apply toV); refine stV (k := ?_)) | ((with_reducible apply toG); refine stG (k := ?_)) | ((with_reducible apply toG0); refine stG0 (k := ?_)) | ((with_reducible apply toC); refine stC (k := ?_)) | ((with_reducible apply toO); refine stO (k := ?_)) | ((with_reducible apply toX); refine stX (k := ?_)) | (with_reducible refine Ny.of ?_ ?_) | (refine Hyp.of ?_; intro hc; (try simp only [hc]); (try simp only [Bh] at hc)) | fail)); (all_goals clear hF)))
  refine stCall [encP q, encP p] (he := c2) (k := ?_)
  cases h1 : withinP p q <;> cases h2 : withinP q p
  all_goals
    (focus (have hF := True.intro; (repeat' (first | (with_reducible refine Nx.of ?_) | ((with_reducible apply toV); refine stV (k := ?_)) | ((with_reducible apply toG); refine stG (k := ?_)) | ((with_reducible apply toG0); refine stG0 (k := ?_)) | ((with_reducible apply toC); refine stC (k := ?_)) | ((with_reducible apply toO); refine stO (k := ?_)) | ((with_reducible apply toX); refine stX (k := ?_)) | (with_reducible refine Ny.of ?_ ?_) | (refine Hyp.of ?_; intro hc; (try simp only [hc]); (try simp only [Bh] at hc)) | fail)); (all_goals clear hF)))
    exact Fin.tmp' rfl rfl
theorem ev_pastEmpty (p : Pst) (hp : wt p ≤ 50000000) : Ev (En Try.prog rfl).P 25 [encP p] (.ret (.bool (decide (sizeP p = 0)))) := by
  refine Ev.of_body it_pastEmpty (by simp) (Run.start ?_)
  unfold t_pastEmpty encP
  (focus (have hF := True.intro; (repeat' (first | (with_reducible refine Nx.of ?_) | ((with_reducible apply toV); refine stV (k := ?_)) | ((with_reducible apply toG); refine stG (k := ?_)) | ((with_reducible apply toG0); refine stG0 (k := ?_)) | ((with_reducible apply toC); refine stC (k := ?_)) | ((with_reducible apply toO); refine stO (k := ?_)) | ((with_reducible apply toX); refine stX (k := ?_)) | (with_reducible refine Ny.of ?_ ?_) | (refine Hyp.of ?_; intro hc; (try simp only [hc]); (try simp only [Bh] at hc)) | fail)); (all_goals clear hF)))
  refine stCall [encP p] (he := ev_pastSize p hp) (k := ?_)
  (focus (have hF := True.intro; (repeat' (first | (with_reducible refine Nx.of ?_) | ((with_reducible apply toV); refine stV (k := ?_)) | ((with_reducible apply toG); refine stG (k := ?_)) | ((with_reducible apply toG0); refine stG0 (k := ?_)) | ((with_reducible apply toC); refine stC (k := ?_)) | ((with_reducible apply toO); refine stO (k := ?_)) | ((with_reducible apply toX); refine stX (k := ?_)) | (with_reducible refine Ny.of ?_ ?_) | (refine Hyp.of ?_; intro hc; (try simp only [hc]); (try simp only [Bh] at hc)) | fail)); (all_goals clear hF)))
  exact Fin.tmp' rfl rfl
end Go.Proofs.Ytdmfjkhbodbgoaa.Avm

namespace Go.Proofs.Ytdmfjkhbodbgoaa.Avm
open Go.Proofs
def NewQ (t : Tmp) (cs : List AVal) : Ex → AS → Prop
  | .ret, s => ∃ k, s.T t = .ptr k 0 ∧ s.M k = some (.cells cs) ∧ stbs cs = true
  | _, _ => False
theorem results_one {P : Program} {fn : Func} {t : Tmp} (hrs : fn.results.toList = [.tmp t]) (tm : Array Value) (w : World) : (results fn tm).run P w = .ok (tm.getD t undef) w := by
  have hm : (fn.results.mapM (fun r => match r with | .tmp t => pure (tm.getD t undef) | .cell c t => do loadVar t (← asAddr (tm.getD c undef)) : ResultVar → Sem Value)).run P w = .ok #[tm.getD t undef] w := by
    rw [Array.mapM_eq_mapM_toList, hrs]
    simp only [Sem.run_map, List.mapM_cons, List.mapM_nil, Sem.run_bind, Sem.run_pure, Result.andThen]
  unfold results
  simp only [Sem.run_bind]
  refine Eq.trans (congrArg (fun r => Result.andThen r _) hm) ?_
  simp [Result.andThen]
theorem EvNew.of_body {E : Env} {f : FuncId} {n : Nat} {t : Tmp} {sc : SC} (hf : FnIs E.P f n [.tmp t] sc) {args cs : List AVal} (hl : args.length ≤ n)
    (h : AW E n sc (NewQ t cs) ⟨initT args, NoM⟩) : EvNew E.P f args cs := by
  obtain ⟨fn, c, h1, h2, h3, rfl, hrs, h6⟩ := hf
  refine ⟨⟨fn, h1, h2, by simp [h3]⟩, fun B w vs G hG hsz hv hB => ?_⟩
  refine calls_of_wp h1 h3 ?_
  have hR : Rel fn.ntmps B G ⟨initT args, NoM⟩ { tmps := vs ++ Array.replicate (fn.ntmps - vs.size) undef, defers := [] } w := by
    refine ⟨by simp; omega, rfl, fun t => ?_, fun k blk hk => by simp [NoM] at hk, fun b hb => ⟨hB b hb, hG b⟩, fun b hb => absurd (hG b) hb⟩
    simp only [initT]
    cases ht : args[t]? with
    | none => exact .undef _
    | some x =>
      have hlt : t < vs.size := by
        rw [hsz]
        rcases Nat.lt_or_ge t args.length with h' | h'
        · exact h'
        · rw [List.getElem?_eq_none h'] at ht; cases ht
      have : (vs ++ Array.replicate (fn.ntmps - vs.size) undef).getD t undef = vs[t] := by
        rw [Array.getD_eq_getD_getElem?, Array.getElem?_append_left hlt]
        simp [hlt]
      simp only [Option.getD_some, this]
      exact hv t x _ ht (by simp [hlt])
  refine h c h6 B G _ w hR _ fun e s a' w' G' hA hR' hq => ?_
  cases e with
  | normal => exact hq.elim
  | exit id => exact hq.elim
  | pan x => exact hq.elim
  | ret =>
    obtain ⟨k, q1, q2, q3⟩ := hq
    have hx := hR'.temps t
    rw [q1] at hx
    have e1 : a'.tmps.getD t undef = .pointer (some ⟨G'.β k, 0, none⟩) := by
      generalize a'.tmps.getD t undef = tv at hx
      cases hx
      rfl
    obtain ⟨cc, el, b1, b2, b3, b4, b5⟩ := hR'.mem k _ q2
    let G2 : Gh := { G' with ow := fun b => if b = G'.β k then G'.ow b else none }
    have g2 : ∀ b, G'.ow b = none → G2.ow b = none := fun b hb => by simp only [G2]; split <;> first | exact hb | rfl
    have hge : w.heap.size ≤ G'.β k := by
      rcases Nat.lt_or_ge (G'.β k) w.heap.size with h' | h'
      · have := (hA.keep _ h' (hG _)).2
        rw [b1] at this
        cases this
      · exact h'
    refine ⟨hR'.defers, _, results_one hrs a'.tmps w', G2, G'.β k, cc, el, hge, hR'.ol _ (by rw [b1]; simp), by simp only [G2, if_true]; rw [b1]; simp,
      ⟨hA.os, hA.tape, hA.output, hA.size, fun b hb ho => ⟨(hA.keep b hb ho).1, g2 b (hA.keep b hb ho).2⟩⟩, by rw [e1], b3, b4, fun i x hx => ?_⟩
    obtain ⟨u, hu, hcr⟩ := b5 i x hx
    have hst : x.stb = true := stbs_get q3 hx
    refine ⟨u, hu, ?_⟩
    have hvr : VR (Dm s.M) G' B w' x u := by
      cases x <;> first | exact hcr | (simp [AVal.stb] at hst; done)
    exact hvr.stable (fun b _ hn ho => ⟨rfl, hn, g2 b ho⟩) hst
end Go.Proofs.Ytdmfjkhbodbgoaa.Avm

namespace Go.Proofs.Ytdmfjkhbodbgoaa.Avm
open Go.Proofs
def r_pasteach_1 : List SOp :=
  [⟨(some 3), (.box 25 (.tmp 0)), none⟩, ⟨(some 4), (.box 25 (.tmp 1)), none⟩, ⟨(some 6), (.alloc 25), none⟩]
instance : Live r_pasteach_1 := ⟨[0, 1, 2]⟩
def r_pasteach_2 : List SOp :=
  [⟨(some 10), (.load 25 (.tmp 3)), none⟩, ⟨(some 11), (.buildSlice 51 1 #[(0, .tmp 10)]), none⟩, ⟨(some 12), (.call ⟨.value (.func 47), #[.tmp 11], #[51]⟩), none⟩, ⟨(some 13), (.load 25 (.tmp 4)), none⟩, ⟨(some 14), (.buildSlice 51 1 #[(0, .tmp 13)]), none⟩, ⟨(some 15), (.call ⟨.value (.func 47), #[.tmp 14], #[51]⟩), none⟩, ⟨(some 7), (.assign (.tmp 12)), none⟩, ⟨(some 8), (.assign (.tmp 15)), none⟩]
instance : Live r_pasteach_2 := ⟨[2, 3, 4, 6]⟩
def r_pasteach_3 : List SOp :=
  [⟨(some 16), (.move (.const (.int .i64 0))), none⟩]
instance : Live r_pasteach_3 := ⟨[2, 6, 7, 8]⟩
def r_pasteach_4 : List SOp :=
  [⟨(some 17), (.binOp .lss 3 (.tmp 16) (.const (.int .i64 16)) 3), none⟩]
instance : Live r_pasteach_4 := ⟨[2, 6, 7, 8, 16]⟩
def r_pasteach_5 : List SOp :=
  [⟨(some 18), (.move (.tmp 16)), none⟩, ⟨(some 9), (.assign (.tmp 18)), none⟩]
instance : Live r_pasteach_5 := ⟨[2, 6, 7, 8, 16]⟩
def r_pasteach_6 : List SOp :=
  [⟨(some 19), (.move (.tmp 7)), none⟩, ⟨(some 20), (.move (.tmp 9)), none⟩, ⟨(some 21), (.move (.tmp 2)), none⟩, ⟨(some 22), (.move (.tmp 7)), none⟩, ⟨(some 23), (.move (.tmp 9)), none⟩, ⟨(some 24), (.nilCheck (.tmp 22)), none⟩, ⟨(some 25), (.indexAddr 70 (.tmp 24) (.tmp 23)), none⟩, ⟨(some 26), (.load 58 (.tmp 25)), none⟩, ⟨(some 27), (.move (.tmp 8)), none⟩, ⟨(some 28), (.move (.tmp 9)), none⟩, ⟨(some 29), (.nilCheck (.tmp 27)), none⟩, ⟨(some 30), (.indexAddr 70 (.tmp 29) (.tmp 28)), none⟩, ⟨(some 31), (.load 58 (.tmp 30)), none⟩, ⟨(some 32), (.call ⟨.value (.tmp 21), #[.tmp 26, .tmp 31], #[58, 58]⟩), none⟩, ⟨(some 33), (.nilCheck (.tmp 19)), none⟩, ⟨(some 34), (.indexAddr 70 (.tmp 33) (.tmp 20)), none⟩, ⟨none, (.store 58 (.tmp 34) (.tmp 32)), none⟩]
instance : Live r_pasteach_6 := ⟨[2, 6, 7, 8, 9, 16]⟩
def r_pasteach_7 : List SOp :=
  [⟨(some 35), (.binOp .add 3 (.tmp 16) (.const (.int .i64 1)) 3), none⟩, ⟨(some 16), (.move (.tmp 35)), none⟩]
instance : Live r_pasteach_7 := ⟨[2, 6, 7, 8, 16]⟩
def r_pasteach_8 : List SOp :=
  [⟨(some 36), (.move (.tmp 7)), none⟩, ⟨(some 37), (.call ⟨.value (.func 52), #[.tmp 36], #[59]⟩), none⟩, ⟨none, (.store 25 (.tmp 6) (.tmp 37)), none⟩]
instance : Live r_pasteach_8 := ⟨[6, 7]⟩
def t_pasteach_l1 : SC :=
  (.seq (.ops false r_pasteach_4) (.seq (.cond (.tmp 17) .skip (.exit 0)) (.seq (.block 1 (.seq (.ops false r_pasteach_5) (.ops true r_pasteach_6))) (.ops false r_pasteach_7))))
def t_pasteach : SC :=
  (.seq (.ops false r_pasteach_1) (.seq (.ops true r_pasteach_2) (.seq (.seq (.ops false r_pasteach_3) (.block 0 (.loop t_pasteach_l1))) (.seq (.ops false r_pasteach_8) .ret))))
theorem it_pasteach : FnIs Try.prog 56 38 [.cell 6 25] t_pasteach := ⟨Try.f56, _, Try.func56, rfl, rfl, rfl, rfl, by kernel_rfl⟩
end Go.Proofs.Ytdmfjkhbodbgoaa.Avm

namespace Go.Proofs.Ytdmfjkhbodbgoaa.Avm
open Go.Proofs
def r_pastMeet_1 : List SOp :=
  [⟨(some 2), (.box 25 (.tmp 0)), none⟩, ⟨(some 3), (.box 25 (.tmp 1)), none⟩, ⟨(some 4), (.alloc 25), none⟩]
instance : Live r_pastMeet_1 := ⟨[0, 1]⟩
def r_pastMeet_2 : List SOp :=
  [⟨(some 5), (.load 25 (.tmp 2)), none⟩, ⟨(some 6), (.load 25 (.tmp 3)), none⟩, ⟨(some 7), (.call ⟨.value (.func 56), #[.tmp 5, .tmp 6, .func 57], #[25, 25, 68]⟩), none⟩, ⟨none, (.store 25 (.tmp 4) (.tmp 7)), none⟩]
instance : Live r_pastMeet_2 := ⟨[2, 3, 4]⟩
def t_pastMeet : SC :=
  (.seq (.ops false r_pastMeet_1) (.seq (.ops false r_pastMeet_2) .ret))
theorem it_pastMeet : FnIs Try.prog 21 8 [.cell 4 25] t_pastMeet := ⟨Try.f21, _, Try.func21, rfl, rfl, rfl, rfl, by kernel_rfl⟩
end Go.Proofs.Ytdmfjkhbodbgoaa.Avm

namespace Go.Proofs.Ytdmfjkhbodbgoaa.Avm
open Go.Proofs
def r_pastMinus_1 : List SOp :=
  [⟨(some 2), (.box 25 (.tmp 0)), none⟩, ⟨(some 3), (.box 25 (.tmp 1)), none⟩, ⟨(some 4), (.alloc 25), none⟩]
instance : Live r_pastMinus_1 := ⟨[0, 1]⟩
def r_pastMinus_2 : List SOp :=
  [⟨(some 5), (.load 25 (.tmp 2)), none⟩, ⟨(some 6), (.load 25 (.tmp 3)), none⟩, ⟨(some 7), (.call ⟨.value (.func 56), #[.tmp 5, .tmp 6, .func 58], #[25, 25, 68]⟩), none⟩, ⟨none, (.store 25 (.tmp 4) (.tmp 7)), none⟩]
instance : Live r_pastMinus_2 := ⟨[2, 3, 4]⟩
def t_pastMinus : SC :=
  (.seq (.ops false r_pastMinus_1) (.seq (.ops false r_pastMinus_2) .ret))
theorem it_pastMinus : FnIs Try.prog 22 8 [.cell 4 25] t_pastMinus := ⟨Try.f22, _, Try.func22, rfl, rfl, rfl, rfl, by kernel_rfl⟩
end Go.Proofs.Ytdmfjkhbodbgoaa.Avm

namespace Go.Proofs.Ytdmfjkhbodbgoaa.Avm
open Go.Proofs
theorem new_pastopen (ps : List Pst) (hl : ps.length ≤ 1000000000) (hw : (ps.map wt).sum ≤ 900000000) : EvNew (En Try.prog rfl).P 47 [.sl 2 (encPs ps)] (encTs (openT ps)) := by
  refine EvNew.of_body it_pastopen (by simp) (Run.start ?_)
  unfold t_pastopen
  have e0 : (encPs ps).length = ps.length := encPs_len _
  (focus (have hF := @e0; (repeat' (first | (with_reducible refine Nx.of ?_) | ((with_reducible apply toV); refine stV (k := ?_)) | ((with_reducible apply toG); refine stG (k := ?_); (with_reducible refine Nx.of ?_)) | ((with_reducible apply toG0); refine stG0 (k := ?_); (with_reducible refine Nx.of ?_)) | ((with_reducible apply toC); refine stC (k := ?_); (with_reducible refine Nx.of ?_)) | ((with_reducible apply toO); refine stO (k := ?_)) | ((with_reducible apply toX); refine stX (k := ?_)) | fail)); (all_goals clear hF)))
  refine Run.wk (Wk.trans (Wk.own_cells (k := 10) (cs' := encT tab0) rfl rfl ?_) (Wk.toL [(3, .ptr 10 0), (11, .sl 2 (encPs ps)), (12, .int .i64 ps.length), (13, .int .i64 0)] [(10, .cells (encT tab0))] ⟨rfl, rfl, rfl, rfl, trivial⟩ ⟨rfl, trivial⟩ ⟨rfl, encPs_stb ps, rfl, rfl, trivial⟩ ⟨encT_no _ _, trivial⟩)) ?_
  · intro i x y hx hy
    have hx' : (List.replicate 16 AVal.nil)[i]? = some x := hx
    rw [List.getElem?_replicate] at hx'
    have hy' : (List.replicate 16 (AVal.own 2 []))[i]? = some y := hy
    rw [List.getElem?_replicate] at hy'
    split at hx'
    · rename_i h16
      rw [if_pos h16] at hy'
      cases hx'; cases hy'
      exact .inr ⟨rfl, 2, rfl⟩
    · cases hx'
  refine Run.range ps.length (fun i => ⟨tms [(3, .ptr 10 0), (11, .sl 2 (encPs ps)), (12, .int .i64 ps.length), (13, .int .i64 i)], mms [(10, .cells (encT ((ps.take i).foldl openOne tab0)))]⟩) (Wk.refl _ _) (fun i hi => ?_) ?_
  · have hq0 := TabLe.all tab0_le (ps.take i)
    obtain ⟨p, hp⟩ : ∃ p, ps[i]? = some p := ⟨ps[i], by simp [hi]⟩
    rw [foldl_take openOne tab0 ps hp]
    have hsum : ((ps.take i).map wt).sum + wt p ≤ (ps.map wt).sum := by
      have : ((ps.take (i + 1)).map wt).sum ≤ (ps.map wt).sum := by rw [List.map_take]; exact take_sum_le _
      rw [List.take_add_one, hp] at this
      simpa using this
    generalize (ps.take i).foldl openOne tab0 = u at hq0 ⊢
    generalize ((ps.take i).map wt).sum = m at hq0 hsum
    have hwt : wt p = p.vec.length + p.cloud.length := rfl
    have hv : p.vec.length ≤ 1000000000 := by omega
    have hc : p.cloud.length ≤ 1000000000 := by omega
    have e1 : ((i : Int) < (ps.length : Int)) = True := by simp only [eq_iff_iff, iff_true]; omega
    have e2 : (0 ≤ (i : Int)) = True := by simp
    have e3 : (encPs ps)[i]? = some (.agg [.sl 1 (encIs p.vec), .sl 3 (encSs p.cloud)]) := encPs_get hp
    have e4 : (encIs p.vec).length = p.vec.length := encIs_len _
    have e5 : (encSs p.cloud).length = p.cloud.length := encSs_len _
    have e13 : IntKind.i64.wrap ((i : Int) + 1) = ((i + 1 : Nat) : Int) := by rw [wrap_id (by omega)]; omega
    unfold t_pastopen_l1
    (focus (have hF := (And.intro (And.intro @e0 (And.intro @e1 @e2)) (And.intro @e3 (And.intro @e4 @e5))); (repeat' (first | (with_reducible refine Nx.of ?_) | ((with_reducible apply toV); refine stV (k := ?_)) | ((with_reducible apply toG); refine stG (k := ?_); (with_reducible refine Nx.of ?_)) | ((with_reducible apply toG0); refine stG0 (k := ?_); (with_reducible refine Nx.of ?_)) | ((with_reducible apply toC); refine stC (k := ?_); (with_reducible refine Nx.of ?_)) | ((with_reducible apply toO); refine stO (k := ?_)) | ((with_reducible apply toX); refine stX (k := ?_)) | fail)); (all_goals clear hF)))
    refine Run.wk (Wk.toL [(3, .ptr 10 0), (11, .sl 2 (encPs ps)), (12, .int .i64 ps.length), (13, .int .i64 i), (5, .ptr 5 0), (20, .int .i64 (min p.vec.length 16)), (21, .int .i64 0)] [(10, .cells (encT u)), (5, .cells [.sl 1 (encIs p.vec), .sl 3 (encSs p.cloud)])] ⟨rfl, rfl, rfl, rfl, rfl, rfl, rfl, trivial⟩ ⟨rfl, rfl, trivial⟩ ⟨rfl, encPs_stb ps, rfl, rfl, rfl, rfl, rfl, trivial⟩ ⟨encT_no _ _, by simp [ABlk.no, AVal.noC, AVal.no, AVal.stb, encIs_stb, encSs_stb], trivial⟩) ?_
    refine open_l2 (.sl 2 (encPs ps)) (encPs_stb ps) _ _ p hv u (n0 := 0 + m) hq0 (by omega) ?_
    (focus (have hF := (And.intro (And.intro @e0 (And.intro @e1 @e2)) (And.intro @e3 (And.intro @e4 @e5))); (repeat' (first | (with_reducible refine Nx.of ?_) | ((with_reducible apply toV); refine stV (k := ?_)) | ((with_reducible apply toG); refine stG (k := ?_); (with_reducible refine Nx.of ?_)) | ((with_reducible apply toG0); refine stG0 (k := ?_); (with_reducible refine Nx.of ?_)) | ((with_reducible apply toC); refine stC (k := ?_); (with_reducible refine Nx.of ?_)) | ((with_reducible apply toO); refine stO (k := ?_)) | ((with_reducible apply toX); refine stX (k := ?_)) | fail)); (all_goals clear hF)))
    refine Run.wk (Wk.toL [(3, .ptr 10 0), (11, .sl 2 (encPs ps)), (12, .int .i64 ps.length), (13, .int .i64 i), (43, .sl 3 (encSs p.cloud)), (44, .int .i64 p.cloud.length), (45, .int .i64 0)] [(10, .cells (encT (addVec p.vec u)))] ⟨rfl, rfl, rfl, rfl, rfl, rfl, rfl, trivial⟩ ⟨rfl, trivial⟩ ⟨rfl, encPs_stb ps, rfl, rfl, encSs_stb _, rfl, rfl, trivial⟩ ⟨encT_no _ _, trivial⟩) ?_
    refine open_l3 (.sl 2 (encPs ps)) (encPs_stb ps) _ _ p.cloud hc (addVec p.vec u) (n0 := 0 + m + min p.vec.length 16) (TabLe.range hq0 _) (by omega) ?_
    (focus (have hF := (And.intro (And.intro @e0 (And.intro @e1 @e2)) (And.intro (And.intro @e3 @e4) (And.intro @e5 @e13))); (repeat' (first | (with_reducible refine Nx.of ?_) | ((with_reducible apply toV); refine stV (k := ?_)) | ((with_reducible apply toG); refine stG (k := ?_); (with_reducible refine Nx.of ?_)) | ((with_reducible apply toG0); refine stG0 (k := ?_); (with_reducible refine Nx.of ?_)) | ((with_reducible apply toC); refine stC (k := ?_); (with_reducible refine Nx.of ?_)) | ((with_reducible apply toO); refine stO (k := ?_)) | ((with_reducible apply toX); refine stX (k := ?_)) | fail)); (all_goals clear hF)))
    exact Fin.next (Wk.toL _ _ ⟨rfl, rfl, rfl, rfl, trivial⟩ ⟨rfl, trivial⟩ ⟨rfl, encPs_stb ps, rfl, rfl, trivial⟩ ⟨encT_no _ _, trivial⟩)
  · have e1 : ((ps.length : Int) < (ps.length : Int)) = False := by simp
    have e3 : ps.take ps.length = ps := List.take_length
    rw [e3]
    refine Run.wk (Wk.freeze (k := 10) (cs := encT (openT ps)) rfl) ?_
    unfold t_pastopen_l1
    (focus (have hF := (And.intro @e0 @e1); (repeat' (first | (with_reducible refine Nx.of ?_) | ((with_reducible apply toV); refine stV (k := ?_)) | ((with_reducible apply toG); refine stG (k := ?_); (with_reducible refine Nx.of ?_)) | ((with_reducible apply toG0); refine stG0 (k := ?_); (with_reducible refine Nx.of ?_)) | ((with_reducible apply toC); refine stC (k := ?_); (with_reducible refine Nx.of ?_)) | ((with_reducible apply toO); refine stO (k := ?_)) | ((with_reducible apply toX); refine stX (k := ?_)) | fail)); (all_goals clear hF)))
    have hf : (encT (openT ps)).map frz = encTs (openT ps) := by
      unfold encT encTs
      rw [List.map_map]
      rfl
    refine Fin.done ⟨10, rfl, ?_, encTs_stb _⟩
    rw [← hf]
    rfl
theorem encTs_fz (K : Nat → Bool) (M : Mem) (t : Tab) : (encTs t).map (fzc K M) = encTs t := by
  unfold encTs
  rw [List.map_map]
  rfl
theorem encTs_set (t : Tab) (i : Nat) (l : List Rn) : (encTs t).set i (.sl 2 (encRs l)) = encTs (t.set i l) := by simp [encTs, List.map_set]
theorem ev_pasteach_of (p q : Pst) (g : FuncId) (h : Nat → List Rn) {N : Nat} (hp : wt p ≤ 100000000) (hq : wt q ≤ 100000000) (hN : N ≤ 50000000) (hlen : ∀ r, r < 16 → (h r).length ≤ N)
    (hf : ∀ r, r < 16 → Ev (En Try.prog rfl).P g [.sl 2 (encRs ((openT [p]).getD r [])), .sl 2 (encRs ((openT [q]).getD r []))] (.ret (.sl 2 (encRs (h r))))) :
    Ev (En Try.prog rfl).P 56 [encP p, encP q, .fn g []] (.ret (encP (pastT ((List.range 16).map h)))) := by
  refine Ev.of_body it_pasteach (by simp) (Run.start ?_)
  unfold t_pasteach encP
  have c1 := new_pastopen [p] (by simp) (by simp; omega)
  have c2 := ev_pastopen [q] (by simp) (by simp; omega)
  have ht : TabLe (openT [p]) (wt p) := by simpa using openT_le [p]
  have hu : TabLe (openT [q]) (wt q) := by simpa using openT_le [q]
  (focus (have hF := True.intro; (repeat' (first | (with_reducible refine Nx.of ?_) | ((with_reducible apply toV); refine stV (k := ?_)) | ((with_reducible apply toG); refine stG (k := ?_)) | ((with_reducible apply toG0); refine stG0 (k := ?_)) | ((with_reducible apply toC); refine stC (k := ?_)) | ((with_reducible apply toO); refine stO (k := ?_)) | ((with_reducible apply toX); refine stX (k := ?_)) | (with_reducible refine Ny.of ?_ ?_) | (refine Hyp.of ?_; intro hc; (try simp only [hc]); (try simp only [Bh] at hc)) | fail)); (all_goals clear hF)))
  refine stNew [.sl 2 (encPs [p])] (he := c1) (k := ?_)
  (focus (have hF := True.intro; (repeat' (first | (with_reducible refine Nx.of ?_) | ((with_reducible apply toV); refine stV (k := ?_)) | ((with_reducible apply toG); refine stG (k := ?_)) | ((with_reducible apply toG0); refine stG0 (k := ?_)) | ((with_reducible apply toC); refine stC (k := ?_)) | ((with_reducible apply toO); refine stO (k := ?_)) | ((with_reducible apply toX); refine stX (k := ?_)) | (with_reducible refine Ny.of ?_ ?_) | (refine Hyp.of ?_; intro hc; (try simp only [hc]); (try simp only [Bh] at hc)) | fail)); (all_goals clear hF)))
  refine stCall [.sl 2 (encPs [q])] (he := c2) (k := ?_)
  clear c1 c2
  generalize openT [p] = t at ht hf ⊢
  generalize openT [q] = u at hu hf ⊢
  have e2 : (encTs u).length = 16 := by rw [encTs_len, hu.1]
  have e1 : (encTs t).length = 16 := by rw [encTs_len, ht.1]
  (focus (have hF := (And.intro @e1 @e2); (repeat' (first | (with_reducible refine Nx.of ?_) | ((with_reducible apply toV); refine stV (k := ?_)) | ((with_reducible apply toG); refine stG (k := ?_)) | ((with_reducible apply toG0); refine stG0 (k := ?_)) | ((with_reducible apply toC); refine stC (k := ?_)) | ((with_reducible apply toO); refine stO (k := ?_)) | ((with_reducible apply toX); refine stX (k := ?_)) | (with_reducible refine Ny.of ?_ ?_) | (refine Hyp.of ?_; intro hc; (try simp only [hc]); (try simp only [Bh] at hc)) | fail)); (all_goals clear hF)))
  refine Run.while (σ := Nat × Tab) (fun z => ⟨tms [(2, .fn g []), (6, .ptr 6 0), (7, .ptr 12 0), (8, .sptr (encTs u)), (16, .int .i64 (z.1 : Int))], mms [(6, .cells [.nil, .nil]), (12, .cells (encTs z.2))]⟩)
    (fun z => z.1 ≤ 16 ∧ z.2.length = 16 ∧ ∀ r, r < 16 → z.2.getD r [] = if r < z.1 then h r else t.getD r []) (fun z => 16 - z.1) (0, t) (have hW := @encTs_stb; stWk) ⟨Nat.zero_le _, ht.1, fun r _ => by rw [if_neg (Nat.not_lt_zero r)]⟩ ?_
  rintro ⟨i, T⟩ ⟨hi, hT, hrow⟩
  dsimp only at hi hT hrow ⊢
  have e3 : (encTs T).length = 16 := by rw [encTs_len, hT]
  unfold t_pasteach_l1
  by_cases hlt : i < 16
  · have hiT : i < T.length := by omega
    have hiu : i < u.length := by rw [hu.1]; exact hlt
    have hrT : T.getD i [] = t.getD i [] := by rw [hrow i hlt, if_neg (by omega)]
    have g1 := encTs_get hiT
    have g2 := drop_head (encTs_get hiu)
    rw [hrT] at g1
    have c3 := hf i hlt
    have hs : List.take i (encTs T) ++ [AVal.sl 2 (encRs (h i))] ++ List.drop (i + 1) (encTs T) = encTs (T.set i (h i)) := by
      rw [← encTs_set, List.set_eq_take_append_cons_drop, if_pos (by omega), List.append_assoc]
      rfl
    have hrow2 : ∀ r, r < 16 → (T.set i (h i)).getD r [] = if r < i + 1 then h r else t.getD r [] := fun r hr => by
      rw [List.getD_eq_getElem?_getD, List.getElem?_set]
      by_cases e : i = r
      · subst e
        rw [if_pos rfl, if_pos hiT, if_pos (by omega)]
        rfl
      · rw [if_neg e, ← List.getD_eq_getElem?_getD, hrow r hr]
        by_cases hr2 : r < i
        · rw [if_pos hr2, if_pos (by omega)]
        · rw [if_neg hr2, if_neg (by omega)]
    (focus (have hF := (And.intro (And.intro @e2 @e3) (And.intro @g1 @g2)); (repeat' (first | (with_reducible refine Nx.of ?_) | ((with_reducible apply toV); refine stV (k := ?_)) | ((with_reducible apply toG); refine stG (k := ?_)) | ((with_reducible apply toG0); refine stG0 (k := ?_)) | ((with_reducible apply toC); refine stC (k := ?_)) | ((with_reducible apply toO); refine stO (k := ?_)) | ((with_reducible apply toX); refine stX (k := ?_)) | (with_reducible refine Ny.of ?_ ?_) | (refine Hyp.of ?_; intro hc; (try simp only [hc]); (try simp only [Bh] at hc)) | fail)); (all_goals clear hF)))
    refine stCall [.sl 2 (encRs (t.getD i [])), .sl 2 (encRs (u.getD i []))] (he := c3) (k := ?_)
    (focus (have hF := (And.intro (And.intro @e2 @e3) (And.intro @g1 @g2)); (repeat' (first | (with_reducible refine Nx.of ?_) | ((with_reducible apply toV); refine stV (k := ?_)) | ((with_reducible apply toG); refine stG (k := ?_)) | ((with_reducible apply toG0); refine stG0 (k := ?_)) | ((with_reducible apply toC); refine stC (k := ?_)) | ((with_reducible apply toO); refine stO (k := ?_)) | ((with_reducible apply toX); refine stX (k := ?_)) | (with_reducible refine Ny.of ?_ ?_) | (refine Hyp.of ?_; intro hc; (try simp only [hc]); (try simp only [Bh] at hc)) | fail)); (all_goals clear hF)))
    rw [hs]
    (refine Fin.nextW ((i + 1, T.set i (h i))) ?_ (have hW := @encTs_stb; stWk); (try dsimp only))
    exact ⟨⟨by show i + 1 ≤ 16; omega, by show (T.set i (h i)).length = 16; rw [List.length_set]; exact hT, hrow2⟩, by show 16 - (i + 1) < 16 - i; omega⟩
  · have hTh : T = (List.range 16).map h := by
      refine List.ext_getElem (by simp [hT]) fun j h1 h2 => ?_
      have := hrow j (by omega)
      rw [if_pos (by omega), List.getD_eq_getElem?_getD, List.getElem?_eq_getElem h1] at this
      simpa using this
    rw [← hTh]
    have hTl : TabLe T N := by
      refine ⟨hT, fun r => ?_⟩
      by_cases hr : r < 16
      · rw [hrow r hr, if_pos (by omega)]; exact hlen r hr
      · rw [List.getD_eq_getElem?_getD, List.getElem?_eq_none (by omega)]; exact Nat.zero_le _
    have c4 := ev_pasttablepast T hTl hN
    (focus (have hF := (And.intro @e2 @e3); (repeat' (first | (with_reducible refine Nx.of ?_) | ((with_reducible apply toV); refine stV (k := ?_)) | ((with_reducible apply toG); refine stG (k := ?_)) | ((with_reducible apply toG0); refine stG0 (k := ?_)) | ((with_reducible apply toC); refine stC (k := ?_)) | ((with_reducible apply toO); refine stO (k := ?_)) | ((with_reducible apply toX); refine stX (k := ?_)) | (with_reducible refine Ny.of ?_ ?_) | (refine Hyp.of ?_; intro hc; (try simp only [hc]); (try simp only [Bh] at hc)) | fail)); (all_goals clear hF)))
    refine awp_give (fun j => j == 12) (l := [.sptr (encTs T)]) rfl ?hl (by simp [stbs, AVal.stb, encTs_stb]) c4 rfl ?k
    case hl =>
      show [AVal.sptr (((encTs T).map (fzc (fun j => j == 12) _)).drop 0)] = _
      rw [encTs_fz]
      rfl
    unfold encP
    (focus (have hF := True.intro; (repeat' (first | (with_reducible refine Nx.of ?_) | ((with_reducible apply toV); refine stV (k := ?_)) | ((with_reducible apply toG); refine stG (k := ?_)) | ((with_reducible apply toG0); refine stG0 (k := ?_)) | ((with_reducible apply toC); refine stC (k := ?_)) | ((with_reducible apply toO); refine stO (k := ?_)) | ((with_reducible apply toX); refine stX (k := ?_)) | (with_reducible refine Ny.of ?_ ?_) | (refine Hyp.of ?_; intro hc; (try simp only [hc]); (try simp only [Bh] at hc)) | fail)); (all_goals clear hF)))
    exact Fin.all rfl (by simp [stbs, AVal.stb, encIs_stb, encSs_stb, fzc, allK]) rfl
def meetT (p q : Pst) (r : Nat) : List Rn := meetR (normR ((openT [p]).getD r [])) (normR ((openT [q]).getD r []))
def minusT (p q : Pst) (r : Nat) : List Rn := minusR ((openT [p]).getD r []) ((openT [q]).getD r [])
def meetP (p q : Pst) : Pst := pastT ((List.range 16).map (meetT p q))
def minusP (p q : Pst) : Pst := pastT ((List.range 16).map (minusT p q))
theorem open_row (p : Pst) (r : Nat) : ((openT [p]).getD r []).length ≤ wt p := by
  have : TabLe (openT [p]) (wt p) := by simpa using openT_le [p]
  exact this.2 r
theorem ev_pastMeet (p q : Pst) (hp : wt p ≤ 20000000) (hq : wt q ≤ 20000000) : Ev (En Try.prog rfl).P 21 [encP p, encP q] (.ret (encP (meetP p q))) := by
  have c := ev_pasteach_of p q 57 (meetT p q) (N := 40000000) (by omega) (by omega) (by omega) (fun r hr => by
    have h1 := meetR_len (normR ((openT [p]).getD r [])) (normR ((openT [q]).getD r []))
    have h2 := normR_len ((openT [p]).getD r [])
    have h3 := normR_len ((openT [q]).getD r [])
    have h4 := open_row p r
    have h5 := open_row q r
    unfold meetT
    omega) (fun r hr => ev_spanMeet _ _ (by have := open_row p r; omega) (by have := open_row q r; omega))
  refine Ev.of_body it_pastMeet (by simp) (Run.start ?_)
  unfold t_pastMeet encP
  (focus (have hF := True.intro; (repeat' (first | (with_reducible refine Nx.of ?_) | ((with_reducible apply toV); refine stV (k := ?_)) | ((with_reducible apply toG); refine stG (k := ?_)) | ((with_reducible apply toG0); refine stG0 (k := ?_)) | ((with_reducible apply toC); refine stC (k := ?_)) | ((with_reducible apply toO); refine stO (k := ?_)) | ((with_reducible apply toX); refine stX (k := ?_)) | (with_reducible refine Ny.of ?_ ?_) | (refine Hyp.of ?_; intro hc; (try simp only [hc]); (try simp only [Bh] at hc)) | fail)); (all_goals clear hF)))
  refine stCall [encP p, encP q, .fn 57 []] (he := c) (k := ?_)
  unfold meetP encP
  (focus (have hF := True.intro; (repeat' (first | (with_reducible refine Nx.of ?_) | ((with_reducible apply toV); refine stV (k := ?_)) | ((with_reducible apply toG); refine stG (k := ?_)) | ((with_reducible apply toG0); refine stG0 (k := ?_)) | ((with_reducible apply toC); refine stC (k := ?_)) | ((with_reducible apply toO); refine stO (k := ?_)) | ((with_reducible apply toX); refine stX (k := ?_)) | (with_reducible refine Ny.of ?_ ?_) | (refine Hyp.of ?_; intro hc; (try simp only [hc]); (try simp only [Bh] at hc)) | fail)); (all_goals clear hF)))
  exact Fin.all rfl (by simp [stbs, AVal.stb, encIs_stb, encSs_stb, fzc, allK]) rfl
theorem ev_pastMinus (p q : Pst) (hp : wt p ≤ 20000000) (hq : wt q ≤ 20000000) : Ev (En Try.prog rfl).P 22 [encP p, encP q] (.ret (encP (minusP p q))) := by
  have c := ev_pasteach_of p q 58 (minusT p q) (N := 40000001) (by omega) (by omega) (by omega) (fun r hr => by
    have h1 := minusR_len ((openT [p]).getD r []) ((openT [q]).getD r [])
    have h4 := open_row p r
    have h5 := open_row q r
    unfold minusT
    omega) (fun r hr => ev_spanMinus _ _ (by have := open_row p r; omega) (by have := open_row q r; omega))
  refine Ev.of_body it_pastMinus (by simp) (Run.start ?_)
  unfold t_pastMinus encP
  (focus (have hF := True.intro; (repeat' (first | (with_reducible refine Nx.of ?_) | ((with_reducible apply toV); refine stV (k := ?_)) | ((with_reducible apply toG); refine stG (k := ?_)) | ((with_reducible apply toG0); refine stG0 (k := ?_)) | ((with_reducible apply toC); refine stC (k := ?_)) | ((with_reducible apply toO); refine stO (k := ?_)) | ((with_reducible apply toX); refine stX (k := ?_)) | (with_reducible refine Ny.of ?_ ?_) | (refine Hyp.of ?_; intro hc; (try simp only [hc]); (try simp only [Bh] at hc)) | fail)); (all_goals clear hF)))
  refine stCall [encP p, encP q, .fn 58 []] (he := c) (k := ?_)
  unfold minusP encP
  (focus (have hF := True.intro; (repeat' (first | (with_reducible refine Nx.of ?_) | ((with_reducible apply toV); refine stV (k := ?_)) | ((with_reducible apply toG); refine stG (k := ?_)) | ((with_reducible apply toG0); refine stG0 (k := ?_)) | ((with_reducible apply toC); refine stC (k := ?_)) | ((with_reducible apply toO); refine stO (k := ?_)) | ((with_reducible apply toX); refine stX (k := ?_)) | (with_reducible refine Ny.of ?_ ?_) | (refine Hyp.of ?_; intro hc; (try simp only [hc]); (try simp only [Bh] at hc)) | fail)); (all_goals clear hF)))
  exact Fin.all rfl (by simp [stbs, AVal.stb, encIs_stb, encSs_stb, fzc, allK]) rfl
end Go.Proofs.Ytdmfjkhbodbgoaa.Avm

namespace Go.Proofs.Ytdmfjkhbodbgoaa.Avm
theorem rows_in {h : Nat → List Rn} {r : Nat} (hr : r < 16) (n : Int) : inP (pastT ((List.range 16).map h)) r n ↔ mem1 (h r) n := by
  rw [past_in _ hr]
  unfold inT
  have : ((List.range 16).map h).getD r [] = h r := by
    rw [List.getD_eq_getElem?_getD, List.getElem?_map, List.getElem?_range hr]
    rfl
  rw [this]
theorem inP_row (p : Pst) {r : Nat} (hr : r < 16) (n : Int) : mem1 ((openT [p]).getD r []) n ↔ inP p r n := by
  show inT (openT [p]) r n ↔ _
  rw [open_in hr]
  simp
theorem meetP_in (p q : Pst) {r : Nat} (hr : r < 16) (n : Int) : inP (meetP p q) r n ↔ inP p r n ∧ inP q r n := by
  unfold meetP
  rw [rows_in hr, ← inP_row p hr, ← inP_row q hr]
  unfold meetT
  constructor
  · rintro ⟨h1, h2, h3⟩
    have := (meetR_in (normR_can _) (normR_can _) n).1 h3
    rw [normR_in, normR_in] at this
    exact this
  · rintro ⟨h1, h2⟩
    refine ⟨h1.1, h1.2.1, (meetR_in (normR_can _) (normR_can _) n).2 ?_⟩
    rw [normR_in, normR_in]
    exact ⟨h1, h2⟩
theorem minusP_in (p q : Pst) {r : Nat} (hr : r < 16) (n : Int) : inP (minusP p q) r n ↔ inP p r n ∧ ¬ inP q r n := by
  unfold minusP
  rw [rows_in hr, ← inP_row p hr, ← inP_row q hr]
  unfold minusT
  constructor
  · rintro ⟨h1, h2, h3⟩
    exact (minusR_in _ _ n).1 h3
  · intro h
    exact ⟨h.1.1, h.1.2.1, (minusR_in _ _ n).2 h⟩
theorem canP_meet (p q : Pst) : CanP (meetP p q) := canP_of _ (by simp)
theorem canP_minus (p q : Pst) : CanP (minusP p q) := canP_of _ (by simp)
theorem size_join_meet (p q : Pst) : sizeP (joinP [p, q]) + sizeP (meetP p q) = sizeP p + sizeP q := by
  rw [sizeP_card, sizeP_card, sizeP_card, sizeP_card]
  have h := cardT_union (inP p) (inP q) 16
  have e1 : cardT (inP (joinP [p, q])) 16 = cardT (fun r n => inP p r n ∨ inP q r n) 16 := cardT_congr fun r hr n _ _ => by rw [joinP_in _ hr]; simp
  have e2 : cardT (inP (meetP p q)) 16 = cardT (fun r n => inP p r n ∧ inP q r n) 16 := cardT_congr fun r hr n _ _ => meetP_in p q hr n
  omega
theorem size_minus_meet (p q : Pst) : sizeP (minusP p q) + sizeP (meetP p q) = sizeP p := by
  rw [sizeP_card, sizeP_card, sizeP_card]
  have h := cardT_part (inP p) (inP q) 16
  have e1 : cardT (inP (minusP p q)) 16 = cardT (fun r n => inP p r n ∧ ¬ inP q r n) 16 := cardT_congr fun r hr n _ _ => minusP_in p q hr n
  have e2 : cardT (inP (meetP p q)) 16 = cardT (fun r n => inP p r n ∧ inP q r n) 16 := cardT_congr fun r hr n _ _ => meetP_in p q hr n
  omega
theorem same_ext {p q : Pst} (hp : CanP p) (hq : CanP q) (h : ∀ r, r < 16 → ∀ n, inP p r n ↔ inP q r n) : sameP p q = true := by
  rw [hp.ext hq h]
  exact sameP_true ⟨rfl, rfl⟩
theorem same_joinC (p q : Pst) : sameP (joinP [p, q]) (joinP [q, p]) = true := same_ext (canP_join _) (canP_join _) fun r hr n => by
  rw [joinP_in _ hr, joinP_in _ hr]; simp [or_comm]
theorem same_meetC (p q : Pst) : sameP (meetP p q) (meetP q p) = true := same_ext (canP_meet _ _) (canP_meet _ _) fun r hr n => by
  rw [meetP_in _ _ hr, meetP_in _ _ hr]; exact and_comm
theorem same_joinI (p : Pst) : sameP (joinP [p, p]) (normP p) = true := same_ext (canP_join _) (canP_norm _) fun r hr n => by
  rw [joinP_in _ hr, normP_in _ hr]; simp
theorem same_joinA (p q s : Pst) : sameP (joinP [joinP [p, q], s]) (joinP [p, joinP [q, s]]) = true := same_ext (canP_join _) (canP_join _) fun r hr n => by
  rw [joinP_in _ hr, joinP_in _ hr]; simp [joinP_in _ hr, or_assoc]
theorem same_join3 (p q s : Pst) : sameP (joinP [p, q, s]) (joinP [joinP [p, q], s]) = true := same_ext (canP_join _) (canP_join _) fun r hr n => by
  rw [joinP_in _ hr, joinP_in _ hr]; simp [joinP_in _ hr, or_assoc]
theorem within_join1 (p q : Pst) : withinP p (joinP [p, q]) = true := withinP_iff.2 fun r hr n h => by rw [joinP_in _ hr]; simp [h]
theorem within_join2 (p q : Pst) : withinP q (joinP [p, q]) = true := withinP_iff.2 fun r hr n h => by rw [joinP_in _ hr]; simp [h]
theorem within_meet1 (p q : Pst) : withinP (meetP p q) p = true := withinP_iff.2 fun r hr n h => ((meetP_in p q hr n).1 h).1
theorem within_meet2 (p q : Pst) : withinP (meetP p q) q = true := withinP_iff.2 fun r hr n h => ((meetP_in p q hr n).1 h).2
theorem within_join (p q s : Pst) (h1 : withinP p s = true) (h2 : withinP q s = true) : withinP (joinP [p, q]) s = true := withinP_iff.2 fun r hr n h => by
  rw [joinP_in _ hr] at h
  obtain ⟨x, hx, h⟩ := h
  simp at hx
  rcases hx with rfl | rfl
  · exact withinP_iff.1 h1 r hr n h
  · exact withinP_iff.1 h2 r hr n h
theorem size_apart (p q : Pst) : sizeP (meetP (meetP p q) (minusP p q)) = 0 := by
  rw [sizeP_card]
  have : cardT (inP (meetP (meetP p q) (minusP p q))) 16 = cardT (fun _ _ => False) 16 := cardT_congr fun r hr n _ _ => by
    rw [meetP_in _ _ hr, meetP_in _ _ hr, minusP_in _ _ hr]
    simp only [iff_false]
    rintro ⟨⟨_, h1⟩, _, h2⟩
    exact h2 h1
  have h0 : ∀ m, cardT (fun _ _ => False) m = 0 := fun m => by
    induction m with
    | zero => rfl
    | succ m ih =>
      show cardT (fun _ _ => False) m + card (fun _ => False) = 0
      have : card (fun _ => False) = 0 := by
        classical
        rw [card_def]
        exact List.countP_eq_zero.2 fun i _ => by simp
      omega
  rw [this, h0]
  rfl
theorem same_parts (p q : Pst) : sameP (joinP [meetP p q, minusP p q]) (normP p) = true := same_ext (canP_join _) (canP_norm _) fun r hr n => by
  rw [joinP_in _ hr, normP_in _ hr]
  simp only [List.mem_cons, List.not_mem_nil, or_false, exists_eq_or_imp, exists_eq_left, meetP_in _ _ hr, minusP_in _ _ hr]
  by_cases h : inP q r n <;> simp [h]
end Go.Proofs.Ytdmfjkhbodbgoaa.Avm

namespace Go.Proofs.Ytdmfjkhbodbgoaa.Avm
theorem sum_le3 (f a b : Nat → Nat) (c : Nat) (h : ∀ r, f r ≤ a r + b r + c) : ∀ m, ((List.range m).map f).sum ≤ ((List.range m).map a).sum + ((List.range m).map b).sum + m * c
  | 0 => by simp
  | m + 1 => by
    have ih := sum_le3 f a b c h m
    have := h m
    rw [List.range_succ, List.map_append, List.map_append, List.map_append, List.sum_append, List.sum_append, List.sum_append, Nat.succ_mul]
    simp only [List.map_cons, List.map_nil, List.sum_cons, List.sum_nil]
    omega
theorem rows_wt (p q : Pst) (h : Nat → List Rn) (c : Nat) (hh : ∀ r, (h r).length ≤ ((openT [p]).getD r []).length + ((openT [q]).getD r []).length + c) : wt (pastT ((List.range 16).map h)) ≤ 16 + wt p + wt q + 16 * c := by
  have h1 := pastT_tot (t := (List.range 16).map h) (by simp)
  have h2 := sum_le3 (fun r => (h r).length) (fun r => ((openT [p]).getD r []).length) (fun r => ((openT [q]).getD r []).length) c hh 16
  have h3 := range_getD (openT [p])
  have h4 := range_getD (openT [q])
  have h5 := tot_openT [p]
  have h6 := tot_openT [q]
  rw [(openT_le [p]).1] at h3
  rw [(openT_le [q]).1] at h4
  simp only [List.map_cons, List.map_nil, List.sum_cons, List.sum_nil] at h5 h6
  have h7 : tot ((List.range 16).map h) = ((List.range 16).map fun r => (h r).length).sum := by
    unfold tot
    rw [List.map_map]
    rfl
  omega
theorem meetP_wt (p q : Pst) : wt (meetP p q) ≤ 16 + wt p + wt q := by
  have := rows_wt p q (meetT p q) 0 fun r => by
    have h1 := meetR_len (normR ((openT [p]).getD r [])) (normR ((openT [q]).getD r []))
    have h2 := normR_len ((openT [p]).getD r [])
    have h3 := normR_len ((openT [q]).getD r [])
    unfold meetT
    omega
  unfold meetP
  omega
theorem minusP_wt (p q : Pst) : wt (minusP p q) ≤ 32 + wt p + wt q := by
  have := rows_wt p q (minusT p q) 1 fun r => minusR_len _ _
  unfold minusP
  omega
end Go.Proofs.Ytdmfjkhbodbgoaa.Avm

namespace Go.Proofs.Ytdmfjkhbodbgoaa.Avm
def NoCl (p : Pst) (r : Int) : Prop := ∀ s ∈ p.cloud, s.1 ≠ r
theorem noCl_in {p : Pst} {r : Nat} (hr : r < 16) (hno : NoCl p r) (n : Int) : inP p r n ↔ 1 ≤ n ∧ n ≤ lastP p (r : Int) := by
  have ht := lastP_top p hr
  constructor
  · intro h
    exact ⟨inP_pos h, ht.2 n h⟩
  · rintro ⟨h1, h2⟩
    rcases ht.1 with h0 | h0
    · omega
    · obtain ⟨_, a1, a2, a3⟩ := h0
      rcases a3 with ⟨a3, a4⟩ | ⟨s, hs, e, _⟩
      · exact ⟨hr, h1, by omega, .inl ⟨a3, by omega⟩⟩
      · exact absurd e (hno s hs)
theorem lastP_le {p : Pst} {r : Nat} (hr : r < 16) : lastP p (r : Int) ≤ 1000000000 := by
  rcases (lastP_top p hr).1 with h | h
  · omega
  · exact h.2.2.1
theorem can_lead {k : Int} (h1 : 1 ≤ k) (h2 : k ≤ 1000000000) : Can [(1, k)] :=
  Can.cons_iff.2 ⟨⟨by show (1 : Int) ≤ 1; omega, h1, h2⟩, by simp, Can.nil⟩
theorem noCl_of (t : Tab) {r : Nat} (hr : r < 16) {k : Int} (h1 : 1 ≤ k) (h2 : k ≤ 1000000000) (h : ∀ n, inT t r n ↔ 1 ≤ n ∧ n ≤ k) : NoCl (pastT t) r := by
  have hn : normR (t.getD r []) = [(1, k)] := Can.ext (normR_can _) (can_lead h1 h2) fun n => by
    rw [inR_one, normR_in]
    exact h n
  have hrest : restT t r = [] := by
    unfold restT
    rw [hn, leadOf_1 rfl]
  intro s hs e
  change s ∈ cloudT t 16 at hs
  unfold cloudT at hs
  rw [List.mem_flatMap] at hs
  obtain ⟨r', _, h'⟩ := hs
  unfold cloudRow at h'
  rw [List.mem_map] at h'
  obtain ⟨y, hy, rfl⟩ := h'
  have : r' = r := by
    have : ((r' : Nat) : Int) = (r : Int) := e
    omega
  subst this
  rw [hrest] at hy
  simp at hy
theorem noCl_put {p : Pst} {r : Nat} (hr : r < 16) (hno : NoCl p r) (hl : lastP p (r : Int) < 1000000000) : NoCl (putP p ((r : Int), lastP p (r : Int) + 1)) r := by
  have h0 := lastP_nonneg p (r : Int)
  refine noCl_of (openT [p, ofP [((r : Int), lastP p (r : Int) + 1)]]) hr (k := lastP p (r : Int) + 1) (by omega) (by omega) fun n => ?_
  rw [open_in hr]
  have h1 := putP_in p ((r : Int), lastP p (r : Int) + 1) hr n
  rw [show putP p ((r : Int), lastP p (r : Int) + 1) = joinP [p, ofP [((r : Int), lastP p (r : Int) + 1)]] from rfl, joinP_in _ hr] at h1
  rw [h1, noCl_in hr hno]
  constructor
  · rintro (h | ⟨a, b, c⟩)
    · omega
    · have := congrArg Prod.snd c
      simp only at this
      omega
  · intro h
    by_cases e : n = lastP p (r : Int) + 1
    · exact .inr ⟨by omega, by omega, by rw [e]⟩
    · exact .inl (by omega)
theorem last_put {p : Pst} {r : Nat} (hr : r < 16) (hl : lastP p (r : Int) < 1000000000) : lastP (putP p ((r : Int), lastP p (r : Int) + 1)) r = lastP p (r : Int) + 1 := by
  have h : nextOf (lastP p) (r : Int) 1000000000 = (((r : Int), lastP p (r : Int) + 1), 0) := nextOf_3 (by omega) (by omega)
  have := (next_ok p r 1000000000 (by rw [h])).2
  rw [h] at this
  exact this
theorem card_zero {q : Int → Prop} (h : ∀ n, ¬ q n) : card q = 0 := by
  classical
  rw [card_def]
  exact List.countP_eq_zero.2 fun i _ => by simp [h]
theorem card_one {k : Int} (h1 : 1 ≤ k) (h2 : k ≤ 1000000000) : card (fun n => n = k) = 1 := by
  have h := card_run h1 (Int.le_refl k) h2
  have : card (fun n => k ≤ n ∧ n ≤ k) = card (fun n => n = k) := card_congr fun n _ _ => by omega
  omega
theorem cardT_zero {q : Nat → Int → Prop} (h : ∀ r n, ¬ q r n) : ∀ m, cardT q m = 0
  | 0 => rfl
  | m + 1 => by
    show cardT q m + card (q m) = 0
    rw [cardT_zero h m, card_zero (h m)]
theorem cardT_one {r : Nat} {k : Int} (h1 : 1 ≤ k) (h2 : k ≤ 1000000000) : ∀ m, cardT (fun ρ n => ρ = r ∧ n = k) m = if r < m then 1 else 0
  | 0 => rfl
  | m + 1 => by
    show cardT (fun ρ n => ρ = r ∧ n = k) m + card (fun n => m = r ∧ n = k) = _
    rw [cardT_one h1 h2 m]
    by_cases e : m = r
    · have : card (fun n => m = r ∧ n = k) = card (fun n => n = k) := card_congr fun n _ _ => by simp [e]
      rw [this, card_one h1 h2, if_neg (by omega), if_pos (by omega)]
    · rw [card_zero fun n h => e h.1]
      by_cases hlt : r < m
      · rw [if_pos hlt, if_pos (by omega)]
      · rw [if_neg hlt, if_neg (by omega)]
theorem size_put (p : Pst) {r : Nat} (hr : r < 16) {k : Int} (h1 : 1 ≤ k) (h2 : k ≤ 1000000000) (hn : ¬ inP p r k) : sizeP (putP p ((r : Int), k)) = sizeP p + 1 := by
  rw [sizeP_card, sizeP_card]
  have e1 : cardT (inP (putP p ((r : Int), k))) 16 = cardT (fun ρ n => inP p ρ n ∨ (ρ = r ∧ n = k)) 16 := cardT_congr fun ρ hρ n a b => by
    rw [putP_in _ _ hρ]
    constructor
    · rintro (h | ⟨_, _, h⟩)
      · exact .inl h
      · have u := congrArg Prod.fst h
        have v := congrArg Prod.snd h
        simp only at u v
        exact .inr ⟨by omega, v⟩
    · rintro (h | ⟨u, v⟩)
      · exact .inl h
      · exact .inr ⟨a, b, by rw [u, v]⟩
  have e2 := cardT_union (inP p) (fun ρ n => ρ = r ∧ n = k) 16
  have e3 : cardT (fun ρ n => inP p ρ n ∧ (ρ = r ∧ n = k)) 16 = 0 := cardT_zero (fun ρ n h => hn (by obtain ⟨h, rfl, rfl⟩ := h; exact h)) 16
  have e4 := cardT_one (r := r) h1 h2 16
  rw [if_pos hr] at e4
  rw [e1]
  omega
theorem canP_put (p : Pst) (d : Rn) : CanP (putP p d) := canP_join _
theorem has_put (p : Pst) {r : Nat} (hr : r < 16) {k : Int} (h1 : 1 ≤ k) (h2 : k ≤ 1000000000) : hasP (putP p ((r : Int), k)) ((r : Int), k) = true := by
  rw [hasP_iff]
  refine ⟨by show (0 : Int) ≤ (r : Int); omega, ?_⟩
  show inP _ (r : Int).toNat k
  rw [Int.toNat_natCast, putP_in _ _ hr]
  exact .inr ⟨h1, h2, rfl⟩
theorem sizeP_bound (p : Pst) {W : Nat} (hw : wt p ≤ W) (hW : W ≤ 50000000) : 0 ≤ sizeP p ∧ sizeP p ≤ 16 * 1000000000 * (W : Int) := by
  have ht : TabLe (openT [p]) (wt p) := by simpa using openT_le [p]
  have := sizeTab_bound ht 16
  unfold sizeP
  omega
end Go.Proofs.Ytdmfjkhbodbgoaa.Avm

namespace Go.Proofs.Ytdmfjkhbodbgoaa.Avm
open Go.Proofs
def r_law04PastLattice_1 : List SOp :=
  [⟨(some 1), (.box 28 (.tmp 0)), none⟩, ⟨(some 2), (.assign (.const (.bool false))), none⟩]
instance : Live r_law04PastLattice_1 := ⟨[0]⟩
def r_law04PastLattice_2 : List SOp :=
  [⟨(some 10), (.call ⟨.value (.func 11), #[], #[]⟩), none⟩, ⟨(some 11), (.unOp .not 4 (.tmp 10)), none⟩]
instance : Live r_law04PastLattice_2 := ⟨[1]⟩
def r_law04PastLattice_3 : List SOp :=
  [⟨(some 2), (.assign (.const (.bool false))), none⟩]
instance : Live r_law04PastLattice_3 := ⟨[]⟩
def r_law04PastLattice_4 : List SOp :=
  [⟨(some 12), (.fieldAddr 28 (.tmp 1) 0), none⟩, ⟨(some 13), (.load 25 (.tmp 12)), none⟩, ⟨(some 14), (.fieldAddr 28 (.tmp 1) 1), none⟩, ⟨(some 15), (.load 25 (.tmp 14)), none⟩, ⟨(some 16), (.fieldAddr 28 (.tmp 1) 2), none⟩, ⟨(some 17), (.load 25 (.tmp 16)), none⟩, ⟨(some 3), (.alloc 25), none⟩, ⟨(some 4), (.alloc 25), none⟩, ⟨(some 5), (.alloc 25), none⟩, ⟨none, (.store 25 (.tmp 3) (.tmp 13)), none⟩, ⟨none, (.store 25 (.tmp 4) (.tmp 15)), none⟩, ⟨none, (.store 25 (.tmp 5) (.tmp 17)), none⟩]
instance : Live r_law04PastLattice_4 := ⟨[1]⟩
def r_law04PastLattice_5 : List SOp :=
  [⟨(some 18), (.load 25 (.tmp 3)), none⟩, ⟨(some 19), (.load 25 (.tmp 4)), none⟩, ⟨(some 20), (.buildSlice 51 2 #[(0, .tmp 18), (1, .tmp 19)]), none⟩, ⟨(some 21), (.call ⟨.value (.func 20), #[.tmp 20], #[51]⟩), none⟩, ⟨(some 22), (.load 25 (.tmp 3)), none⟩, ⟨(some 23), (.load 25 (.tmp 4)), none⟩, ⟨(some 24), (.call ⟨.value (.func 21), #[.tmp 22, .tmp 23], #[25, 25]⟩), none⟩, ⟨(some 25), (.load 25 (.tmp 3)), none⟩, ⟨(some 26), (.load 25 (.tmp 4)), none⟩, ⟨(some 27), (.call ⟨.value (.func 22), #[.tmp 25, .tmp 26], #[25, 25]⟩), none⟩, ⟨(some 6), (.alloc 25), none⟩, ⟨(some 7), (.alloc 25), none⟩, ⟨(some 8), (.alloc 25), none⟩, ⟨none, (.store 25 (.tmp 6) (.tmp 21)), none⟩, ⟨none, (.store 25 (.tmp 7) (.tmp 24)), none⟩, ⟨none, (.store 25 (.tmp 8) (.tmp 27)), none⟩]
instance : Live r_law04PastLattice_5 := ⟨[3, 4, 5]⟩
def r_law04PastLattice_6 : List SOp :=
  [⟨(some 28), (.load 25 (.tmp 6)), none⟩, ⟨(some 29), (.load 25 (.tmp 4)), none⟩, ⟨(some 30), (.load 25 (.tmp 3)), none⟩, ⟨(some 31), (.buildSlice 51 2 #[(0, .tmp 29), (1, .tmp 30)]), none⟩, ⟨(some 32), (.call ⟨.value (.func 20), #[.tmp 31], #[51]⟩), none⟩, ⟨(some 33), (.call ⟨.value (.func 23), #[.tmp 28, .tmp 32], #[25, 25]⟩), none⟩, ⟨(some 34), (.unOp .not 4 (.tmp 33)), none⟩, ⟨(some 35), (.move (.tmp 34)), none⟩, ⟨(some 36), (.load 25 (.tmp 7)), (some ((some 35), false))⟩, ⟨(some 37), (.load 25 (.tmp 4)), (some ((some 35), false))⟩, ⟨(some 38), (.load 25 (.tmp 3)), (some ((some 35), false))⟩, ⟨(some 39), (.call ⟨.value (.func 21), #[.tmp 37, .tmp 38], #[25, 25]⟩), (some ((some 35), false))⟩, ⟨(some 40), (.call ⟨.value (.func 23), #[.tmp 36, .tmp 39], #[25, 25]⟩), (some ((some 35), false))⟩, ⟨(some 41), (.unOp .not 4 (.tmp 40)), (some ((some 35), false))⟩, ⟨(some 42), (.pick (.tmp 35) (.const (.bool true)) (.tmp 41)), none⟩, ⟨(some 43), (.move (.tmp 42)), none⟩, ⟨(some 44), (.load 25 (.tmp 3)), (some ((some 43), false))⟩, ⟨(some 45), (.load 25 (.tmp 3)), (some ((some 43), false))⟩, ⟨(some 46), (.buildSlice 51 2 #[(0, .tmp 44), (1, .tmp 45)]), (some ((some 43), false))⟩, ⟨(some 47), (.call ⟨.value (.func 20), #[.tmp 46], #[51]⟩), (some ((some 43), false))⟩, ⟨(some 48), (.load 25 (.tmp 3)), (some ((some 43), false))⟩, ⟨(some 49), (.call ⟨.value (.func 17), #[.tmp 48], #[25]⟩), (some ((some 43), false))⟩, ⟨(some 50), (.call ⟨.value (.func 23), #[.tmp 47, .tmp 49], #[25, 25]⟩), (some ((some 43), false))⟩, ⟨(some 51), (.unOp .not 4 (.tmp 50)), (some ((some 43), false))⟩, ⟨(some 52), (.pick (.tmp 43) (.const (.bool true)) (.tmp 51)), none⟩]
instance : Live r_law04PastLattice_6 := ⟨[3, 4, 5, 6, 7, 8]⟩
def r_law04PastLattice_7 : List SOp :=
  [⟨(some 2), (.assign (.const (.bool false))), none⟩]
instance : Live r_law04PastLattice_7 := ⟨[]⟩
def r_law04PastLattice_8 : List SOp :=
  [⟨(some 53), (.load 25 (.tmp 6)), none⟩, ⟨(some 54), (.load 25 (.tmp 5)), none⟩, ⟨(some 55), (.buildSlice 51 2 #[(0, .tmp 53), (1, .tmp 54)]), none⟩, ⟨(some 56), (.call ⟨.value (.func 20), #[.tmp 55], #[51]⟩), none⟩, ⟨(some 57), (.load 25 (.tmp 3)), none⟩, ⟨(some 58), (.load 25 (.tmp 4)), none⟩, ⟨(some 59), (.load 25 (.tmp 5)), none⟩, ⟨(some 60), (.buildSlice 51 2 #[(0, .tmp 58), (1, .tmp 59)]), none⟩, ⟨(some 61), (.call ⟨.value (.func 20), #[.tmp 60], #[51]⟩), none⟩, ⟨(some 62), (.buildSlice 51 2 #[(0, .tmp 57), (1, .tmp 61)]), none⟩, ⟨(some 63), (.call ⟨.value (.func 20), #[.tmp 62], #[51]⟩), none⟩, ⟨(some 64), (.call ⟨.value (.func 23), #[.tmp 56, .tmp 63], #[25, 25]⟩), none⟩, ⟨(some 65), (.unOp .not 4 (.tmp 64)), none⟩, ⟨(some 66), (.move (.tmp 65)), none⟩, ⟨(some 67), (.load 25 (.tmp 3)), (some ((some 66), false))⟩, ⟨(some 68), (.load 25 (.tmp 4)), (some ((some 66), false))⟩, ⟨(some 69), (.load 25 (.tmp 5)), (some ((some 66), false))⟩, ⟨(some 70), (.buildSlice 51 3 #[(0, .tmp 67), (1, .tmp 68), (2, .tmp 69)]), (some ((some 66), false))⟩, ⟨(some 71), (.call ⟨.value (.func 20), #[.tmp 70], #[51]⟩), (some ((some 66), false))⟩, ⟨(some 72), (.load 25 (.tmp 6)), (some ((some 66), false))⟩, ⟨(some 73), (.load 25 (.tmp 5)), (some ((some 66), false))⟩, ⟨(some 74), (.buildSlice 51 2 #[(0, .tmp 72), (1, .tmp 73)]), (some ((some 66), false))⟩, ⟨(some 75), (.call ⟨.value (.func 20), #[.tmp 74], #[51]⟩), (some ((some 66), false))⟩, ⟨(some 76), (.call ⟨.value (.func 23), #[.tmp 71, .tmp 75], #[25, 25]⟩), (some ((some 66), false))⟩, ⟨(some 77), (.unOp .not 4 (.tmp 76)), (some ((some 66), false))⟩, ⟨(some 78), (.pick (.tmp 66) (.const (.bool true)) (.tmp 77)), none⟩]
instance : Live r_law04PastLattice_8 := ⟨[3, 4, 5, 6, 7, 8]⟩
def r_law04PastLattice_9 : List SOp :=
  [⟨(some 2), (.assign (.const (.bool false))), none⟩]
instance : Live r_law04PastLattice_9 := ⟨[]⟩
def r_law04PastLattice_10 : List SOp :=
  [⟨(some 79), (.load 25 (.tmp 3)), none⟩, ⟨(some 80), (.load 25 (.tmp 6)), none⟩, ⟨(some 81), (.call ⟨.value (.func 24), #[.tmp 79, .tmp 80], #[25, 25]⟩), none⟩, ⟨(some 82), (.unOp .not 4 (.tmp 81)), none⟩, ⟨(some 83), (.move (.tmp 82)), none⟩, ⟨(some 84), (.load 25 (.tmp 4)), (some ((some 83), false))⟩, ⟨(some 85), (.load 25 (.tmp 6)), (some ((some 83), false))⟩, ⟨(some 86), (.call ⟨.value (.func 24), #[.tmp 84, .tmp 85], #[25, 25]⟩), (some ((some 83), false))⟩, ⟨(some 87), (.unOp .not 4 (.tmp 86)), (some ((some 83), false))⟩, ⟨(some 88), (.pick (.tmp 83) (.const (.bool true)) (.tmp 87)), none⟩, ⟨(some 89), (.move (.tmp 88)), none⟩, ⟨(some 90), (.load 25 (.tmp 7)), (some ((some 89), false))⟩, ⟨(some 91), (.load 25 (.tmp 3)), (some ((some 89), false))⟩, ⟨(some 92), (.call ⟨.value (.func 24), #[.tmp 90, .tmp 91], #[25, 25]⟩), (some ((some 89), false))⟩, ⟨(some 93), (.unOp .not 4 (.tmp 92)), (some ((some 89), false))⟩, ⟨(some 94), (.pick (.tmp 89) (.const (.bool true)) (.tmp 93)), none⟩, ⟨(some 95), (.move (.tmp 94)), none⟩, ⟨(some 96), (.load 25 (.tmp 7)), (some ((some 95), false))⟩, ⟨(some 97), (.load 25 (.tmp 4)), (some ((some 95), false))⟩, ⟨(some 98), (.call ⟨.value (.func 24), #[.tmp 96, .tmp 97], #[25, 25]⟩), (some ((some 95), false))⟩, ⟨(some 99), (.unOp .not 4 (.tmp 98)), (some ((some 95), false))⟩, ⟨(some 100), (.pick (.tmp 95) (.const (.bool true)) (.tmp 99)), none⟩]
instance : Live r_law04PastLattice_10 := ⟨[3, 4, 5, 6, 7, 8]⟩
def r_law04PastLattice_11 : List SOp :=
  [⟨(some 2), (.assign (.const (.bool false))), none⟩]
instance : Live r_law04PastLattice_11 := ⟨[]⟩
def r_law04PastLattice_12 : List SOp :=
  [⟨(some 101), (.load 25 (.tmp 3)), none⟩, ⟨(some 102), (.load 25 (.tmp 5)), none⟩, ⟨(some 103), (.call ⟨.value (.func 24), #[.tmp 101, .tmp 102], #[25, 25]⟩), none⟩, ⟨(some 104), (.move (.tmp 103)), none⟩, ⟨(some 105), (.load 25 (.tmp 4)), (some ((some 104), true))⟩, ⟨(some 106), (.load 25 (.tmp 5)), (some ((some 104), true))⟩, ⟨(some 107), (.call ⟨.value (.func 24), #[.tmp 105, .tmp 106], #[25, 25]⟩), (some ((some 104), true))⟩, ⟨(some 108), (.pick (.tmp 104) (.tmp 107) (.const (.bool false))), none⟩, ⟨(some 109), (.move (.tmp 108)), none⟩, ⟨(some 110), (.load 25 (.tmp 6)), (some ((some 109), true))⟩, ⟨(some 111), (.load 25 (.tmp 5)), (some ((some 109), true))⟩, ⟨(some 112), (.call ⟨.value (.func 24), #[.tmp 110, .tmp 111], #[25, 25]⟩), (some ((some 109), true))⟩, ⟨(some 113), (.unOp .not 4 (.tmp 112)), (some ((some 109), true))⟩, ⟨(some 114), (.pick (.tmp 109) (.tmp 113) (.const (.bool false))), none⟩]
instance : Live r_law04PastLattice_12 := ⟨[3, 4, 5, 6, 7, 8]⟩
def r_law04PastLattice_13 : List SOp :=
  [⟨(some 2), (.assign (.const (.bool false))), none⟩]
instance : Live r_law04PastLattice_13 := ⟨[]⟩
def r_law04PastLattice_14 : List SOp :=
  [⟨(some 115), (.load 25 (.tmp 7)), none⟩, ⟨(some 116), (.load 25 (.tmp 8)), none⟩, ⟨(some 117), (.call ⟨.value (.func 21), #[.tmp 115, .tmp 116], #[25, 25]⟩), none⟩, ⟨(some 118), (.call ⟨.value (.func 25), #[.tmp 117], #[25]⟩), none⟩, ⟨(some 119), (.unOp .not 4 (.tmp 118)), none⟩, ⟨(some 120), (.move (.tmp 119)), none⟩, ⟨(some 121), (.load 25 (.tmp 7)), (some ((some 120), false))⟩, ⟨(some 122), (.load 25 (.tmp 8)), (some ((some 120), false))⟩, ⟨(some 123), (.buildSlice 51 2 #[(0, .tmp 121), (1, .tmp 122)]), (some ((some 120), false))⟩, ⟨(some 124), (.call ⟨.value (.func 20), #[.tmp 123], #[51]⟩), (some ((some 120), false))⟩, ⟨(some 125), (.load 25 (.tmp 3)), (some ((some 120), false))⟩, ⟨(some 126), (.call ⟨.value (.func 17), #[.tmp 125], #[25]⟩), (some ((some 120), false))⟩, ⟨(some 127), (.call ⟨.value (.func 23), #[.tmp 124, .tmp 126], #[25, 25]⟩), (some ((some 120), false))⟩, ⟨(some 128), (.unOp .not 4 (.tmp 127)), (some ((some 120), false))⟩, ⟨(some 129), (.pick (.tmp 120) (.const (.bool true)) (.tmp 128)), none⟩]
instance : Live r_law04PastLattice_14 := ⟨[3, 4, 6, 7, 8]⟩
def r_law04PastLattice_15 : List SOp :=
  [⟨(some 2), (.assign (.const (.bool false))), none⟩]
instance : Live r_law04PastLattice_15 := ⟨[]⟩
def r_law04PastLattice_16 : List SOp :=
  [⟨(some 130), (.load 25 (.tmp 6)), none⟩, ⟨(some 131), (.call ⟨.value (.func 18), #[.tmp 130], #[25]⟩), none⟩, ⟨(some 132), (.load 25 (.tmp 7)), none⟩, ⟨(some 133), (.call ⟨.value (.func 18), #[.tmp 132], #[25]⟩), none⟩, ⟨(some 134), (.binOp .add 3 (.tmp 131) (.tmp 133) 3), none⟩, ⟨(some 135), (.load 25 (.tmp 3)), none⟩, ⟨(some 136), (.call ⟨.value (.func 18), #[.tmp 135], #[25]⟩), none⟩, ⟨(some 137), (.load 25 (.tmp 4)), none⟩, ⟨(some 138), (.call ⟨.value (.func 18), #[.tmp 137], #[25]⟩), none⟩, ⟨(some 139), (.binOp .add 3 (.tmp 136) (.tmp 138) 3), none⟩, ⟨(some 140), (.binOp .neq 3 (.tmp 134) (.tmp 139) 3), none⟩, ⟨(some 141), (.move (.tmp 140)), none⟩, ⟨(some 142), (.load 25 (.tmp 8)), (some ((some 141), false))⟩, ⟨(some 143), (.call ⟨.value (.func 18), #[.tmp 142], #[25]⟩), (some ((some 141), false))⟩, ⟨(some 144), (.load 25 (.tmp 7)), (some ((some 141), false))⟩, ⟨(some 145), (.call ⟨.value (.func 18), #[.tmp 144], #[25]⟩), (some ((some 141), false))⟩, ⟨(some 146), (.binOp .add 3 (.tmp 143) (.tmp 145) 3), (some ((some 141), false))⟩, ⟨(some 147), (.load 25 (.tmp 3)), (some ((some 141), false))⟩, ⟨(some 148), (.call ⟨.value (.func 18), #[.tmp 147], #[25]⟩), (some ((some 141), false))⟩, ⟨(some 149), (.binOp .neq 3 (.tmp 146) (.tmp 148) 3), (some ((some 141), false))⟩, ⟨(some 150), (.pick (.tmp 141) (.const (.bool true)) (.tmp 149)), none⟩]
instance : Live r_law04PastLattice_16 := ⟨[3, 4, 6, 7, 8]⟩
def r_law04PastLattice_17 : List SOp :=
  [⟨(some 2), (.assign (.const (.bool false))), none⟩]
instance : Live r_law04PastLattice_17 := ⟨[]⟩
def r_law04PastLattice_18 : List SOp :=
  [⟨(some 151), (.load 25 (.tmp 3)), none⟩, ⟨(some 152), (.load 25 (.tmp 4)), none⟩, ⟨(some 153), (.call ⟨.value (.func 26), #[.tmp 151, .tmp 152], #[25, 25]⟩), none⟩, ⟨(some 9), (.assign (.tmp 153)), none⟩]
instance : Live r_law04PastLattice_18 := ⟨[3, 4]⟩
def r_law04PastLattice_19 : List SOp :=
  [⟨(some 154), (.load 25 (.tmp 3)), none⟩, ⟨(some 155), (.load 25 (.tmp 4)), none⟩, ⟨(some 156), (.call ⟨.value (.func 24), #[.tmp 154, .tmp 155], #[25, 25]⟩), none⟩, ⟨(some 157), (.move (.tmp 9)), none⟩, ⟨(some 158), (.binOp .eql 3 (.tmp 157) (.const (.int .i64 0)) 3), none⟩, ⟨(some 159), (.move (.tmp 158)), none⟩, ⟨(some 160), (.move (.tmp 9)), (some ((some 159), false))⟩, ⟨(some 161), (.binOp .eql 3 (.tmp 160) (.const (.int .i64 1)) 3), (some ((some 159), false))⟩, ⟨(some 162), (.pick (.tmp 159) (.const (.bool true)) (.tmp 161)), none⟩, ⟨(some 163), (.binOp .eql 4 (.tmp 156) (.tmp 162) 4), none⟩, ⟨(some 164), (.move (.tmp 163)), none⟩, ⟨(some 165), (.load 25 (.tmp 4)), (some ((some 164), true))⟩, ⟨(some 166), (.load 25 (.tmp 3)), (some ((some 164), true))⟩, ⟨(some 167), (.call ⟨.value (.func 24), #[.tmp 165, .tmp 166], #[25, 25]⟩), (some ((some 164), true))⟩, ⟨(some 168), (.move (.tmp 9)), (some ((some 164), true))⟩, ⟨(some 169), (.binOp .eql 3 (.tmp 168) (.const (.int .i64 0)) 3), (some ((some 164), true))⟩, ⟨(some 170), (.move (.tmp 169)), (some ((some 164), true))⟩, ⟨(some 171), (.move (.tmp 9)), (some ((some 170), false))⟩, ⟨(some 172), (.binOp .eql 3 (.tmp 171) (.const (.int .i64 2)) 3), (some ((some 170), false))⟩, ⟨(some 173), (.pick (.tmp 170) (.const (.bool true)) (.tmp 172)), (some ((some 164), true))⟩, ⟨(some 174), (.binOp .eql 4 (.tmp 167) (.tmp 173) 4), (some ((some 164), true))⟩, ⟨(some 175), (.pick (.tmp 164) (.tmp 174) (.const (.bool false))), none⟩, ⟨(some 176), (.move (.tmp 175)), none⟩, ⟨(some 177), (.move (.tmp 9)), (some ((some 176), true))⟩, ⟨(some 178), (.binOp .eql 3 (.tmp 177) (.const (.int .i64 0)) 3), (some ((some 176), true))⟩, ⟨(some 179), (.load 25 (.tmp 3)), (some ((some 176), true))⟩, ⟨(some 180), (.call ⟨.value (.func 17), #[.tmp 179], #[25]⟩), (some ((some 176), true))⟩, ⟨(some 181), (.load 25 (.tmp 4)), (some ((some 176), true))⟩, ⟨(some 182), (.call ⟨.value (.func 17), #[.tmp 181], #[25]⟩), (some ((some 176), true))⟩, ⟨(some 183), (.call ⟨.value (.func 23), #[.tmp 180, .tmp 182], #[25, 25]⟩), (some ((some 176), true))⟩, ⟨(some 184), (.binOp .eql 4 (.tmp 178) (.tmp 183) 4), (some ((some 176), true))⟩, ⟨(some 185), (.pick (.tmp 176) (.tmp 184) (.const (.bool false))), none⟩, ⟨(some 2), (.assign (.tmp 185)), none⟩]
instance : Live r_law04PastLattice_19 := ⟨[3, 4, 9]⟩
def t_law04PastLattice : SC :=
  (.seq (.ops false r_law04PastLattice_1) (.seq (.seq (.ops false r_law04PastLattice_2) (.cond (.tmp 11) (.seq (.ops false r_law04PastLattice_3) .ret) .skip)) (.seq (.opsW [] r_law04PastLattice_4) (.seq (.opsW [] r_law04PastLattice_5) (.seq (.seq (.ops true r_law04PastLattice_6) (.cond (.tmp 52) (.seq (.ops false r_law04PastLattice_7) .ret) .skip)) (.seq (.seq (.ops true r_law04PastLattice_8) (.cond (.tmp 78) (.seq (.ops false r_law04PastLattice_9) .ret) .skip)) (.seq (.seq (.ops false r_law04PastLattice_10) (.cond (.tmp 100) (.seq (.ops false r_law04PastLattice_11) .ret) .skip)) (.seq (.seq (.ops false r_law04PastLattice_12) (.cond (.tmp 114) (.seq (.ops false r_law04PastLattice_13) .ret) .skip)) (.seq (.seq (.ops true r_law04PastLattice_14) (.cond (.tmp 129) (.seq (.ops false r_law04PastLattice_15) .ret) .skip)) (.seq (.seq (.ops true r_law04PastLattice_16) (.cond (.tmp 150) (.seq (.ops false r_law04PastLattice_17) .ret) .skip)) (.seq (.ops false r_law04PastLattice_18) (.seq (.ops true r_law04PastLattice_19) .ret))))))))))))
theorem it_law04PastLattice : FnIs Try.prog 5 186 [.tmp 2] t_law04PastLattice := ⟨Try.f5, _, Try.func5, rfl, rfl, rfl, rfl, by kernel_rfl⟩
end Go.Proofs.Ytdmfjkhbodbgoaa.Avm

namespace Go.Proofs.Ytdmfjkhbodbgoaa.Avm
open Go.Proofs
theorem same_within (p q : Pst) : sameP (normP p) (normP q) = (withinP p q && withinP q p) := by
  cases h : withinP p q && withinP q p with
  | true =>
    rw [Bool.and_eq_true] at h
    exact same_ext (canP_norm _) (canP_norm _) fun r hr n => by
      rw [normP_in _ hr, normP_in _ hr]
      exact ⟨withinP_iff.1 h.1 r hr n, withinP_iff.1 h.2 r hr n⟩
  | false =>
    refine sameP_false fun e => ?_
    have hn : normP p = normP q := by
      have : ∀ a b : Pst, a.vec = b.vec → a.cloud = b.cloud → a = b := fun a b u v => by cases a; cases b; simp at u v; rw [u, v]
      exact this _ _ e.1 e.2
    have h1 : withinP p q = true := withinP_iff.2 fun r hr n hh => (inP_iff_norm hn hr n).1 hh
    have h2 : withinP q p = true := withinP_iff.2 fun r hr n hh => (inP_iff_norm hn hr n).2 hh
    rw [h1, h2] at h
    simp at h
theorem ev_law04PastLattice (x : Cas) (hw : wt x.a + wt x.b + wt x.c ≤ 1100000) : Ev (En Try.prog rfl).P 5 [encC x] (.ret (.bool true)) := by
  refine Ev.of_body it_law04PastLattice (by simp) (Run.start ?_)
  unfold t_law04PastLattice encC
  have hcs : stbs [AVal.sl 1 (encIs x.a.vec), .sl 3 (encSs x.a.cloud), .sl 1 (encIs x.b.vec), .sl 3 (encSs x.b.cloud), .sl 1 (encIs x.c.vec), .sl 3 (encSs x.c.cloud), .sl 2 (encRs x.ds), .int .i64 x.rep, .int .i64 x.most] = true := by simp [stbs, AVal.stb, encIs_stb, encSs_stb, encRs_stb]
  have jab := ev_pastJoin [x.a, x.b] (by simp) (by simp; omega)
  have mab := ev_pastMeet x.a x.b (by omega) (by omega)
  have nab := ev_pastMinus x.a x.b (by omega) (by omega)
  have wj := joinP_wt [x.a, x.b]
  have wj2 := joinP_wt [x.b, x.c]
  have wm := meetP_wt x.a x.b
  have wn := minusP_wt x.a x.b
  simp only [List.map_cons, List.map_nil, List.sum_cons, List.sum_nil] at wj wj2
  have jba := ev_pastJoin [x.b, x.a] (by simp) (by simp; omega)
  have mba := ev_pastMeet x.b x.a (by omega) (by omega)
  have jaa := ev_pastJoin [x.a, x.a] (by simp) (by simp; omega)
  have na := ev_pastNorm x.a (by omega)
  have jjc := ev_pastJoin [joinP [x.a, x.b], x.c] (by simp) (by simp; omega)
  have jbc := ev_pastJoin [x.b, x.c] (by simp) (by simp; omega)
  have jajbc := ev_pastJoin [x.a, joinP [x.b, x.c]] (by simp) (by simp; omega)
  have j3 := ev_pastJoin [x.a, x.b, x.c] (by simp) (by simp; omega)
  have wl : ∀ q : Pst, wt q ≤ 90000000 → q.vec.length ≤ 1000000000 ∧ q.cloud.length ≤ 1000000000 := fun q h => by unfold wt at h; omega
  have wjb := joinP_wt [joinP [x.a, x.b], x.c]
  have wj3 := joinP_wt [x.a, x.b, x.c]
  have wna := normP_wt x.a
  have waa := joinP_wt [x.a, x.a]
  simp only [List.map_cons, List.map_nil, List.sum_cons, List.sum_nil] at wjb wj3 waa
  have s1 := ev_ref04Same (joinP [x.a, x.b]) (joinP [x.b, x.a]) (wl _ (by omega)).1 (wl _ (by omega)).2
  have s2 := ev_ref04Same (meetP x.a x.b) (meetP x.b x.a) (wl _ (by omega)).1 (wl _ (by omega)).2
  have s3 := ev_ref04Same (joinP [x.a, x.a]) (normP x.a) (wl _ (by omega)).1 (wl _ (by omega)).2
  have s4 := ev_ref04Same (joinP [joinP [x.a, x.b], x.c]) (joinP [x.a, joinP [x.b, x.c]]) (wl _ (by omega)).1 (wl _ (by omega)).2
  have s5 := ev_ref04Same (joinP [x.a, x.b, x.c]) (joinP [joinP [x.a, x.b], x.c]) (wl _ (by omega)).1 (wl _ (by omega)).2
  rw [same_joinC] at s1
  rw [same_meetC] at s2
  rw [same_joinI] at s3
  rw [same_joinA] at s4
  rw [same_join3] at s5
  have i1 := ev_pastWithin x.a (joinP [x.a, x.b]) (by omega) (by omega)
  have i2 := ev_pastWithin x.b (joinP [x.a, x.b]) (by omega) (by omega)
  have i3 := ev_pastWithin (meetP x.a x.b) x.a (by omega) (by omega)
  have i4 := ev_pastWithin (meetP x.a x.b) x.b (by omega) (by omega)
  rw [within_join1] at i1
  rw [within_join2] at i2
  rw [within_meet1] at i3
  rw [within_meet2] at i4
  have w1 := ev_pastWithin x.a x.c (by omega) (by omega)
  have w2 := ev_pastWithin x.b x.c (by omega) (by omega)
  have w3 := ev_pastWithin (joinP [x.a, x.b]) x.c (by omega) (by omega)
  have hj := within_join x.a x.b x.c
  generalize withinP x.a x.c = b1 at w1 hj
  generalize withinP x.b x.c = b2 at w2 hj
  generalize withinP (joinP [x.a, x.b]) x.c = b3 at w3 hj
  have wmm := meetP_wt (meetP x.a x.b) (minusP x.a x.b)
  have m2 := ev_pastMeet (meetP x.a x.b) (minusP x.a x.b) (by omega) (by omega)
  have em := ev_pastEmpty (meetP (meetP x.a x.b) (minusP x.a x.b)) (by omega)
  rw [size_apart] at em
  have jmm := ev_pastJoin [meetP x.a x.b, minusP x.a x.b] (by simp) (by simp; omega)
  have wjm := joinP_wt [meetP x.a x.b, minusP x.a x.b]
  simp only [List.map_cons, List.map_nil, List.sum_cons, List.sum_nil] at wjm
  have s6 := ev_ref04Same (joinP [meetP x.a x.b, minusP x.a x.b]) (normP x.a) (wl _ (by omega)).1 (wl _ (by omega)).2
  rw [same_parts] at s6
  have zj := ev_pastSize (joinP [x.a, x.b]) (by omega)
  have zm := ev_pastSize (meetP x.a x.b) (by omega)
  have zn := ev_pastSize (minusP x.a x.b) (by omega)
  have za := ev_pastSize x.a (by omega)
  have zb := ev_pastSize x.b (by omega)
  have q1 := sizeP_bound (joinP [x.a, x.b]) (W := 50000000) (by omega) (by omega)
  have q2 := sizeP_bound (meetP x.a x.b) (W := 50000000) (by omega) (by omega)
  have q3 := sizeP_bound (minusP x.a x.b) (W := 50000000) (by omega) (by omega)
  have q4 := sizeP_bound x.a (W := 50000000) (by omega) (by omega)
  have q5 := sizeP_bound x.b (W := 50000000) (by omega) (by omega)
  have q6 := size_join_meet x.a x.b
  have q7 := size_minus_meet x.a x.b
  generalize sizeP (joinP [x.a, x.b]) = vj at zj q1 q6
  generalize sizeP (meetP x.a x.b) = vm at zm q2 q6 q7
  generalize sizeP (minusP x.a x.b) = vn at zn q3 q7
  generalize sizeP x.a = va at za q4 q6 q7
  generalize sizeP x.b = vb at zb q5 q6
  have ord := ev_pastOrder x.a x.b (by omega) (by omega)
  have iab := ev_pastWithin x.a x.b (by omega) (by omega)
  have iba := ev_pastWithin x.b x.a (by omega) (by omega)
  have nb := ev_pastNorm x.b (by omega)
  have wnb := normP_wt x.b
  have s7 := ev_ref04Same (normP x.a) (normP x.b) (wl _ (by omega)).1 (wl _ (by omega)).2
  rw [same_within] at s7
  unfold orderP at ord
  generalize withinP x.a x.b = d1 at ord iab s7
  generalize withinP x.b x.a = d2 at ord iba s7
  (focus (have hF := True.intro; (repeat' (first | (with_reducible refine Nx.of ?_) | ((with_reducible apply toV); refine stV (k := ?_)) | ((with_reducible apply toG); refine stG (k := ?_)) | ((with_reducible apply toG0); refine stG0 (k := ?_)) | ((with_reducible apply toC); refine stC (k := ?_)) | ((with_reducible apply toO); refine stO (k := ?_)) | ((with_reducible apply toX); refine stX (k := ?_)) | (with_reducible refine Ny.of ?_ ?_) | (refine Hyp.of ?_; intro hc; (try simp only [hc]); (try simp only [Bh] at hc)) | fail)); (all_goals clear hF)))
  refine stCall [] (he := ev_law04fixed) (k := ?_)
  (focus (have hF := True.intro; (repeat' (first | (with_reducible refine Nx.of ?_) | ((with_reducible apply toV); refine stV (k := ?_)) | ((with_reducible apply toG); refine stG (k := ?_)) | ((with_reducible apply toG0); refine stG0 (k := ?_)) | ((with_reducible apply toC); refine stC (k := ?_)) | ((with_reducible apply toO); refine stO (k := ?_)) | ((with_reducible apply toX); refine stX (k := ?_)) | (with_reducible refine Ny.of ?_ ?_) | (refine Hyp.of ?_; intro hc; (try simp only [hc]); (try simp only [Bh] at hc)) | fail)); (all_goals clear hF)))
  ((with_reducible apply toW); refine stW (fun j => j == 1) (k := ?_))
  (focus (have hF := @hcs; (repeat' (first | (with_reducible refine Nx.of ?_) | ((with_reducible apply toV); refine stV (k := ?_)) | ((with_reducible apply toG); refine stG (k := ?_)) | ((with_reducible apply toG0); refine stG0 (k := ?_)) | ((with_reducible apply toC); refine stC (k := ?_)) | ((with_reducible apply toO); refine stO (k := ?_)) | ((with_reducible apply toX); refine stX (k := ?_)) | (with_reducible refine Ny.of ?_ ?_) | (refine Hyp.of ?_; intro hc; (try simp only [hc]); (try simp only [Bh] at hc)) | fail)); (all_goals clear hF)))
  ((with_reducible apply toW); refine stW (fun j => j == 3 || j == 4) (k := ?_))
  (focus (have hF := @hcs; (repeat' (first | (with_reducible refine Nx.of ?_) | ((with_reducible apply toV); refine stV (k := ?_)) | ((with_reducible apply toG); refine stG (k := ?_)) | ((with_reducible apply toG0); refine stG0 (k := ?_)) | ((with_reducible apply toC); refine stC (k := ?_)) | ((with_reducible apply toO); refine stO (k := ?_)) | ((with_reducible apply toX); refine stX (k := ?_)) | (with_reducible refine Ny.of ?_ ?_) | (refine Hyp.of ?_; intro hc; (try simp only [hc]); (try simp only [Bh] at hc)) | fail)); (all_goals clear hF)))
  refine stCall [.sl 2 (encPs [x.a, x.b])] (he := jab) (k := ?_)
  (focus (have hF := @hcs; (repeat' (first | (with_reducible refine Nx.of ?_) | ((with_reducible apply toV); refine stV (k := ?_)) | ((with_reducible apply toG); refine stG (k := ?_)) | ((with_reducible apply toG0); refine stG0 (k := ?_)) | ((with_reducible apply toC); refine stC (k := ?_)) | ((with_reducible apply toO); refine stO (k := ?_)) | ((with_reducible apply toX); refine stX (k := ?_)) | (with_reducible refine Ny.of ?_ ?_) | (refine Hyp.of ?_; intro hc; (try simp only [hc]); (try simp only [Bh] at hc)) | fail)); (all_goals clear hF)))
  refine stCall [encP x.a, encP x.b] (he := mab) (k := ?_)
  (focus (have hF := @hcs; (repeat' (first | (with_reducible refine Nx.of ?_) | ((with_reducible apply toV); refine stV (k := ?_)) | ((with_reducible apply toG); refine stG (k := ?_)) | ((with_reducible apply toG0); refine stG0 (k := ?_)) | ((with_reducible apply toC); refine stC (k := ?_)) | ((with_reducible apply toO); refine stO (k := ?_)) | ((with_reducible apply toX); refine stX (k := ?_)) | (with_reducible refine Ny.of ?_ ?_) | (refine Hyp.of ?_; intro hc; (try simp only [hc]); (try simp only [Bh] at hc)) | fail)); (all_goals clear hF)))
  refine stCall [encP x.a, encP x.b] (he := nab) (k := ?_)
  unfold encP
  (focus (have hF := @hcs; (repeat' (first | (with_reducible refine Nx.of ?_) | ((with_reducible apply toV); refine stV (k := ?_)) | ((with_reducible apply toG); refine stG (k := ?_)) | ((with_reducible apply toG0); refine stG0 (k := ?_)) | ((with_reducible apply toC); refine stC (k := ?_)) | ((with_reducible apply toO); refine stO (k := ?_)) | ((with_reducible apply toX); refine stX (k := ?_)) | (with_reducible refine Ny.of ?_ ?_) | (refine Hyp.of ?_; intro hc; (try simp only [hc]); (try simp only [Bh] at hc)) | fail)); (all_goals clear hF)))
  refine stCall [.sl 2 (encPs [x.b, x.a])] (he := jba) (k := ?_)
  (focus (have hF := @hcs; (repeat' (first | (with_reducible refine Nx.of ?_) | ((with_reducible apply toV); refine stV (k := ?_)) | ((with_reducible apply toG); refine stG (k := ?_)) | ((with_reducible apply toG0); refine stG0 (k := ?_)) | ((with_reducible apply toC); refine stC (k := ?_)) | ((with_reducible apply toO); refine stO (k := ?_)) | ((with_reducible apply toX); refine stX (k := ?_)) | (with_reducible refine Ny.of ?_ ?_) | (refine Hyp.of ?_; intro hc; (try simp only [hc]); (try simp only [Bh] at hc)) | fail)); (all_goals clear hF)))
  refine stCall [encP (joinP [x.a, x.b]), encP (joinP [x.b, x.a])] (he := s1) (k := ?_)
  (focus (have hF := @hcs; (repeat' (first | (with_reducible refine Nx.of ?_) | ((with_reducible apply toV); refine stV (k := ?_)) | ((with_reducible apply toG); refine stG (k := ?_)) | ((with_reducible apply toG0); refine stG0 (k := ?_)) | ((with_reducible apply toC); refine stC (k := ?_)) | ((with_reducible apply toO); refine stO (k := ?_)) | ((with_reducible apply toX); refine stX (k := ?_)) | (with_reducible refine Ny.of ?_ ?_) | (refine Hyp.of ?_; intro hc; (try simp only [hc]); (try simp only [Bh] at hc)) | fail)); (all_goals clear hF)))
  refine stCall [encP x.b, encP x.a] (he := mba) (k := ?_)
  (focus (have hF := @hcs; (repeat' (first | (with_reducible refine Nx.of ?_) | ((with_reducible apply toV); refine stV (k := ?_)) | ((with_reducible apply toG); refine stG (k := ?_)) | ((with_reducible apply toG0); refine stG0 (k := ?_)) | ((with_reducible apply toC); refine stC (k := ?_)) | ((with_reducible apply toO); refine stO (k := ?_)) | ((with_reducible apply toX); refine stX (k := ?_)) | (with_reducible refine Ny.of ?_ ?_) | (refine Hyp.of ?_; intro hc; (try simp only [hc]); (try simp only [Bh] at hc)) | fail)); (all_goals clear hF)))
  refine stCall [encP (meetP x.a x.b), encP (meetP x.b x.a)] (he := s2) (k := ?_)
  (focus (have hF := @hcs; (repeat' (first | (with_reducible refine Nx.of ?_) | ((with_reducible apply toV); refine stV (k := ?_)) | ((with_reducible apply toG); refine stG (k := ?_)) | ((with_reducible apply toG0); refine stG0 (k := ?_)) | ((with_reducible apply toC); refine stC (k := ?_)) | ((with_reducible apply toO); refine stO (k := ?_)) | ((with_reducible apply toX); refine stX (k := ?_)) | (with_reducible refine Ny.of ?_ ?_) | (refine Hyp.of ?_; intro hc; (try simp only [hc]); (try simp only [Bh] at hc)) | fail)); (all_goals clear hF)))
  refine stCall [.sl 2 (encPs [x.a, x.a])] (he := jaa) (k := ?_)
  (focus (have hF := @hcs; (repeat' (first | (with_reducible refine Nx.of ?_) | ((with_reducible apply toV); refine stV (k := ?_)) | ((with_reducible apply toG); refine stG (k := ?_)) | ((with_reducible apply toG0); refine stG0 (k := ?_)) | ((with_reducible apply toC); refine stC (k := ?_)) | ((with_reducible apply toO); refine stO (k := ?_)) | ((with_reducible apply toX); refine stX (k := ?_)) | (with_reducible refine Ny.of ?_ ?_) | (refine Hyp.of ?_; intro hc; (try simp only [hc]); (try simp only [Bh] at hc)) | fail)); (all_goals clear hF)))
  refine stCall [encP x.a] (he := na) (k := ?_)
  (focus (have hF := @hcs; (repeat' (first | (with_reducible refine Nx.of ?_) | ((with_reducible apply toV); refine stV (k := ?_)) | ((with_reducible apply toG); refine stG (k := ?_)) | ((with_reducible apply toG0); refine stG0 (k := ?_)) | ((with_reducible apply toC); refine stC (k := ?_)) | ((with_reducible apply toO); refine stO (k := ?_)) | ((with_reducible apply toX); refine stX (k := ?_)) | (with_reducible refine Ny.of ?_ ?_) | (refine Hyp.of ?_; intro hc; (try simp only [hc]); (try simp only [Bh] at hc)) | fail)); (all_goals clear hF)))
  refine stCall [encP (joinP [x.a, x.a]), encP (normP x.a)] (he := s3) (k := ?_)
  (focus (have hF := @hcs; (repeat' (first | (with_reducible refine Nx.of ?_) | ((with_reducible apply toV); refine stV (k := ?_)) | ((with_reducible apply toG); refine stG (k := ?_)) | ((with_reducible apply toG0); refine stG0 (k := ?_)) | ((with_reducible apply toC); refine stC (k := ?_)) | ((with_reducible apply toO); refine stO (k := ?_)) | ((with_reducible apply toX); refine stX (k := ?_)) | (with_reducible refine Ny.of ?_ ?_) | (refine Hyp.of ?_; intro hc; (try simp only [hc]); (try simp only [Bh] at hc)) | fail)); (all_goals clear hF)))
  refine stCall [.sl 2 (encPs [joinP [x.a, x.b], x.c])] (he := jjc) (k := ?_)
  (focus (have hF := @hcs; (repeat' (first | (with_reducible refine Nx.of ?_) | ((with_reducible apply toV); refine stV (k := ?_)) | ((with_reducible apply toG); refine stG (k := ?_)) | ((with_reducible apply toG0); refine stG0 (k := ?_)) | ((with_reducible apply toC); refine stC (k := ?_)) | ((with_reducible apply toO); refine stO (k := ?_)) | ((with_reducible apply toX); refine stX (k := ?_)) | (with_reducible refine Ny.of ?_ ?_) | (refine Hyp.of ?_; intro hc; (try simp only [hc]); (try simp only [Bh] at hc)) | fail)); (all_goals clear hF)))
  refine stCall [.sl 2 (encPs [x.b, x.c])] (he := jbc) (k := ?_)
  (focus (have hF := @hcs; (repeat' (first | (with_reducible refine Nx.of ?_) | ((with_reducible apply toV); refine stV (k := ?_)) | ((with_reducible apply toG); refine stG (k := ?_)) | ((with_reducible apply toG0); refine stG0 (k := ?_)) | ((with_reducible apply toC); refine stC (k := ?_)) | ((with_reducible apply toO); refine stO (k := ?_)) | ((with_reducible apply toX); refine stX (k := ?_)) | (with_reducible refine Ny.of ?_ ?_) | (refine Hyp.of ?_; intro hc; (try simp only [hc]); (try simp only [Bh] at hc)) | fail)); (all_goals clear hF)))
  refine stCall [.sl 2 (encPs [x.a, joinP [x.b, x.c]])] (he := jajbc) (k := ?_)
  (focus (have hF := @hcs; (repeat' (first | (with_reducible refine Nx.of ?_) | ((with_reducible apply toV); refine stV (k := ?_)) | ((with_reducible apply toG); refine stG (k := ?_)) | ((with_reducible apply toG0); refine stG0 (k := ?_)) | ((with_reducible apply toC); refine stC (k := ?_)) | ((with_reducible apply toO); refine stO (k := ?_)) | ((with_reducible apply toX); refine stX (k := ?_)) | (with_reducible refine Ny.of ?_ ?_) | (refine Hyp.of ?_; intro hc; (try simp only [hc]); (try simp only [Bh] at hc)) | fail)); (all_goals clear hF)))
  refine stCall [encP (joinP [joinP [x.a, x.b], x.c]), encP (joinP [x.a, joinP [x.b, x.c]])] (he := s4) (k := ?_)
  (focus (have hF := @hcs; (repeat' (first | (with_reducible refine Nx.of ?_) | ((with_reducible apply toV); refine stV (k := ?_)) | ((with_reducible apply toG); refine stG (k := ?_)) | ((with_reducible apply toG0); refine stG0 (k := ?_)) | ((with_reducible apply toC); refine stC (k := ?_)) | ((with_reducible apply toO); refine stO (k := ?_)) | ((with_reducible apply toX); refine stX (k := ?_)) | (with_reducible refine Ny.of ?_ ?_) | (refine Hyp.of ?_; intro hc; (try simp only [hc]); (try simp only [Bh] at hc)) | fail)); (all_goals clear hF)))
  refine stCall [.sl 2 (encPs [x.a, x.b, x.c])] (he := j3) (k := ?_)
  (focus (have hF := @hcs; (repeat' (first | (with_reducible refine Nx.of ?_) | ((with_reducible apply toV); refine stV (k := ?_)) | ((with_reducible apply toG); refine stG (k := ?_)) | ((with_reducible apply toG0); refine stG0 (k := ?_)) | ((with_reducible apply toC); refine stC (k := ?_)) | ((with_reducible apply toO); refine stO (k := ?_)) | ((with_reducible apply toX); refine stX (k := ?_)) | (with_reducible refine Ny.of ?_ ?_) | (refine Hyp.of ?_; intro hc; (try simp only [hc]); (try simp only [Bh] at hc)) | fail)); (all_goals clear hF)))
  refine stCall [.sl 2 (encPs [joinP [x.a, x.b], x.c])] (he := jjc) (k := ?_)
  (focus (have hF := @hcs; (repeat' (first | (with_reducible refine Nx.of ?_) | ((with_reducible apply toV); refine stV (k := ?_)) | ((with_reducible apply toG); refine stG (k := ?_)) | ((with_reducible apply toG0); refine stG0 (k := ?_)) | ((with_reducible apply toC); refine stC (k := ?_)) | ((with_reducible apply toO); refine stO (k := ?_)) | ((with_reducible apply toX); refine stX (k := ?_)) | (with_reducible refine Ny.of ?_ ?_) | (refine Hyp.of ?_; intro hc; (try simp only [hc]); (try simp only [Bh] at hc)) | fail)); (all_goals clear hF)))
  refine stCall [encP (joinP [x.a, x.b, x.c]), encP (joinP [joinP [x.a, x.b], x.c])] (he := s5) (k := ?_)
  (focus (have hF := @hcs; (repeat' (first | (with_reducible refine Nx.of ?_) | ((with_reducible apply toV); refine stV (k := ?_)) | ((with_reducible apply toG); refine stG (k := ?_)) | ((with_reducible apply toG0); refine stG0 (k := ?_)) | ((with_reducible apply toC); refine stC (k := ?_)) | ((with_reducible apply toO); refine stO (k := ?_)) | ((with_reducible apply toX); refine stX (k := ?_)) | (with_reducible refine Ny.of ?_ ?_) | (refine Hyp.of ?_; intro hc; (try simp only [hc]); (try simp only [Bh] at hc)) | fail)); (all_goals clear hF)))
  refine stCall [encP x.a, encP (joinP [x.a, x.b])] (he := i1) (k := ?_)
  (focus (have hF := @hcs; (repeat' (first | (with_reducible refine Nx.of ?_) | ((with_reducible apply toV); refine stV (k := ?_)) | ((with_reducible apply toG); refine stG (k := ?_)) | ((with_reducible apply toG0); refine stG0 (k := ?_)) | ((with_reducible apply toC); refine stC (k := ?_)) | ((with_reducible apply toO); refine stO (k := ?_)) | ((with_reducible apply toX); refine stX (k := ?_)) | (with_reducible refine Ny.of ?_ ?_) | (refine Hyp.of ?_; intro hc; (try simp only [hc]); (try simp only [Bh] at hc)) | fail)); (all_goals clear hF)))
  refine stCall [encP x.b, encP (joinP [x.a, x.b])] (he := i2) (k := ?_)
  (focus (have hF := @hcs; (repeat' (first | (with_reducible refine Nx.of ?_) | ((with_reducible apply toV); refine stV (k := ?_)) | ((with_reducible apply toG); refine stG (k := ?_)) | ((with_reducible apply toG0); refine stG0 (k := ?_)) | ((with_reducible apply toC); refine stC (k := ?_)) | ((with_reducible apply toO); refine stO (k := ?_)) | ((with_reducible apply toX); refine stX (k := ?_)) | (with_reducible refine Ny.of ?_ ?_) | (refine Hyp.of ?_; intro hc; (try simp only [hc]); (try simp only [Bh] at hc)) | fail)); (all_goals clear hF)))
  refine stCall [encP (meetP x.a x.b), encP x.a] (he := i3) (k := ?_)
  (focus (have hF := @hcs; (repeat' (first | (with_reducible refine Nx.of ?_) | ((with_reducible apply toV); refine stV (k := ?_)) | ((with_reducible apply toG); refine stG (k := ?_)) | ((with_reducible apply toG0); refine stG0 (k := ?_)) | ((with_reducible apply toC); refine stC (k := ?_)) | ((with_reducible apply toO); refine stO (k := ?_)) | ((with_reducible apply toX); refine stX (k := ?_)) | (with_reducible refine Ny.of ?_ ?_) | (refine Hyp.of ?_; intro hc; (try simp only [hc]); (try simp only [Bh] at hc)) | fail)); (all_goals clear hF)))
  refine stCall [encP (meetP x.a x.b), encP x.b] (he := i4) (k := ?_)
  (focus (have hF := @hcs; (repeat' (first | (with_reducible refine Nx.of ?_) | ((with_reducible apply toV); refine stV (k := ?_)) | ((with_reducible apply toG); refine stG (k := ?_)) | ((with_reducible apply toG0); refine stG0 (k := ?_)) | ((with_reducible apply toC); refine stC (k := ?_)) | ((with_reducible apply toO); refine stO (k := ?_)) | ((with_reducible apply toX); refine stX (k := ?_)) | (with_reducible refine Ny.of ?_ ?_) | (refine Hyp.of ?_; intro hc; (try simp only [hc]); (try simp only [Bh] at hc)) | fail)); (all_goals clear hF)))
  cases b1
  case' false =>
    refine stCall [encP x.a, encP x.c] (he := w1) (k := ?_)
    (focus (have hF := @hcs; (repeat' (first | (with_reducible refine Nx.of ?_) | ((with_reducible apply toV); refine stV (k := ?_)) | ((with_reducible apply toG); refine stG (k := ?_)) | ((with_reducible apply toG0); refine stG0 (k := ?_)) | ((with_reducible apply toC); refine stC (k := ?_)) | ((with_reducible apply toO); refine stO (k := ?_)) | ((with_reducible apply toX); refine stX (k := ?_)) | (with_reducible refine Ny.of ?_ ?_) | (refine Hyp.of ?_; intro hc; (try simp only [hc]); (try simp only [Bh] at hc)) | fail)); (all_goals clear hF)))
  case' true =>
    refine stCall [encP x.a, encP x.c] (he := w1) (k := ?_)
    (focus (have hF := @hcs; (repeat' (first | (with_reducible refine Nx.of ?_) | ((with_reducible apply toV); refine stV (k := ?_)) | ((with_reducible apply toG); refine stG (k := ?_)) | ((with_reducible apply toG0); refine stG0 (k := ?_)) | ((with_reducible apply toC); refine stC (k := ?_)) | ((with_reducible apply toO); refine stO (k := ?_)) | ((with_reducible apply toX); refine stX (k := ?_)) | (with_reducible refine Ny.of ?_ ?_) | (refine Hyp.of ?_; intro hc; (try simp only [hc]); (try simp only [Bh] at hc)) | fail)); (all_goals clear hF)))
    refine stCall [encP x.b, encP x.c] (he := w2) (k := ?_)
    cases b2
    case' false =>
      (focus (have hF := @hcs; (repeat' (first | (with_reducible refine Nx.of ?_) | ((with_reducible apply toV); refine stV (k := ?_)) | ((with_reducible apply toG); refine stG (k := ?_)) | ((with_reducible apply toG0); refine stG0 (k := ?_)) | ((with_reducible apply toC); refine stC (k := ?_)) | ((with_reducible apply toO); refine stO (k := ?_)) | ((with_reducible apply toX); refine stX (k := ?_)) | (with_reducible refine Ny.of ?_ ?_) | (refine Hyp.of ?_; intro hc; (try simp only [hc]); (try simp only [Bh] at hc)) | fail)); (all_goals clear hF)))
    case' true =>
      obtain rfl : b3 = true := hj rfl rfl
      (focus (have hF := @hcs; (repeat' (first | (with_reducible refine Nx.of ?_) | ((with_reducible apply toV); refine stV (k := ?_)) | ((with_reducible apply toG); refine stG (k := ?_)) | ((with_reducible apply toG0); refine stG0 (k := ?_)) | ((with_reducible apply toC); refine stC (k := ?_)) | ((with_reducible apply toO); refine stO (k := ?_)) | ((with_reducible apply toX); refine stX (k := ?_)) | (with_reducible refine Ny.of ?_ ?_) | (refine Hyp.of ?_; intro hc; (try simp only [hc]); (try simp only [Bh] at hc)) | fail)); (all_goals clear hF)))
      refine stCall [encP (joinP [x.a, x.b]), encP x.c] (he := w3) (k := ?_)
      (focus (have hF := @hcs; (repeat' (first | (with_reducible refine Nx.of ?_) | ((with_reducible apply toV); refine stV (k := ?_)) | ((with_reducible apply toG); refine stG (k := ?_)) | ((with_reducible apply toG0); refine stG0 (k := ?_)) | ((with_reducible apply toC); refine stC (k := ?_)) | ((with_reducible apply toO); refine stO (k := ?_)) | ((with_reducible apply toX); refine stX (k := ?_)) | (with_reducible refine Ny.of ?_ ?_) | (refine Hyp.of ?_; intro hc; (try simp only [hc]); (try simp only [Bh] at hc)) | fail)); (all_goals clear hF)))
  all_goals
    refine stCall [encP (meetP x.a x.b), encP (minusP x.a x.b)] (he := m2) (k := ?_)
    (focus (have hF := @hcs; (repeat' (first | (with_reducible refine Nx.of ?_) | ((with_reducible apply toV); refine stV (k := ?_)) | ((with_reducible apply toG); refine stG (k := ?_)) | ((with_reducible apply toG0); refine stG0 (k := ?_)) | ((with_reducible apply toC); refine stC (k := ?_)) | ((with_reducible apply toO); refine stO (k := ?_)) | ((with_reducible apply toX); refine stX (k := ?_)) | (with_reducible refine Ny.of ?_ ?_) | (refine Hyp.of ?_; intro hc; (try simp only [hc]); (try simp only [Bh] at hc)) | fail)); (all_goals clear hF)))
    refine stCall [encP (meetP (meetP x.a x.b) (minusP x.a x.b))] (he := em) (k := ?_)
    (focus (have hF := @hcs; (repeat' (first | (with_reducible refine Nx.of ?_) | ((with_reducible apply toV); refine stV (k := ?_)) | ((with_reducible apply toG); refine stG (k := ?_)) | ((with_reducible apply toG0); refine stG0 (k := ?_)) | ((with_reducible apply toC); refine stC (k := ?_)) | ((with_reducible apply toO); refine stO (k := ?_)) | ((with_reducible apply toX); refine stX (k := ?_)) | (with_reducible refine Ny.of ?_ ?_) | (refine Hyp.of ?_; intro hc; (try simp only [hc]); (try simp only [Bh] at hc)) | fail)); (all_goals clear hF)))
    refine stCall [.sl 2 (encPs [meetP x.a x.b, minusP x.a x.b])] (he := jmm) (k := ?_)
    (focus (have hF := @hcs; (repeat' (first | (with_reducible refine Nx.of ?_) | ((with_reducible apply toV); refine stV (k := ?_)) | ((with_reducible apply toG); refine stG (k := ?_)) | ((with_reducible apply toG0); refine stG0 (k := ?_)) | ((with_reducible apply toC); refine stC (k := ?_)) | ((with_reducible apply toO); refine stO (k := ?_)) | ((with_reducible apply toX); refine stX (k := ?_)) | (with_reducible refine Ny.of ?_ ?_) | (refine Hyp.of ?_; intro hc; (try simp only [hc]); (try simp only [Bh] at hc)) | fail)); (all_goals clear hF)))
    refine stCall [encP x.a] (he := na) (k := ?_)
    (focus (have hF := @hcs; (repeat' (first | (with_reducible refine Nx.of ?_) | ((with_reducible apply toV); refine stV (k := ?_)) | ((with_reducible apply toG); refine stG (k := ?_)) | ((with_reducible apply toG0); refine stG0 (k := ?_)) | ((with_reducible apply toC); refine stC (k := ?_)) | ((with_reducible apply toO); refine stO (k := ?_)) | ((with_reducible apply toX); refine stX (k := ?_)) | (with_reducible refine Ny.of ?_ ?_) | (refine Hyp.of ?_; intro hc; (try simp only [hc]); (try simp only [Bh] at hc)) | fail)); (all_goals clear hF)))
    refine stCall [encP (joinP [meetP x.a x.b, minusP x.a x.b]), encP (normP x.a)] (he := s6) (k := ?_)
    (focus (have hF := @hcs; (repeat' (first | (with_reducible refine Nx.of ?_) | ((with_reducible apply toV); refine stV (k := ?_)) | ((with_reducible apply toG); refine stG (k := ?_)) | ((with_reducible apply toG0); refine stG0 (k := ?_)) | ((with_reducible apply toC); refine stC (k := ?_)) | ((with_reducible apply toO); refine stO (k := ?_)) | ((with_reducible apply toX); refine stX (k := ?_)) | (with_reducible refine Ny.of ?_ ?_) | (refine Hyp.of ?_; intro hc; (try simp only [hc]); (try simp only [Bh] at hc)) | fail)); (all_goals clear hF)))
    refine stCall [encP (joinP [x.a, x.b])] (he := zj) (k := ?_)
    (focus (have hF := @hcs; (repeat' (first | (with_reducible refine Nx.of ?_) | ((with_reducible apply toV); refine stV (k := ?_)) | ((with_reducible apply toG); refine stG (k := ?_)) | ((with_reducible apply toG0); refine stG0 (k := ?_)) | ((with_reducible apply toC); refine stC (k := ?_)) | ((with_reducible apply toO); refine stO (k := ?_)) | ((with_reducible apply toX); refine stX (k := ?_)) | (with_reducible refine Ny.of ?_ ?_) | (refine Hyp.of ?_; intro hc; (try simp only [hc]); (try simp only [Bh] at hc)) | fail)); (all_goals clear hF)))
    refine stCall [encP (meetP x.a x.b)] (he := zm) (k := ?_)
    (focus (have hF := @hcs; (repeat' (first | (with_reducible refine Nx.of ?_) | ((with_reducible apply toV); refine stV (k := ?_)) | ((with_reducible apply toG); refine stG (k := ?_)) | ((with_reducible apply toG0); refine stG0 (k := ?_)) | ((with_reducible apply toC); refine stC (k := ?_)) | ((with_reducible apply toO); refine stO (k := ?_)) | ((with_reducible apply toX); refine stX (k := ?_)) | (with_reducible refine Ny.of ?_ ?_) | (refine Hyp.of ?_; intro hc; (try simp only [hc]); (try simp only [Bh] at hc)) | fail)); (all_goals clear hF)))
    refine stCall [encP x.a] (he := za) (k := ?_)
    (focus (have hF := @hcs; (repeat' (first | (with_reducible refine Nx.of ?_) | ((with_reducible apply toV); refine stV (k := ?_)) | ((with_reducible apply toG); refine stG (k := ?_)) | ((with_reducible apply toG0); refine stG0 (k := ?_)) | ((with_reducible apply toC); refine stC (k := ?_)) | ((with_reducible apply toO); refine stO (k := ?_)) | ((with_reducible apply toX); refine stX (k := ?_)) | (with_reducible refine Ny.of ?_ ?_) | (refine Hyp.of ?_; intro hc; (try simp only [hc]); (try simp only [Bh] at hc)) | fail)); (all_goals clear hF)))
    refine stCall [encP x.b] (he := zb) (k := ?_)
    (focus (have hF := @hcs; (repeat' (first | (with_reducible refine Nx.of ?_) | ((with_reducible apply toV); refine stV (k := ?_)) | ((with_reducible apply toG); refine stG (k := ?_)) | ((with_reducible apply toG0); refine stG0 (k := ?_)) | ((with_reducible apply toC); refine stC (k := ?_)) | ((with_reducible apply toO); refine stO (k := ?_)) | ((with_reducible apply toX); refine stX (k := ?_)) | (with_reducible refine Ny.of ?_ ?_) | (refine Hyp.of ?_; intro hc; (try simp only [hc]); (try simp only [Bh] at hc)) | fail)); (all_goals clear hF)))
    refine stCall [encP (minusP x.a x.b)] (he := zn) (k := ?_)
    (focus (have hF := @hcs; (repeat' (first | (with_reducible refine Nx.of ?_) | ((with_reducible apply toV); refine stV (k := ?_)) | ((with_reducible apply toG); refine stG (k := ?_)) | ((with_reducible apply toG0); refine stG0 (k := ?_)) | ((with_reducible apply toC); refine stC (k := ?_)) | ((with_reducible apply toO); refine stO (k := ?_)) | ((with_reducible apply toX); refine stX (k := ?_)) | (with_reducible refine Ny.of ?_ ?_) | (refine Hyp.of ?_; intro hc; (try simp only [hc]); (try simp only [Bh] at hc)) | fail)); (all_goals clear hF)))
    refine stCall [encP (meetP x.a x.b)] (he := zm) (k := ?_)
    (focus (have hF := @hcs; (repeat' (first | (with_reducible refine Nx.of ?_) | ((with_reducible apply toV); refine stV (k := ?_)) | ((with_reducible apply toG); refine stG (k := ?_)) | ((with_reducible apply toG0); refine stG0 (k := ?_)) | ((with_reducible apply toC); refine stC (k := ?_)) | ((with_reducible apply toO); refine stO (k := ?_)) | ((with_reducible apply toX); refine stX (k := ?_)) | (with_reducible refine Ny.of ?_ ?_) | (refine Hyp.of ?_; intro hc; (try simp only [hc]); (try simp only [Bh] at hc)) | fail)); (all_goals clear hF)))
    refine stCall [encP x.a] (he := za) (k := ?_)
    (focus (have hF := @hcs; (repeat' (first | (with_reducible refine Nx.of ?_) | ((with_reducible apply toV); refine stV (k := ?_)) | ((with_reducible apply toG); refine stG (k := ?_)) | ((with_reducible apply toG0); refine stG0 (k := ?_)) | ((with_reducible apply toC); refine stC (k := ?_)) | ((with_reducible apply toO); refine stO (k := ?_)) | ((with_reducible apply toX); refine stX (k := ?_)) | (with_reducible refine Ny.of ?_ ?_) | (refine Hyp.of ?_; intro hc; (try simp only [hc]); (try simp only [Bh] at hc)) | fail)); (all_goals clear hF)))
    cases d1 <;> cases d2
  all_goals
    refine stCall [encP x.a, encP x.b] (he := ord) (k := ?_)
    (focus (have hF := @hcs; (repeat' (first | (with_reducible refine Nx.of ?_) | ((with_reducible apply toV); refine stV (k := ?_)) | ((with_reducible apply toG); refine stG (k := ?_)) | ((with_reducible apply toG0); refine stG0 (k := ?_)) | ((with_reducible apply toC); refine stC (k := ?_)) | ((with_reducible apply toO); refine stO (k := ?_)) | ((with_reducible apply toX); refine stX (k := ?_)) | (with_reducible refine Ny.of ?_ ?_) | (refine Hyp.of ?_; intro hc; (try simp only [hc]); (try simp only [Bh] at hc)) | fail)); (all_goals clear hF)))
    refine stCall [encP x.a, encP x.b] (he := iab) (k := ?_)
    (focus (have hF := @hcs; (repeat' (first | (with_reducible refine Nx.of ?_) | ((with_reducible apply toV); refine stV (k := ?_)) | ((with_reducible apply toG); refine stG (k := ?_)) | ((with_reducible apply toG0); refine stG0 (k := ?_)) | ((with_reducible apply toC); refine stC (k := ?_)) | ((with_reducible apply toO); refine stO (k := ?_)) | ((with_reducible apply toX); refine stX (k := ?_)) | (with_reducible refine Ny.of ?_ ?_) | (refine Hyp.of ?_; intro hc; (try simp only [hc]); (try simp only [Bh] at hc)) | fail)); (all_goals clear hF)))
    refine stCall [encP x.b, encP x.a] (he := iba) (k := ?_)
    (focus (have hF := @hcs; (repeat' (first | (with_reducible refine Nx.of ?_) | ((with_reducible apply toV); refine stV (k := ?_)) | ((with_reducible apply toG); refine stG (k := ?_)) | ((with_reducible apply toG0); refine stG0 (k := ?_)) | ((with_reducible apply toC); refine stC (k := ?_)) | ((with_reducible apply toO); refine stO (k := ?_)) | ((with_reducible apply toX); refine stX (k := ?_)) | (with_reducible refine Ny.of ?_ ?_) | (refine Hyp.of ?_; intro hc; (try simp only [hc]); (try simp only [Bh] at hc)) | fail)); (all_goals clear hF)))
    refine stCall [encP x.a] (he := na) (k := ?_)
    (focus (have hF := @hcs; (repeat' (first | (with_reducible refine Nx.of ?_) | ((with_reducible apply toV); refine stV (k := ?_)) | ((with_reducible apply toG); refine stG (k := ?_)) | ((with_reducible apply toG0); refine stG0 (k := ?_)) | ((with_reducible apply toC); refine stC (k := ?_)) | ((with_reducible apply toO); refine stO (k := ?_)) | ((with_reducible apply toX); refine stX (k := ?_)) | (with_reducible refine Ny.of ?_ ?_) | (refine Hyp.of ?_; intro hc; (try simp only [hc]); (try simp only [Bh] at hc)) | fail)); (all_goals clear hF)))
    refine stCall [encP x.b] (he := nb) (k := ?_)
    (focus (have hF := @hcs; (repeat' (first | (with_reducible refine Nx.of ?_) | ((with_reducible apply toV); refine stV (k := ?_)) | ((with_reducible apply toG); refine stG (k := ?_)) | ((with_reducible apply toG0); refine stG0 (k := ?_)) | ((with_reducible apply toC); refine stC (k := ?_)) | ((with_reducible apply toO); refine stO (k := ?_)) | ((with_reducible apply toX); refine stX (k := ?_)) | (with_reducible refine Ny.of ?_ ?_) | (refine Hyp.of ?_; intro hc; (try simp only [hc]); (try simp only [Bh] at hc)) | fail)); (all_goals clear hF)))
    refine stCall [encP (normP x.a), encP (normP x.b)] (he := s7) (k := ?_)
    (focus (have hF := @hcs; (repeat' (first | (with_reducible refine Nx.of ?_) | ((with_reducible apply toV); refine stV (k := ?_)) | ((with_reducible apply toG); refine stG (k := ?_)) | ((with_reducible apply toG0); refine stG0 (k := ?_)) | ((with_reducible apply toC); refine stC (k := ?_)) | ((with_reducible apply toO); refine stO (k := ?_)) | ((with_reducible apply toX); refine stX (k := ?_)) | (with_reducible refine Ny.of ?_ ?_) | (refine Hyp.of ?_; intro hc; (try simp only [hc]); (try simp only [Bh] at hc)) | fail)); (all_goals clear hF)))
    exact Fin.tmp' rfl rfl
end Go.Proofs.Ytdmfjkhbodbgoaa.Avm

namespace Go.Proofs.Ytdmfjkhbodbgoaa.Avm
open Go.Proofs
theorem lifted_PastLattice (os : Os) (started : os.Started) (H : Type) (enc : TypeId × Value → H) (F : Stop.Interp) :
    ReturnsInHanded {} Try.checked os 5 .any ((Rows.OpenSpec.upto Rows.pastLatticeSpec).pre6 enc Try.prog Try.f5 Rows.pastLatticeUptoRow.domain false) (((Rows.OpenSpec.upto Rows.pastLatticeSpec).at F).post enc Try.prog Try.f5 false true false false) := by
  refine returnsInHanded_of_cond (C := Try.checked) (s := Rows.OpenSpec.upto Rows.pastLatticeSpec) (k := Rows.uptoSmall) rfl own started (by kernel_rfl) Try.func5
    (OpenSpec.witness (enc := enc) (C := Try.checked) (s := Rows.OpenSpec.upto Rows.pastLatticeSpec) (k := Rows.uptoSmall) rfl false ⟨#[], #[.agg #[.slice none 0 0, .slice none 0 0, .slice none 0 0, .slice none 0 0, .slice none 0 0, .slice none 0 0, .slice none 0 0, .int .i64 0, .int .i64 0]], []⟩ 8 (by kernel_rfl) (by kernel_rfl) (by kernel_rfl)
      (x := ([.agg [.agg [.nil, .nil], .agg [.nil, .nil], .agg [.nil, .nil], .nil, .lit (.int .i64 0), .lit (.int .i64 0)]], [], [])) (by kernel_rfl) rfl (by kernel_rfl)) ?_
  intro W base args ds gs before hval hW _ hk _
  exact contract_of (s := Rows.pastLatticeSpec) Try.func5 Try.params5 (by kernel_rfl) Try.underlying4 Try.underlying28 (by kernel_rfl) (by kernel_rfl) (of_decide_eq_true (by kernel_rfl)) rfl (fun _ _ => rfl)
    op_Case (fun x _ hx => ev_law04PastLattice x (by unfold wtC at hx; omega)) H enc W base args ds gs before hval hW hk
theorem pastLattice_holds : Rows.PastLatticeUptoSaid :=
  OpenClaim.holds_of_cond 5 Try.f5 rfl rfl rfl rfl rfl rfl rfl ⟨rfl, rfl, rfl, rfl, rfl⟩ rfl rfl rfl rfl rfl (by kernel_rfl) Try.func5 (by kernel_rfl)
    (of_decide_eq_true (by kernel_rfl)) (by unfold Func.isWrapper; first | (rw [if_pos (by decide +kernel)]; kernel_rfl) | (rw [if_neg (by decide +kernel)]; exact ⟨rfl, rfl⟩))
    (fun os started H enc _ F => lifted_PastLattice os started H enc F)
#print axioms pastLattice_holds
end Go.Proofs.Ytdmfjkhbodbgoaa.Avm
