/-
  The law KeepFolds holds: for every case of bulk at most 1048576 the call returns true and the case reads behind it as it read before.
-/
import Derived.Test.YtpomanleabaafaaGreatJ5
import Derived.Test.YtpomanleabaafaaGreatProg
import Derived.KernelRfl
set_option maxRecDepth 100000
set_option maxHeartbeats 4000000
set_option linter.unusedVariables false
set_option linter.unusedSimpArgs false
set_option linter.unusedSectionVars false
set_option linter.defProp false
namespace Go.Proofs.YtpomanleabaafaaGreat.Avm
open Go.Proofs
theorem cells_str : Tryz.prog.cellsOf 9 = 1 := by kernel_rfl
theorem cells_Rec : Tryz.prog.cellsOf 39 = 3 := by kernel_rfl
theorem cells_Ent : Tryz.prog.cellsOf 49 = 4 := by kernel_rfl
theorem cells_recs : Tryz.prog.cellsOf 22 = 1 := by kernel_rfl
theorem cells_ents : Tryz.prog.cellsOf 23 = 1 := by kernel_rfl
theorem op_str : Opens Tryz.prog 9 ByteArray (fun _ => True) (fun s => [.str s]) (fun s => s.size + 1) := Opens.string Tryz.underlying9
def okK (r : Rec) : Prop := okP r.past
def cellsK (r : Rec) : List AVal := [.str r.sku, .sl 1 (encIs r.past.vec), .sl 3 (encSs r.past.cloud)]
theorem op_Rec : Opens Tryz.prog 39 Rec okK cellsK wtK :=
  (Opens.struct Tryz.underlying39 cells_Rec (OpensF.cons (k := 1) op_str (fun _ => rfl) cells_str rfl (OpensF.cons (k := 2) op_Past (fun _ => rfl) cells_Past rfl (OpensF.nil _)))).map
    (fun x => ⟨x.1, x.2.1⟩) (fun x h => h.2.1) (fun _ => rfl) (fun x => by show wt x.2.1 + 1 ≤ x.1.size + 1 + (wt x.2.1 + 0) + 1; omega)
theorem op_recs : Opens Tryz.prog 22 (List Rec) (fun l => ∀ x ∈ l, okK x) (fun l => [.sl 3 (encKs l)]) (wtL wtK) :=
  Opens.slice (mk := encK) Tryz.underlying22 op_Rec cells_Rec (by decide) (fun _ => rfl) (fun _ => rfl) (fun x y hy => by simp [cellsK] at hy; rcases hy with rfl | rfl | rfl <;> rfl)
def okE (e : Ent) : Prop := True
def cellsE (e : Ent) : List AVal := [.int .i64 e.rep, .int .i64 e.num, .str e.sku, .int .i64 e.qty]
theorem op_Ent : Opens Tryz.prog 49 Ent okE cellsE (fun _ => 1) :=
  (Opens.struct Tryz.underlying49 cells_Ent (OpensF.cons (k := 2) op_Dot (fun _ => rfl) cells_Dot rfl (OpensF.cons (k := 1) op_str (fun _ => rfl) cells_str rfl (OpensF.cons (k := 1) op_int (fun _ => rfl) cells_int rfl (OpensF.nil _))))).map
    (fun x => ⟨x.1.1, x.1.2, x.2.1, x.2.2.1⟩) (fun x h => trivial) (fun _ => rfl) (fun _ => Nat.le_add_left _ _)
theorem op_ents : Opens Tryz.prog 23 (List Ent) (fun l => ∀ x ∈ l, okE x) (fun l => [.sl 4 (encEs l)]) (wtL fun _ => 1) :=
  Opens.slice (mk := encE) Tryz.underlying23 op_Ent cells_Ent (by decide) (fun _ => rfl) (fun _ => rfl) (fun x y hy => by simp [cellsE] at hy; rcases hy with rfl | rfl | rfl | rfl <;> rfl)
structure CasK where
  r : List Rec
  q : List Rec
  a : List Ent
  b : List Ent
  p : Pst
  o : Pst
def cellsX (x : CasK) : List AVal := [.sl 3 (encKs x.r), .sl 3 (encKs x.q), .sl 4 (encEs x.a), .sl 4 (encEs x.b), .sl 1 (encIs x.p.vec), .sl 3 (encSs x.p.cloud), .sl 1 (encIs x.o.vec), .sl 3 (encSs x.o.cloud)]
def encX (x : CasK) : AVal := .agg [.sl 3 (encKs x.r), .sl 3 (encKs x.q), .sl 4 (encEs x.a), .sl 4 (encEs x.b), .sl 1 (encIs x.p.vec), .sl 3 (encSs x.p.cloud), .sl 1 (encIs x.o.vec), .sl 3 (encSs x.o.cloud)]
def okX (x : CasK) : Prop := okP x.p ∧ okP x.o
def wtX (x : CasK) : Nat := wtKs x.r + wtKs x.q + x.a.length + x.b.length + wt x.p + wt x.o
theorem cells_CaseK : Tryz.prog.cellsOf 29 = 8 := by kernel_rfl
theorem op_CaseK : Opens Tryz.prog 29 CasK okX cellsX wtX :=
  (Opens.struct Tryz.underlying29 cells_CaseK (OpensF.cons (k := 1) op_recs (fun _ => rfl) cells_recs rfl (OpensF.cons (k := 1) op_recs (fun _ => rfl) cells_recs rfl
    (OpensF.cons (k := 1) op_ents (fun _ => rfl) cells_ents rfl (OpensF.cons (k := 1) op_ents (fun _ => rfl) cells_ents rfl (OpensF.cons (k := 2) op_Past (fun _ => rfl) cells_Past rfl (OpensF.cons (k := 2) op_Past (fun _ => rfl) cells_Past rfl (OpensF.nil _)))))))).map
    (fun x => ⟨x.1, x.2.1, x.2.2.1, x.2.2.2.1, x.2.2.2.2.1, x.2.2.2.2.2.1⟩) (fun x h => ⟨h.2.2.2.2.1, h.2.2.2.2.2.1⟩) (fun _ => rfl)
    (fun x => by
      show wtKs x.1 + wtKs x.2.1 + x.2.2.1.length + x.2.2.2.1.length + wt x.2.2.2.2.1 + wt x.2.2.2.2.2.1 ≤ (wtKs x.1 + 1) + ((wtKs x.2.1 + 1) + (wtL (fun _ => 1) x.2.2.1 + (wtL (fun _ => 1) x.2.2.2.1 + (wt x.2.2.2.2.1 + (wt x.2.2.2.2.2.1 + 0))))) + 1
      rw [wtL_one, wtL_one]; omega)

theorem leB_of {a b : Rec} (h : cmpR a b < 0) : cmpB a.sku b.sku ≤ 0 := by
  unfold cmpR at h
  split at h
  · omega
  · omega
theorem leB_trans {a b c : ByteArray} (h : cmpB a b ≤ 0) (h' : cmpB b c ≤ 0) : cmpB a c ≤ 0 := lexI_trans h h'
theorem cmpB_neg (a b : ByteArray) : cmpB b a = - cmpB a b := lexI_neg _ _
theorem leB_all : ∀ {l : List Rec} {r : Rec}, SrtK (r :: l) → ∀ x ∈ l, cmpB r.sku x.sku ≤ 0
  | [], r, _, x, hx => by cases hx
  | q :: l, r, hs, x, hx => by
    have h1 := leB_of (hs 0 r q rfl rfl)
    rcases List.mem_cons.1 hx with rfl | hx
    · exact h1
    · exact leB_trans h1 (leB_all (SrtK.tail (t := [r]) hs) x hx)
theorem srt_drop {r : Rec} {l : List Rec} (hs : SrtK (r :: l)) : SrtK ((r :: l).dropWhile (sameSku r.sku)) := SrtK.tail (t := (r :: l).takeWhile (sameSku r.sku)) (by rw [List.takeWhile_append_dropWhile]; exact hs)
theorem sku_lt {r : Rec} {l : List Rec} (hs : SrtK (r :: l)) : ∀ x ∈ (r :: l).dropWhile (sameSku r.sku), cmpB r.sku x.sku < 0 := by
  have h1 := srt_drop hs
  have h2 := List.head?_dropWhile_not (sameSku r.sku) (r :: l)
  have h3 : ∀ x ∈ (r :: l).dropWhile (sameSku r.sku), cmpB r.sku x.sku ≤ 0 := fun x hx => by
    rcases List.mem_cons.1 ((List.dropWhile_sublist _).subset hx) with rfl | hx
    · exact Int.le_of_eq (cmpB_zero.2 rfl)
    · exact leB_all hs x hx
  generalize (r :: l).dropWhile (sameSku r.sku) = D at h1 h2 h3 ⊢
  cases D with
  | nil => intro x hx; cases hx
  | cons q D =>
    have hq : cmpB r.sku q.sku < 0 := by
      have := h3 q (by simp)
      have hne : cmpB r.sku q.sku ≠ 0 := fun h => by
        simp [sameSku] at h2
        exact h2 (cmpB_zero.1 h).symm
      omega
    intro x hx
    rcases List.mem_cons.1 hx with rfl | hx
    · exact hq
    · have h4 := leB_all h1 x hx
      have h5 := h3 x (by simp [hx])
      have hne : cmpB r.sku x.sku ≠ 0 := fun h => by
        rw [← cmpB_zero.1 h, cmpB_neg] at h4
        omega
      omega
def ltS (a b : Rec) : Prop := cmpB a.sku b.sku < 0
def GoodK (L : List Rec) (all : Pst) (r : Rec) : Prop := (∃ q ∈ L, q.sku = r.sku) ∧ CanP r.past ∧ sizeP r.past ≠ 0 ∧ ∀ d, hasP r.past d = true → hasP all d = false
theorem foldF_good : ∀ (n : Nat) (L : List Rec) (all : Pst), L.length ≤ n → SrtK L → (∀ x ∈ L, x.sku.size ≠ 0) → (∀ r ∈ foldF n L all, GoodK L all r) ∧ (foldF n L all).Pairwise ltS
  | 0, L, all, _, _, _ => ⟨fun r hr => absurd hr (by simp [foldF]), List.Pairwise.nil⟩
  | n + 1, [], all, _, _, _ => ⟨fun r hr => absurd hr (by simp [foldF]), List.Pairwise.nil⟩
  | n + 1, r :: l, all, h, hs, hne => by
    have hz := hne r (by simp)
    have hdl := drop_len r l
    have ih := foldF_good n ((r :: l).dropWhile (sameSku r.sku)) all (by simp at h; omega) (srt_drop hs) (fun x hx => hne x ((List.dropWhile_sublist _).subset hx))
    have hlt := sku_lt hs
    have hF : foldF (n + 1) (r :: l) all = outG r.sku (minusP (joinG (r :: l)) all) ++ foldF n ((r :: l).dropWhile (sameSku r.sku)) all := by
      show outG r.sku (newG all r.sku (joinG (r :: l))) ++ foldF n _ (allG all r.sku (joinG (r :: l))) = _
      rw [show newG all r.sku (joinG (r :: l)) = minusP (joinG (r :: l)) all from if_neg hz, show allG all r.sku (joinG (r :: l)) = all from if_neg hz]
    rw [hF]
    have ho : ∀ x ∈ outG r.sku (minusP (joinG (r :: l)) all), x = ⟨r.sku, minusP (joinG (r :: l)) all⟩ ∧ sizeP (minusP (joinG (r :: l)) all) ≠ 0 := fun x hx => by
      unfold outG at hx
      split at hx
      · cases hx
      · simp at hx; exact ⟨hx, by assumption⟩
    refine ⟨fun x hx => ?_, ?_⟩
    · rcases List.mem_append.1 hx with hx | hx
      · obtain ⟨rfl, hs0⟩ := ho x hx
        refine ⟨⟨r, by simp, rfl⟩, canP_minus _ _, hs0, fun d hd => ?_⟩
        rw [has_minus] at hd
        simp at hd
        exact hd.2
      · obtain ⟨⟨q, hq, hqs⟩, h2⟩ := ih.1 x hx
        exact ⟨⟨q, (List.dropWhile_sublist _).subset hq, hqs⟩, h2⟩
    · refine List.pairwise_append.2 ⟨?_, ih.2, fun a ha b hb => ?_⟩
      · unfold outG
        split <;> simp
      · obtain ⟨rfl, _⟩ := ho a ha
        obtain ⟨⟨q, hq, hqs⟩, _⟩ := ih.1 b hb
        show cmpB r.sku b.sku < 0
        rw [← hqs]
        exact hlt q hq
theorem headN_can {m : List Rec} (h : ∀ r ∈ m, CanP r.past) : headN m = m := by
  cases m with
  | nil => rfl
  | cons r m =>
    show (if r.sku.size = 0 then (⟨r.sku, normP r.past⟩ : Rec) :: m else r :: m) = r :: m
    split
    · have : normP r.past = r.past := h r (by simp)
      rw [this]
    · rfl
structure Folded (L K : List Rec) : Prop where
  from_ : ∀ r ∈ K, ∃ q ∈ L, q.sku = r.sku
  can : ∀ r ∈ K, CanP r.past
  size : ∀ r ∈ K, sizeP r.past ≠ 0
  lt : K.Pairwise ltS
  apart : ∀ a ∈ K, ∀ b ∈ K, a.sku.size = 0 → b.sku.size ≠ 0 → ∀ d, hasP b.past d = true → hasP a.past d = false
theorem foldK_folded {l : List Rec} (hs : SrtK l) : Folded l (foldK l) := by
  cases l with
  | nil => exact ⟨fun r hr => absurd hr (by simp [foldK, foldF, headN]), fun r hr => absurd hr (by simp [foldK, foldF, headN]), fun r hr => absurd hr (by simp [foldK, foldF, headN]), List.Pairwise.nil, fun r hr => absurd hr (by simp [foldK, foldF, headN])⟩
  | cons r l =>
    by_cases hz : r.sku.size = 0
    · have hdl := drop_len r l
      have hd : ∀ x ∈ (r :: l).dropWhile (sameSku r.sku), x.sku.size ≠ 0 := fun x hx h0 => by
        have := sku_lt hs x hx
        rw [size_zero.2 hz, size_zero.2 h0, cmpB_zero.2 rfl] at this
        omega
      have hg := foldF_good l.length ((r :: l).dropWhile (sameSku r.sku)) (joinG (r :: l)) hdl (srt_drop hs) hd
      have hF : foldF (r :: l).length (r :: l) ⟨[], []⟩ = outG r.sku (joinG (r :: l)) ++ foldF l.length ((r :: l).dropWhile (sameSku r.sku)) (joinG (r :: l)) := by
        show outG r.sku (newG ⟨[], []⟩ r.sku (joinG (r :: l))) ++ foldF l.length _ (allG ⟨[], []⟩ r.sku (joinG (r :: l))) = _
        rw [show newG ⟨[], []⟩ r.sku (joinG (r :: l)) = joinG (r :: l) from if_pos hz, show allG ⟨[], []⟩ r.sku (joinG (r :: l)) = joinG (r :: l) from if_pos hz]
      have ho : ∀ x ∈ outG r.sku (joinG (r :: l)), x = ⟨r.sku, joinG (r :: l)⟩ ∧ sizeP (joinG (r :: l)) ≠ 0 := fun x hx => by
        unfold outG at hx
        split at hx
        · cases hx
        · simp at hx; exact ⟨hx, by assumption⟩
      have hcan : ∀ x ∈ outG r.sku (joinG (r :: l)) ++ foldF l.length ((r :: l).dropWhile (sameSku r.sku)) (joinG (r :: l)), CanP x.past := fun x hx => by
        rcases List.mem_append.1 hx with hx | hx
        · rw [(ho x hx).1]; exact canP_join _
        · exact (hg.1 x hx).2.1
      have hne : ∀ x ∈ foldF l.length ((r :: l).dropWhile (sameSku r.sku)) (joinG (r :: l)), x.sku.size ≠ 0 := fun x hx => by
        obtain ⟨⟨q, hq, hqs⟩, _⟩ := hg.1 x hx
        rw [← hqs]
        exact hd q hq
      unfold foldK
      rw [hF, headN_can hcan]
      refine ⟨fun x hx => ?_, hcan, fun x hx => ?_, ?_, fun a ha b hb ha0 hb0 d hbd => ?_⟩
      · rcases List.mem_append.1 hx with hx | hx
        · rw [(ho x hx).1]; exact ⟨r, by simp, rfl⟩
        · obtain ⟨⟨q, hq, hqs⟩, _⟩ := hg.1 x hx
          exact ⟨q, (List.dropWhile_sublist _).subset hq, hqs⟩
      · rcases List.mem_append.1 hx with hx | hx
        · rw [(ho x hx).1]; exact (ho x hx).2
        · exact (hg.1 x hx).2.2.1
      · refine List.pairwise_append.2 ⟨?_, hg.2, fun a ha b hb => ?_⟩
        · unfold outG
          split <;> simp
        · rw [(ho a ha).1]
          obtain ⟨⟨q, hq, hqs⟩, _⟩ := hg.1 b hb
          show cmpB r.sku b.sku < 0
          rw [← hqs]
          exact sku_lt hs q hq
      · have ha' : a = ⟨r.sku, joinG (r :: l)⟩ := by
          rcases List.mem_append.1 ha with ha | ha
          · exact (ho a ha).1
          · exact absurd ha0 (hne a ha)
        have hb' : b ∈ foldF l.length ((r :: l).dropWhile (sameSku r.sku)) (joinG (r :: l)) := by
          rcases List.mem_append.1 hb with hb | hb
          · rw [(ho b hb).1] at hb0; exact absurd hz hb0
          · exact hb
        rw [ha']
        exact (hg.1 b hb').2.2.2 d hbd
    · have hne := sku_all hs hz
      have hg := foldF_good (r :: l).length (r :: l) ⟨[], []⟩ (Nat.le_refl _) hs hne
      have hcan : ∀ x ∈ foldF (r :: l).length (r :: l) ⟨[], []⟩, CanP x.past := fun x hx => (hg.1 x hx).2.1
      unfold foldK
      rw [headN_can hcan]
      refine ⟨fun x hx => (hg.1 x hx).1, hcan, fun x hx => (hg.1 x hx).2.2.1, hg.2, fun a ha b hb ha0 => ?_⟩
      obtain ⟨⟨q, hq, hqs⟩, _⟩ := hg.1 a ha
      exact absurd ha0 (by rw [← hqs]; exact hne q hq)
theorem Folded.form {L K : List Rec} (h : Folded L K) (hL : ∀ q ∈ L, recErr q = 0) : FormK K := by
  refine ⟨fun i r hr => ?_, fun i a b ha hb => ?_⟩
  · have hm := List.mem_of_getElem? hr
    obtain ⟨q, hq, hqs⟩ := h.from_ r hm
    have h1 := hL q hq
    have h2 : isNormP r.past = true := isNormP_iff.2 (h.can r hm)
    have h3 := h.size r hm
    unfold recErr at h1 ⊢
    rw [← hqs]
    split at h1
    · cases h1
    · rename_i h4
      rw [if_neg h4, if_neg]
      rintro (h5 | h5)
      · rw [h2] at h5; cases h5
      · exact h3 h5
  · have hab : ltS a b := by
      have h1 : i < K.length := by
        rcases Nat.lt_or_ge i K.length with h' | h'
        · exact h'
        · rw [List.getElem?_eq_none h'] at ha; cases ha
      have h2 : i + 1 < K.length := by
        rcases Nat.lt_or_ge (i + 1) K.length with h' | h'
        · exact h'
        · rw [List.getElem?_eq_none h'] at hb; cases hb
      have := List.pairwise_iff_getElem.1 h.lt i (i + 1) h1 h2 (by omega)
      rw [List.getElem?_eq_getElem h1, Option.some.injEq] at ha
      rw [List.getElem?_eq_getElem h2, Option.some.injEq] at hb
      rw [ha, hb] at this
      exact this
    unfold ltS at hab
    unfold cmpR
    rw [if_neg (by omega)]
    exact hab
theorem Folded.one {L K : List Rec} (h : Folded L K) (e : Ent) : barsK K e ≤ 1 := by
  unfold barsK
  have hp : (K.filter fun r => covK r e).Pairwise ltS := h.lt.filter _
  have hm : ∀ r ∈ K.filter (fun r => covK r e), r ∈ K ∧ covK r e = true := fun r hr => List.mem_filter.1 hr
  generalize K.filter (fun r => covK r e) = F at hp hm
  match F, hp, hm with
  | [], _, _ => exact Nat.zero_le _
  | [a], _, _ => exact Nat.le_refl _
  | a :: b :: F, hp, hm =>
    exfalso
    obtain ⟨ha, hac⟩ := hm a (by simp)
    obtain ⟨hb, hbc⟩ := hm b (by simp)
    have hab : ltS a b := (List.pairwise_cons.1 hp).1 b (by simp)
    have hne : a.sku ≠ b.sku := fun he => by
      unfold ltS at hab
      rw [he, cmpB_zero.2 rfl] at hab
      omega
    obtain ⟨h1, h2⟩ := (covK_iff a e).1 hac
    obtain ⟨h3, h4⟩ := (covK_iff b e).1 hbc
    by_cases ha0 : a.sku.size = 0
    · by_cases hb0 : b.sku.size = 0
      · exact hne (by rw [size_zero.2 ha0, size_zero.2 hb0])
      · have := h.apart a ha b hb ha0 hb0 e.dot h4
        rw [h2] at this; cases this
    · by_cases hb0 : b.sku.size = 0
      · have := h.apart b hb a ha hb0 ha0 e.dot h2
        rw [h4] at this; cases this
      · exact hne ((h1.resolve_left ha0).trans (h3.resolve_left hb0).symm)

theorem lt_ne {a b : ByteArray} (h : cmpB a b < 0) : b.size ≠ 0 := by
  intro hb
  have h1 : bs b = [] := by
    have := bs_len b
    rw [hb] at this
    exact List.length_eq_zero_iff.1 this
  unfold cmpB at h
  rw [h1] at h
  cases h3 : bs a with
  | nil => rw [h3] at h; simp [lexI] at h
  | cons x l => rw [h3] at h; simp [lexI] at h
theorem group_one {r : Rec} {K : List Rec} (hp : (r :: K).Pairwise ltS) (hc : CanP r.past) : joinG (r :: K) = r.past ∧ (r :: K).dropWhile (sameSku r.sku) = K := by
  have h := takeWhile_take (p := sameSku r.sku) (l := r :: K) (m := 1) (fun x hx => by simp at hx; subst hx; simp [sameSku]) (fun x hx => by
    have hm : x ∈ K := List.mem_of_getElem? (by simpa using hx)
    have := (List.pairwise_cons.1 hp).1 x hm
    refine decide_eq_false fun he => ?_
    unfold ltS at this
    rw [he, cmpB_zero.2 rfl] at this
    omega)
  refine ⟨?_, by rw [h.2]; rfl⟩
  unfold joinG headG
  simp only
  rw [h.1]
  exact hc
theorem minus_apart {p all : Pst} (hc : CanP p) (h : ∀ d, hasP p d = true → hasP all d = false) : minusP p all = p := by
  refine (canP_minus _ _).ext hc fun r hr n => ?_
  rw [minusP_in _ _ hr]
  constructor
  · exact fun h => h.1
  · intro hi
    refine ⟨hi, fun ha => ?_⟩
    have h1 : hasP p ((r : Int), n) = true := (hasP_iff p _).2 ⟨by show (0 : Int) ≤ (r : Int); omega, by simpa using hi⟩
    have h2 : hasP all ((r : Int), n) = true := (hasP_iff all _).2 ⟨by show (0 : Int) ≤ (r : Int); omega, by simpa using ha⟩
    rw [h _ h1] at h2
    cases h2
theorem foldF_rest : ∀ (n : Nat) (K : List Rec) (all : Pst), K.length ≤ n → K.Pairwise ltS → (∀ r ∈ K, r.sku.size ≠ 0 ∧ CanP r.past ∧ sizeP r.past ≠ 0 ∧ ∀ d, hasP r.past d = true → hasP all d = false) → foldF n K all = K
  | 0, K, all, h, _, _ => by
    have : K = [] := List.length_eq_zero_iff.1 (by omega)
    subst this
    rfl
  | n + 1, [], all, _, _, _ => rfl
  | n + 1, r :: K, all, h, hp, hk => by
    obtain ⟨h1, h2, h3, h4⟩ := hk r (by simp)
    obtain ⟨g1, g2⟩ := group_one hp h2
    have ih := foldF_rest n K all (by simp at h; omega) (List.pairwise_cons.1 hp).2 (fun x hx => hk x (by simp [hx]))
    show outG r.sku (newG all r.sku (joinG (r :: K))) ++ foldF n ((r :: K).dropWhile (sameSku r.sku)) (allG all r.sku (joinG (r :: K))) = _
    rw [show newG all r.sku (joinG (r :: K)) = minusP (joinG (r :: K)) all from if_neg h1, show allG all r.sku (joinG (r :: K)) = all from if_neg h1, g1, g2, ih, minus_apart h2 h4]
    rw [show outG r.sku r.past = [⟨r.sku, r.past⟩] from if_neg h3]
    rfl
theorem Folded.rest {L K : List Rec} (h : Folded L K) : foldK K = K := by
  have hhd : foldF K.length K ⟨[], []⟩ = K := by
    cases K with
    | nil => rfl
    | cons r K =>
      have hlt := (List.pairwise_cons.1 h.lt).1
      have hne : ∀ x ∈ K, x.sku.size ≠ 0 := fun x hx => lt_ne (hlt x hx)
      by_cases hz : r.sku.size = 0
      · obtain ⟨g1, g2⟩ := group_one h.lt (h.can r (by simp))
        show outG r.sku (newG ⟨[], []⟩ r.sku (joinG (r :: K))) ++ foldF K.length ((r :: K).dropWhile (sameSku r.sku)) (allG ⟨[], []⟩ r.sku (joinG (r :: K))) = _
        rw [show newG ⟨[], []⟩ r.sku (joinG (r :: K)) = joinG (r :: K) from if_pos hz, show allG ⟨[], []⟩ r.sku (joinG (r :: K)) = joinG (r :: K) from if_pos hz, g1, g2]
        rw [foldF_rest K.length K r.past (Nat.le_refl _) (List.pairwise_cons.1 h.lt).2 (fun x hx => ⟨hne x hx, h.can x (by simp [hx]), h.size x (by simp [hx]), fun d hd => h.apart r (by simp) x (by simp [hx]) hz (hne x hx) d hd⟩)]
        rw [show outG r.sku r.past = [⟨r.sku, r.past⟩] from if_neg (h.size r (by simp))]
        rfl
      · refine foldF_rest (r :: K).length (r :: K) ⟨[], []⟩ (Nat.le_refl _) h.lt fun x hx => ⟨?_, h.can x hx, h.size x hx, fun d _ => has_nil d⟩
        rcases List.mem_cons.1 hx with rfl | hx
        · exact hz
        · exact hne x hx
  unfold foldK
  rw [hhd]
  exact headN_can h.can

def pairsF : List Int → List (Int × Int)
  | a :: b :: l => (a, b) :: pairsF l
  | _ => []
def runD (r : Nat) (a b : Int) : List Rn := (List.range (b - a).toNat).map fun k : Nat => ((r : Int), a + (k : Int))
def rowD (r : Nat) (u : List Int) : List Rn := (pairsF u).flatMap fun x => runD r x.1 x.2
def rowsD : Nat → List (List Int) → List Rn
  | _, [] => []
  | r, u :: l => rowD r u ++ rowsD (r + 1) l
theorem runD_step (r : Nat) {a b : Int} (h : a < b) : runD r a b = ((r : Int), a) :: runD r (a + 1) b := by
  unfold runD
  obtain ⟨n, hn⟩ : ∃ n : Nat, (b - a).toNat = n + 1 := ⟨(b - a).toNat - 1, by omega⟩
  rw [hn, show (b - (a + 1)).toNat = n by omega, List.range_succ_eq_map]
  simp only [List.map_cons, List.map_map]
  congr 1
  · simp
  · apply List.map_congr_left
    intro k _
    simp
    omega
theorem runD_end (r : Nat) {a b : Int} (h : ¬ a < b) : runD r a b = [] := by
  unfold runD
  rw [show (b - a).toNat = 0 by omega]
  rfl
theorem rowD_step {r : Nat} {u : List Int} {i : Nat} {a b : Int} (ha : u[i]? = some a) (hb : u[i + 1]? = some b) : rowD r (u.drop i) = runD r a b ++ rowD r (u.drop (i + 2)) := by
  have h1 : i + 1 < u.length := by
    rcases Nat.lt_or_ge (i + 1) u.length with h | h
    · exact h
    · rw [List.getElem?_eq_none h] at hb; cases hb
  rw [List.getElem?_eq_getElem (by omega), Option.some.injEq] at ha
  rw [List.getElem?_eq_getElem h1, Option.some.injEq] at hb
  have hd : u.drop i = a :: b :: u.drop (i + 2) := by
    rw [List.drop_eq_getElem_cons (by omega), List.drop_eq_getElem_cons h1, ha, hb]
  rw [hd]
  rfl
theorem rowD_end {r : Nat} {u : List Int} {i : Nat} (h : u.length ≤ i + 1) : rowD r (u.drop i) = [] := by
  have hl : (u.drop i).length ≤ 1 := by rw [List.length_drop]; omega
  generalize u.drop i = v at hl
  match v, hl with
  | [], _ => rfl
  | [a], _ => rfl
def dotsN (p : Pst) (m : Nat) : List Rn := (rowsD 0 (meanT [p])).take m
def dotsB (p : Pst) (m : Nat) : Bool := decide ((rowsD 0 (meanT [p])).length ≤ m)

def r_k29_1 : List SOp :=
  [⟨(some 2), (.box 27 (.tmp 0)), none⟩, ⟨(some 4), (.assign (.const (.slice none 0 0))), none⟩, ⟨(some 5), (.assign (.const (.bool false))), none⟩]
instance : Live r_k29_1 := ⟨[0, 1]⟩
def r_k29_2 : List SOp :=
  [⟨(some 11), (.move (.tmp 1)), none⟩, ⟨(some 12), (.call ⟨.builtin .max, #[.tmp 11, .const (.int .i64 0)], #[3, 3]⟩), none⟩, ⟨(some 13), (.call ⟨.builtin .min, #[.tmp 12, .const (.int .i64 10000)], #[3, 3]⟩), none⟩, ⟨(some 1), (.assign (.tmp 13)), none⟩]
instance : Live r_k29_2 := ⟨[1, 2]⟩
def r_k29_3 : List SOp :=
  [⟨(some 14), (.load 27 (.tmp 2)), none⟩, ⟨(some 15), (.call ⟨.value (.func 74), #[.tmp 14], #[27]⟩), none⟩, ⟨(some 6), (.alloc 105), none⟩, ⟨none, (.store 105 (.tmp 6) (.tmp 15)), none⟩]
instance : Live r_k29_3 := ⟨[1, 2]⟩
def r_k29_4 : List SOp :=
  [⟨(some 7), (.assign (.const (.slice none 0 0))), none⟩]
instance : Live r_k29_4 := ⟨[1, 6]⟩
def r_k29_5 : List SOp :=
  [⟨(some 8), (.assign (.const (.int .i64 0))), none⟩]
instance : Live r_k29_5 := ⟨[1, 6, 7]⟩
def r_k29_6 : List SOp :=
  [⟨(some 16), (.move (.tmp 8)), none⟩, ⟨(some 17), (.binOp .lss 3 (.tmp 16) (.const (.int .i64 16)) 3), none⟩]
instance : Live r_k29_6 := ⟨[1, 6, 7, 8]⟩
def r_k29_7 : List SOp :=
  [⟨(some 9), (.assign (.const (.int .i64 0))), none⟩]
instance : Live r_k29_7 := ⟨[1, 6, 7, 8]⟩
def r_k29_8 : List SOp :=
  [⟨(some 20), (.move (.tmp 9)), none⟩, ⟨(some 21), (.binOp .add 3 (.tmp 20) (.const (.int .i64 1)) 3), none⟩, ⟨(some 22), (.move (.tmp 8)), none⟩, ⟨(some 23), (.fieldAddr 105 (.tmp 6) 0), none⟩, ⟨(some 24), (.indexAddr 103 (.tmp 23) (.tmp 22)), none⟩, ⟨(some 25), (.load 24 (.tmp 24)), none⟩, ⟨(some 26), (.call ⟨.builtin .len, #[.tmp 25], #[24]⟩), none⟩, ⟨(some 27), (.binOp .lss 3 (.tmp 21) (.tmp 26) 3), none⟩]
instance : Live r_k29_8 := ⟨[1, 6, 7, 8, 9]⟩
def r_k29_9 : List SOp :=
  [⟨(some 30), (.move (.tmp 8)), none⟩, ⟨(some 31), (.fieldAddr 105 (.tmp 6) 0), none⟩, ⟨(some 32), (.indexAddr 103 (.tmp 31) (.tmp 30)), none⟩, ⟨(some 33), (.load 24 (.tmp 32)), none⟩, ⟨(some 34), (.move (.tmp 9)), none⟩, ⟨(some 35), (.indexAddr 24 (.tmp 33) (.tmp 34)), none⟩, ⟨(some 36), (.load 3 (.tmp 35)), none⟩, ⟨(some 10), (.assign (.tmp 36)), none⟩]
instance : Live r_k29_9 := ⟨[1, 6, 7, 8, 9]⟩
def r_k29_10 : List SOp :=
  [⟨(some 37), (.move (.tmp 10)), none⟩, ⟨(some 38), (.move (.tmp 8)), none⟩, ⟨(some 39), (.fieldAddr 105 (.tmp 6) 0), none⟩, ⟨(some 40), (.indexAddr 103 (.tmp 39) (.tmp 38)), none⟩, ⟨(some 41), (.load 24 (.tmp 40)), none⟩, ⟨(some 42), (.move (.tmp 9)), none⟩, ⟨(some 43), (.binOp .add 3 (.tmp 42) (.const (.int .i64 1)) 3), none⟩, ⟨(some 44), (.indexAddr 24 (.tmp 41) (.tmp 43)), none⟩, ⟨(some 45), (.load 3 (.tmp 44)), none⟩, ⟨(some 46), (.binOp .lss 3 (.tmp 37) (.tmp 45) 3), none⟩]
instance : Live r_k29_10 := ⟨[1, 6, 7, 8, 9, 10]⟩
def r_k29_11 : List SOp :=
  [⟨(some 49), (.move (.tmp 7)), none⟩, ⟨(some 50), (.call ⟨.builtin .len, #[.tmp 49], #[51]⟩), none⟩, ⟨(some 51), (.move (.tmp 1)), none⟩, ⟨(some 52), (.binOp .eql 3 (.tmp 50) (.tmp 51) 3), none⟩]
instance : Live r_k29_11 := ⟨[1, 6, 7, 8, 9, 10]⟩
def r_k29_12 : List SOp :=
  [⟨(some 53), (.move (.tmp 7)), none⟩, ⟨(some 4), (.assign (.tmp 53)), none⟩, ⟨(some 5), (.assign (.const (.bool false))), none⟩]
instance : Live r_k29_12 := ⟨[7]⟩
def r_k29_13 : List SOp :=
  [⟨(some 54), (.move (.tmp 7)), none⟩, ⟨(some 55), (.move (.tmp 8)), none⟩, ⟨(some 56), (.move (.tmp 10)), none⟩, ⟨(some 57), (.build 47 #[(0, .tmp 55), (1, .tmp 56)]), none⟩, ⟨(some 58), (.buildSlice 51 1 #[(0, .tmp 57)]), none⟩, ⟨(some 59), (.call ⟨.builtin .append, #[.tmp 54, .tmp 58], #[51, 51]⟩), none⟩, ⟨(some 7), (.assign (.tmp 59)), none⟩]
instance : Live r_k29_13 := ⟨[1, 6, 7, 8, 9, 10]⟩
def r_k29_14 : List SOp :=
  [⟨(some 47), (.move (.tmp 10)), none⟩, ⟨(some 48), (.binOp .add 3 (.tmp 47) (.const (.int .i64 1)) 3), none⟩, ⟨(some 10), (.assign (.tmp 48)), none⟩]
instance : Live r_k29_14 := ⟨[1, 6, 7, 8, 9, 10]⟩
def r_k29_15 : List SOp :=
  [⟨(some 28), (.move (.tmp 9)), none⟩, ⟨(some 29), (.binOp .add 3 (.tmp 28) (.const (.int .i64 2)) 3), none⟩, ⟨(some 9), (.assign (.tmp 29)), none⟩]
instance : Live r_k29_15 := ⟨[1, 6, 7, 8, 9]⟩
def r_k29_16 : List SOp :=
  [⟨(some 18), (.move (.tmp 8)), none⟩, ⟨(some 19), (.binOp .add 3 (.tmp 18) (.const (.int .i64 1)) 3), none⟩, ⟨(some 8), (.assign (.tmp 19)), none⟩]
instance : Live r_k29_16 := ⟨[1, 6, 7, 8]⟩
def r_k29_17 : List SOp :=
  [⟨(some 60), (.move (.tmp 7)), none⟩, ⟨(some 4), (.assign (.tmp 60)), none⟩, ⟨(some 5), (.assign (.const (.bool true))), none⟩]
instance : Live r_k29_17 := ⟨[7]⟩
def t_k29_l3 : SC :=
  (.seq (.seq (.ops false r_k29_10) (.cond (.tmp 46) .skip (.exit 4))) (.seq (.block 5 (.seq (.seq (.ops false r_k29_11) (.cond (.tmp 52) (.seq (.ops false r_k29_12) .ret) .skip)) (.ops false r_k29_13))) (.ops false r_k29_14)))
def t_k29_l2 : SC :=
  (.seq (.seq (.ops false r_k29_8) (.cond (.tmp 27) .skip (.exit 2))) (.seq (.block 3 (.seq (.ops false r_k29_9) (.block 4 (.loop t_k29_l3)))) (.ops false r_k29_15)))
def t_k29_l1 : SC :=
  (.seq (.seq (.ops false r_k29_6) (.cond (.tmp 17) .skip (.exit 0))) (.seq (.block 1 (.seq (.ops false r_k29_7) (.block 2 (.loop t_k29_l2)))) (.ops false r_k29_16)))
def t_k29 : SC :=
  (.seq (.ops false r_k29_1) (.seq (.ops false r_k29_2) (.seq (.ops false r_k29_3) (.seq (.ops false r_k29_4) (.seq (.seq (.ops false r_k29_5) (.block 0 (.loop t_k29_l1))) (.seq (.ops false r_k29_17) .ret))))))
theorem it_k29 : FnIs Tryz.prog 29 61 [.tmp 4, .tmp 5] t_k29 := ⟨Tryz.f29, _, Tryz.func29, rfl, rfl, rfl, rfl, by kernel_rfl⟩

structure DtS where
  i : Nat
  out : List Rn
structure DnS where
  n : Int
  out : List Rn
theorem dots_full {out rest ALL : List Rn} {x : Rn} {m : Nat} (h : out ++ (x :: rest) = ALL) (hl : out.length = m) : ALL.take m = out ∧ decide (ALL.length ≤ m) = false := by
  subst h
  refine ⟨by rw [List.take_append_of_le_length (by omega), List.take_of_length_le (by omega)], ?_⟩
  simp
  omega
theorem ev_k29 (p : Pst) (hw : wt p ≤ 40000000) : Ev (En Tryz.prog rfl).P 29 [encP p, .int .i64 12] (.ret (.tup [.sl 2 (encRs (dotsN p 12)), .bool (dotsB p 12)])) := by
  refine Ev.of_body it_k29 (by simp) (Run.start ?_)
  unfold t_k29 encP
  have hS := encSet_stb1
  have hL := encSet_fzc
  have c1 := ev_k74 p (by omega)
  have h16 := meanT_len [p]
  have g16 : (encSet (meanT [p])).length = 16 := by simp [encSet, h16]
  have hone := encSet_one (meanT [p])
  have hst := encSet_stb (meanT [p])
  have hrow : ∀ r, r < 16 → (∀ x ∈ (meanT [p]).getD r [], 1 ≤ x ∧ x ≤ 1000000001) ∧ ((meanT [p]).getD r []).length ≤ 1000000000 := fun r hr => by
    rw [meanT_at p hr]
    have ht := (openT_le [p]).2 r
    refine ⟨turnsC_bound (normR_can _), ?_⟩
    show (turnsC (normR ((openT [p]).getD r []))).length ≤ _
    rw [turnsC_len]
    have := normR_len ((openT [p]).getD r [])
    simp only [List.map_cons, List.map_nil, List.sum_cons, List.sum_nil] at ht
    omega
  have hget : ∀ r, r < 16 → (encSet (meanT [p]))[r]? = some (.sl 1 (encIs ((meanT [p]).getD r []))) := fun r hr => encSet_get (by omega)
  have hdrop : ∀ r, r < 16 → rowsD r ((meanT [p]).drop r) = rowD r ((meanT [p]).getD r []) ++ rowsD (r + 1) ((meanT [p]).drop (r + 1)) := fun r hr => by
    rw [List.drop_eq_getElem_cons (by omega)]
    show rowD r _ ++ _ = _
    rw [show (meanT [p]).getD r [] = (meanT [p])[r]'(by omega) by simp [List.getD_eq_getElem?_getD, show r < (meanT [p]).length by omega]]
  have hR0 : [] ++ rowsD 0 ((meanT [p]).drop 0) = rowsD 0 (meanT [p]) := rfl
  unfold dotsN dotsB
  have hend : rowsD 16 ((meanT [p]).drop 16) = [] := by rw [List.drop_eq_nil_of_le (by omega)]; rfl
  generalize rowsD 0 (meanT [p]) = ALL at hR0 ⊢
  generalize meanT [p] = T at *
  have hmx : min (max (12 : Int) 0) 10000 = 12 := by decide
  (focus (have hF := (And.intro @g16 (And.intro @hone @hmx)); (repeat' (first | with_reducible refine Nx.of ?_ | ((with_reducible apply toV); refine stV (k:=?_)) | ((with_reducible apply toG); refine stG (k:=?_)) | ((with_reducible apply toG0); refine stG0 (k:=?_)) | ((with_reducible apply toC); refine stC (k:=?_)) | ((with_reducible apply toO); refine stO (k:=?_)) | ((with_reducible apply toX); refine stX (k:=?_)) | with_reducible refine Ny.of ?_ ?_ | (refine Hyp.of ?_; intro hc; (try simp only [hc]); (try simp only [Bh] at hc)))); all_goals clear hF))
  refine stCall [encP p] (he := c1) (k:=?_)
  (focus (have hF := (And.intro @g16 (And.intro @hone @hmx)); (repeat' (first | with_reducible refine Nx.of ?_ | ((with_reducible apply toV); refine stV (k:=?_)) | ((with_reducible apply toG); refine stG (k:=?_)) | ((with_reducible apply toG0); refine stG0 (k:=?_)) | ((with_reducible apply toC); refine stC (k:=?_)) | ((with_reducible apply toO); refine stO (k:=?_)) | ((with_reducible apply toX); refine stX (k:=?_)) | with_reducible refine Ny.of ?_ ?_ | (refine Hyp.of ?_; intro hc; (try simp only [hc]); (try simp only [Bh] at hc)))); all_goals clear hF))
  refine Run.wk (Wk.own_nil 7 59 2 rfl rfl) ?_
  refine Run.while (σ := DtS) (fun z => ⟨tms [(1, .int .i64 12), (6, .ptr 6 0), (7, .os 59 z.out.length), (8, .int .i64 (z.i : Int))], mms [(6, .cells (encSet T)), (59, .arr z.out.length 2 (encRs z.out))]⟩)
    (fun z => z.i ≤ 16 ∧ z.out.length ≤ 12 ∧ z.out ++ rowsD z.i (T.drop z.i) = ALL) (fun z => 16 - z.i) ⟨0, []⟩ (have hW := (And.intro @hst @encRs_stb); stWk) ⟨Nat.zero_le _, Nat.zero_le _, hR0⟩ ?_
  rintro ⟨r, out⟩ ⟨hr, ho, hf⟩
  dsimp only at *
  unfold t_k29_l1
  by_cases hlt : r < 16
  · have g1 := hget r hlt
    have hb := (hrow r hlt).1
    have hl := (hrow r hlt).2
    rw [hdrop r hlt] at hf
    have e1 := encIs_len (T.getD r [])
    generalize T.getD r [] = u at *
    (focus (have hF := (And.intro (And.intro @g16 @hone) (And.intro @g1 @e1)); (repeat' (first | with_reducible refine Nx.of ?_ | ((with_reducible apply toV); refine stV (k:=?_)) | ((with_reducible apply toG); refine stG (k:=?_)) | ((with_reducible apply toG0); refine stG0 (k:=?_)) | ((with_reducible apply toC); refine stC (k:=?_)) | ((with_reducible apply toO); refine stO (k:=?_)) | ((with_reducible apply toX); refine stX (k:=?_)) | with_reducible refine Ny.of ?_ ?_ | (refine Hyp.of ?_; intro hc; (try simp only [hc]); (try simp only [Bh] at hc)))); all_goals clear hF))
    refine Run.while (σ := DtS) (fun z => ⟨tms [(1, .int .i64 12), (6, .ptr 6 0), (7, .os 59 z.out.length), (8, .int .i64 (r : Int)), (9, .int .i64 (z.i : Int))], mms [(6, .cells (encSet T)), (59, .arr z.out.length 2 (encRs z.out))]⟩)
      (fun z => z.i ≤ u.length + 1 ∧ z.out.length ≤ 12 ∧ z.out ++ (rowD r (u.drop z.i) ++ rowsD (r + 1) (T.drop (r + 1))) = ALL) (fun z => u.length + 1 - z.i) ⟨0, out⟩ (have hW := (And.intro @hst @encRs_stb); stWk) ⟨Nat.zero_le _, ho, hf⟩ ?_
    rintro ⟨i, out⟩ ⟨hi, ho, hf⟩
    dsimp only at *
    unfold t_k29_l2
    by_cases hil : i + 1 < u.length
    · obtain ⟨a, ha⟩ : ∃ a, u[i]? = some a := ⟨u[i], by simp [show i < u.length by omega]⟩
      obtain ⟨b, hbb⟩ : ∃ b, u[i + 1]? = some b := ⟨u[i + 1], by simp [hil]⟩
      have g2 : (encIs u)[i]? = some (.int .i64 a) := encIs_get ha
      have g3 : (encIs u)[i + 1]? = some (.int .i64 b) := encIs_get hbb
      have hab := hb a (List.mem_of_getElem? ha)
      have hbb2 := hb b (List.mem_of_getElem? hbb)
      have e9 : (i : Int) + 1 = ((i + 1 : Nat) : Int) := by omega
      rw [rowD_step ha hbb, List.append_assoc] at hf
      (focus (have hF := (And.intro (And.intro @g16 (And.intro @hone @g1)) (And.intro (And.intro @e1 @g2) (And.intro @g3 @e9))); (repeat' (first | with_reducible refine Nx.of ?_ | ((with_reducible apply toV); refine stV (k:=?_)) | ((with_reducible apply toG); refine stG (k:=?_)) | ((with_reducible apply toG0); refine stG0 (k:=?_)) | ((with_reducible apply toC); refine stC (k:=?_)) | ((with_reducible apply toO); refine stO (k:=?_)) | ((with_reducible apply toX); refine stX (k:=?_)) | with_reducible refine Ny.of ?_ ?_ | (refine Hyp.of ?_; intro hc; (try simp only [hc]); (try simp only [Bh] at hc)))); all_goals clear hF))
      refine Run.while (σ := DnS) (fun z => ⟨tms [(1, .int .i64 12), (6, .ptr 6 0), (7, .os 59 z.out.length), (8, .int .i64 (r : Int)), (9, .int .i64 (i : Int)), (10, .int .i64 z.n)], mms [(6, .cells (encSet T)), (59, .arr z.out.length 2 (encRs z.out))]⟩)
        (fun z => 1 ≤ z.n ∧ z.n ≤ 1000000001 ∧ z.out.length ≤ 12 ∧ z.out ++ (runD r z.n b ++ (rowD r (u.drop (i + 2)) ++ rowsD (r + 1) (T.drop (r + 1)))) = ALL) (fun z => (b - z.n).toNat) ⟨a, out⟩ (have hW := (And.intro @hst @encRs_stb); stWk) ⟨hab.1, hab.2, ho, hf⟩ ?_
      rintro ⟨n, out⟩ ⟨n1, n2, ho, hf⟩
      dsimp only at *
      unfold t_k29_l3
      have e3 := encRs_len out
      by_cases hnb : n < b
      · rw [runD_step r hnb] at hf
        by_cases hfull : out.length = 12
        · obtain ⟨q1, q2⟩ := dots_full (m := 12) hf hfull
          rw [q1, q2]
          have hfi : (out.length : Int) = 12 := by omega
          (focus (have hF := (And.intro (And.intro (And.intro @g16 @hone) (And.intro @g1 (And.intro @e1 @g2))) (And.intro (And.intro @g3 @e9) (And.intro @e3 (And.intro @hnb @hfi)))); (repeat' (first | with_reducible refine Nx.of ?_ | ((with_reducible apply toV); refine stV (k:=?_)) | ((with_reducible apply toG); refine stG (k:=?_)) | ((with_reducible apply toG0); refine stG0 (k:=?_)) | ((with_reducible apply toC); refine stC (k:=?_)) | ((with_reducible apply toO); refine stO (k:=?_)) | ((with_reducible apply toX); refine stX (k:=?_)) | with_reducible refine Ny.of ?_ ?_ | (refine Hyp.of ?_; intro hc; (try simp only [hc]); (try simp only [Bh] at hc)))); all_goals clear hF))
          exact Fin.two (x := .sl 2 (encRs out)) (by simp [fz, fzc, allK, upd, tms, mms]) (encRs_stb _) rfl rfl (.inl rfl) (.inl rfl)
        · have hfi : ¬ (out.length : Int) = 12 := by omega
          (focus (have hF := (And.intro (And.intro (And.intro @g16 @hone) (And.intro @g1 (And.intro @e1 @g2))) (And.intro (And.intro @g3 @e9) (And.intro @e3 (And.intro @hnb @hfi)))); (repeat' (first | with_reducible refine Nx.of ?_ | ((with_reducible apply toV); refine stV (k:=?_)) | ((with_reducible apply toG); refine stG (k:=?_)) | ((with_reducible apply toG0); refine stG0 (k:=?_)) | ((with_reducible apply toC); refine stC (k:=?_)) | ((with_reducible apply toO); refine stO (k:=?_)) | ((with_reducible apply toX); refine stX (k:=?_)) | with_reducible refine Ny.of ?_ ?_ | (refine Hyp.of ?_; intro hc; (try simp only [hc]); (try simp only [Bh] at hc)))); all_goals clear hF))
          (refine Fin.nextW (⟨n + 1, out ++ [((r : Int), n)]⟩) ?_ (have hW := (And.intro @hst (And.intro @encRs_stb @encRs_snoc)); stWk); (try dsimp only))
          exact ⟨⟨by omega, by omega, by simp; omega, by rw [List.append_assoc]; exact hf⟩, by omega⟩
      · rw [runD_end r hnb, List.nil_append] at hf
        have e8 : (i : Int) + 2 = ((i + 2 : Nat) : Int) := by omega
        (focus (have hF := (And.intro (And.intro (And.intro @g16 @hone) (And.intro @g1 @e1)) (And.intro (And.intro @g2 @g3) (And.intro @e9 (And.intro @e8 @hnb)))); (repeat' (first | with_reducible refine Nx.of ?_ | ((with_reducible apply toV); refine stV (k:=?_)) | ((with_reducible apply toG); refine stG (k:=?_)) | ((with_reducible apply toG0); refine stG0 (k:=?_)) | ((with_reducible apply toC); refine stC (k:=?_)) | ((with_reducible apply toO); refine stO (k:=?_)) | ((with_reducible apply toX); refine stX (k:=?_)) | with_reducible refine Ny.of ?_ ?_ | (refine Hyp.of ?_; intro hc; (try simp only [hc]); (try simp only [Bh] at hc)))); all_goals clear hF))
        (refine Fin.nextW (⟨i + 2, out⟩) ?_ (have hW := (And.intro @hst @encRs_stb); stWk); (try dsimp only))
        exact ⟨⟨by omega, ho, hf⟩, by omega⟩
    · rw [rowD_end (by omega), List.nil_append] at hf
      (focus (have hF := (And.intro (And.intro @g16 @hone) (And.intro @g1 @e1)); (repeat' (first | with_reducible refine Nx.of ?_ | ((with_reducible apply toV); refine stV (k:=?_)) | ((with_reducible apply toG); refine stG (k:=?_)) | ((with_reducible apply toG0); refine stG0 (k:=?_)) | ((with_reducible apply toC); refine stC (k:=?_)) | ((with_reducible apply toO); refine stO (k:=?_)) | ((with_reducible apply toX); refine stX (k:=?_)) | with_reducible refine Ny.of ?_ ?_ | (refine Hyp.of ?_; intro hc; (try simp only [hc]); (try simp only [Bh] at hc)))); all_goals clear hF))
      (refine Fin.nextW (⟨r + 1, out⟩) ?_ (have hW := (And.intro @hst @encRs_stb); stWk); (try dsimp only))
      exact ⟨⟨hlt, ho, hf⟩, by omega⟩
  · have hr16 : r = 16 := by omega
    subst hr16
    rw [hend, List.append_nil] at hf
    subst hf
    rw [List.take_of_length_le ho, decide_eq_true ho]
    (focus (have hF := (And.intro @g16 @hone); (repeat' (first | with_reducible refine Nx.of ?_ | ((with_reducible apply toV); refine stV (k:=?_)) | ((with_reducible apply toG); refine stG (k:=?_)) | ((with_reducible apply toG0); refine stG0 (k:=?_)) | ((with_reducible apply toC); refine stC (k:=?_)) | ((with_reducible apply toO); refine stO (k:=?_)) | ((with_reducible apply toX); refine stX (k:=?_)) | with_reducible refine Ny.of ?_ ?_ | (refine Hyp.of ?_; intro hc; (try simp only [hc]); (try simp only [Bh] at hc)))); all_goals clear hF))
    exact Fin.two (x := .sl 2 (encRs out)) (by simp [fz, fzc, allK, upd, tms, mms]) (encRs_stb _) rfl rfl (.inl rfl) (.inl rfl)

def r_k5_1 : List SOp :=
  [⟨(some 1), (.box 29 (.tmp 0)), none⟩, ⟨(some 2), (.assign (.const (.bool false))), none⟩]
instance : Live r_k5_1 := ⟨[0]⟩
def r_k5_2 : List SOp :=
  [⟨(some 17), (.call ⟨.value (.func 11), #[], #[]⟩), none⟩, ⟨(some 18), (.unOp .not 4 (.tmp 17)), none⟩]
instance : Live r_k5_2 := ⟨[1]⟩
def r_k5_3 : List SOp :=
  [⟨(some 2), (.assign (.const (.bool false))), none⟩]
instance : Live r_k5_3 := ⟨[]⟩
def r_k5_4 : List SOp :=
  [⟨(some 20), (.fieldAddr 29 (.tmp 1) 0), none⟩, ⟨(some 21), (.load 22 (.tmp 20)), none⟩, ⟨(some 22), (.call ⟨.value (.func 28), #[.tmp 21], #[22]⟩), none⟩, ⟨(some 19), (.move (.tmp 22)), none⟩, ⟨(some 23), (.extract (.tmp 19) 0), none⟩, ⟨(some 24), (.extract (.tmp 19) 1), none⟩, ⟨(some 3), (.assign (.tmp 23)), none⟩, ⟨(some 4), (.assign (.tmp 24)), none⟩]
instance : Live r_k5_4 := ⟨[1]⟩
def r_k5_5 : List SOp :=
  [⟨(some 25), (.fieldAddr 29 (.tmp 1) 0), none⟩, ⟨(some 26), (.load 22 (.tmp 25)), none⟩, ⟨(some 27), (.call ⟨.value (.func 15), #[.tmp 26], #[22]⟩), none⟩, ⟨(some 28), (.binOp .neq 32 (.tmp 27) (.const (.int .i64 0)) 32), none⟩]
instance : Live r_k5_5 := ⟨[1, 3, 4]⟩
def r_k5_6 : List SOp :=
  [⟨(some 29), (.move (.tmp 4)), none⟩, ⟨(some 30), (.binOp .eql 32 (.tmp 29) (.const (.int .i64 1)) 32), none⟩, ⟨(some 2), (.assign (.tmp 30)), none⟩]
instance : Live r_k5_6 := ⟨[4]⟩
def r_k5_7 : List SOp :=
  [⟨(some 31), (.move (.tmp 4)), none⟩, ⟨(some 32), (.binOp .neq 32 (.tmp 31) (.const (.int .i64 0)) 32), none⟩, ⟨(some 33), (.move (.tmp 32)), none⟩, ⟨(some 34), (.move (.tmp 3)), (some ((some 33), false))⟩, ⟨(some 35), (.call ⟨.value (.func 15), #[.tmp 34], #[22]⟩), (some ((some 33), false))⟩, ⟨(some 36), (.binOp .neq 32 (.tmp 35) (.const (.int .i64 0)) 32), (some ((some 33), false))⟩, ⟨(some 37), (.pick (.tmp 33) (.const (.bool true)) (.tmp 36)), none⟩, ⟨(some 38), (.move (.tmp 37)), none⟩, ⟨(some 39), (.move (.tmp 3)), (some ((some 38), false))⟩, ⟨(some 40), (.call ⟨.value (.func 14), #[.tmp 39], #[22]⟩), (some ((some 38), false))⟩, ⟨(some 41), (.binOp .neq 32 (.tmp 40) (.const (.int .i64 0)) 32), (some ((some 38), false))⟩, ⟨(some 42), (.pick (.tmp 38) (.const (.bool true)) (.tmp 41)), none⟩]
instance : Live r_k5_7 := ⟨[1, 3, 4]⟩
def r_k5_8 : List SOp :=
  [⟨(some 2), (.assign (.const (.bool false))), none⟩]
instance : Live r_k5_8 := ⟨[]⟩
def r_k5_9 : List SOp :=
  [⟨(some 5), (.assign (.const (.int .i64 1))), none⟩]
instance : Live r_k5_9 := ⟨[1, 3]⟩
def r_k5_10 : List SOp :=
  [⟨(some 43), (.move (.tmp 5)), none⟩, ⟨(some 44), (.move (.tmp 3)), none⟩, ⟨(some 45), (.call ⟨.builtin .len, #[.tmp 44], #[22]⟩), none⟩, ⟨(some 46), (.binOp .lss 3 (.tmp 43) (.tmp 45) 3), none⟩]
instance : Live r_k5_10 := ⟨[1, 3, 5]⟩
def r_k5_11 : List SOp :=
  [⟨(some 49), (.move (.tmp 3)), none⟩, ⟨(some 50), (.move (.tmp 5)), none⟩, ⟨(some 51), (.indexAddr 22 (.tmp 49) (.tmp 50)), none⟩, ⟨(some 52), (.fieldAddr 39 (.tmp 51) 0), none⟩, ⟨(some 53), (.load 9 (.tmp 52)), none⟩, ⟨(some 54), (.move (.tmp 3)), none⟩, ⟨(some 55), (.move (.tmp 5)), none⟩, ⟨(some 56), (.binOp .sub 3 (.tmp 55) (.const (.int .i64 1)) 3), none⟩, ⟨(some 57), (.indexAddr 22 (.tmp 54) (.tmp 56)), none⟩, ⟨(some 58), (.fieldAddr 39 (.tmp 57) 0), none⟩, ⟨(some 59), (.load 9 (.tmp 58)), none⟩, ⟨(some 60), (.binOp .eql 9 (.tmp 53) (.tmp 59) 9), none⟩]
instance : Live r_k5_11 := ⟨[1, 3, 5]⟩
def r_k5_12 : List SOp :=
  [⟨(some 2), (.assign (.const (.bool false))), none⟩]
instance : Live r_k5_12 := ⟨[]⟩
def r_k5_13 : List SOp :=
  [⟨(some 47), (.move (.tmp 5)), none⟩, ⟨(some 48), (.binOp .add 3 (.tmp 47) (.const (.int .i64 1)) 3), none⟩, ⟨(some 5), (.assign (.tmp 48)), none⟩]
instance : Live r_k5_13 := ⟨[1, 3, 5]⟩
def r_k5_14 : List SOp :=
  [⟨(some 61), (.buildSlice 23 0 #[]), none⟩, ⟨(some 62), (.fieldAddr 29 (.tmp 1) 2), none⟩, ⟨(some 63), (.load 23 (.tmp 62)), none⟩, ⟨(some 64), (.call ⟨.builtin .append, #[.tmp 61, .tmp 63], #[23, 23]⟩), none⟩, ⟨(some 65), (.fieldAddr 29 (.tmp 1) 3), none⟩, ⟨(some 66), (.load 23 (.tmp 65)), none⟩, ⟨(some 67), (.call ⟨.builtin .append, #[.tmp 64, .tmp 66], #[23, 23]⟩), none⟩, ⟨(some 6), (.assign (.tmp 67)), none⟩]
instance : Live r_k5_14 := ⟨[1, 3]⟩
instance : Rd r_k5_14 := ⟨fun j => j == 1⟩
def r_k5_15 : List SOp :=
  [⟨(some 7), (.assign (.const (.int .i64 0))), none⟩]
instance : Live r_k5_15 := ⟨[1, 3, 6]⟩
def r_k5_16 : List SOp :=
  [⟨(some 68), (.move (.tmp 7)), none⟩, ⟨(some 69), (.fieldAddr 29 (.tmp 1) 0), none⟩, ⟨(some 70), (.load 22 (.tmp 69)), none⟩, ⟨(some 71), (.call ⟨.builtin .len, #[.tmp 70], #[22]⟩), none⟩, ⟨(some 72), (.binOp .lss 3 (.tmp 68) (.tmp 71) 3), none⟩]
instance : Live r_k5_16 := ⟨[1, 3, 6, 7]⟩
def r_k5_17 : List SOp :=
  [⟨(some 76), (.fieldAddr 29 (.tmp 1) 0), none⟩, ⟨(some 77), (.load 22 (.tmp 76)), none⟩, ⟨(some 78), (.move (.tmp 7)), none⟩, ⟨(some 79), (.indexAddr 22 (.tmp 77) (.tmp 78)), none⟩, ⟨(some 80), (.fieldAddr 39 (.tmp 79) 1), none⟩, ⟨(some 81), (.load 27 (.tmp 80)), none⟩, ⟨(some 82), (.call ⟨.value (.func 29), #[.tmp 81, .const (.int .i64 12)], #[27, 3]⟩), none⟩, ⟨(some 75), (.move (.tmp 82)), none⟩, ⟨(some 83), (.extract (.tmp 75) 0), none⟩, ⟨(some 84), (.extract (.tmp 75) 1), none⟩, ⟨(some 8), (.assign (.tmp 83)), none⟩, ⟨(some 9), (.assign (.tmp 84)), none⟩]
instance : Live r_k5_17 := ⟨[1, 3, 6, 7]⟩
def r_k5_18 : List SOp :=
  [⟨(some 10), (.assign (.const (.int .i64 0))), none⟩]
instance : Live r_k5_18 := ⟨[1, 3, 6, 7, 8]⟩
def r_k5_19 : List SOp :=
  [⟨(some 85), (.move (.tmp 10)), none⟩, ⟨(some 86), (.move (.tmp 8)), none⟩, ⟨(some 87), (.call ⟨.builtin .len, #[.tmp 86], #[51]⟩), none⟩, ⟨(some 88), (.binOp .lss 3 (.tmp 85) (.tmp 87) 3), none⟩]
instance : Live r_k5_19 := ⟨[1, 3, 6, 7, 8, 10]⟩
def r_k5_20 : List SOp :=
  [⟨(some 91), (.move (.tmp 6)), none⟩, ⟨(some 92), (.move (.tmp 8)), none⟩, ⟨(some 93), (.move (.tmp 10)), none⟩, ⟨(some 94), (.indexAddr 51 (.tmp 92) (.tmp 93)), none⟩, ⟨(some 95), (.load 47 (.tmp 94)), none⟩, ⟨(some 96), (.fieldAddr 29 (.tmp 1) 0), none⟩, ⟨(some 97), (.load 22 (.tmp 96)), none⟩, ⟨(some 98), (.move (.tmp 7)), none⟩, ⟨(some 99), (.indexAddr 22 (.tmp 97) (.tmp 98)), none⟩, ⟨(some 100), (.fieldAddr 39 (.tmp 99) 0), none⟩, ⟨(some 101), (.load 9 (.tmp 100)), none⟩, ⟨(some 102), (.build 49 #[(0, .tmp 95), (1, .tmp 101), (2, .const (.int .i64 1))]), none⟩, ⟨(some 103), (.move (.tmp 8)), none⟩, ⟨(some 104), (.move (.tmp 10)), none⟩, ⟨(some 105), (.indexAddr 51 (.tmp 103) (.tmp 104)), none⟩, ⟨(some 106), (.load 47 (.tmp 105)), none⟩, ⟨(some 107), (.build 49 #[(0, .tmp 106), (1, .const (.string ⟨#[90, 90, 57]⟩)), (2, .const (.int .i64 1))]), none⟩, ⟨(some 108), (.buildSlice 23 2 #[(0, .tmp 102), (1, .tmp 107)]), none⟩, ⟨(some 109), (.call ⟨.builtin .append, #[.tmp 91, .tmp 108], #[23, 23]⟩), none⟩, ⟨(some 6), (.assign (.tmp 109)), none⟩]
instance : Live r_k5_20 := ⟨[1, 3, 6, 7, 8, 10]⟩
instance : Rd r_k5_20 := ⟨fun j => j == 1 || j == 83⟩
def r_k5_21 : List SOp :=
  [⟨(some 89), (.move (.tmp 10)), none⟩, ⟨(some 90), (.binOp .add 3 (.tmp 89) (.const (.int .i64 1)) 3), none⟩, ⟨(some 10), (.assign (.tmp 90)), none⟩]
instance : Live r_k5_21 := ⟨[1, 3, 6, 7, 8, 10]⟩
def r_k5_22 : List SOp :=
  [⟨(some 73), (.move (.tmp 7)), none⟩, ⟨(some 74), (.binOp .add 3 (.tmp 73) (.const (.int .i64 1)) 3), none⟩, ⟨(some 7), (.assign (.tmp 74)), none⟩]
instance : Live r_k5_22 := ⟨[1, 3, 6, 7]⟩
def r_k5_23 : List SOp :=
  [⟨(some 11), (.assign (.const (.int .i64 0))), none⟩]
instance : Live r_k5_23 := ⟨[1, 3, 6]⟩
def r_k5_24 : List SOp :=
  [⟨(some 110), (.move (.tmp 11)), none⟩, ⟨(some 111), (.move (.tmp 6)), none⟩, ⟨(some 112), (.call ⟨.builtin .len, #[.tmp 111], #[23]⟩), none⟩, ⟨(some 113), (.binOp .lss 3 (.tmp 110) (.tmp 112) 3), none⟩]
instance : Live r_k5_24 := ⟨[1, 3, 6, 11]⟩
def r_k5_25 : List SOp :=
  [⟨(some 116), (.move (.tmp 3)), none⟩, ⟨(some 117), (.move (.tmp 6)), none⟩, ⟨(some 118), (.move (.tmp 11)), none⟩, ⟨(some 119), (.indexAddr 23 (.tmp 117) (.tmp 118)), none⟩, ⟨(some 120), (.load 49 (.tmp 119)), none⟩, ⟨(some 121), (.call ⟨.value (.func 24), #[.tmp 116, .tmp 120], #[22, 49]⟩), none⟩, ⟨(some 12), (.assign (.tmp 121)), none⟩]
instance : Live r_k5_25 := ⟨[1, 3, 6, 11]⟩
def r_k5_26 : List SOp :=
  [⟨(some 122), (.move (.tmp 12)), none⟩, ⟨(some 123), (.binOp .gtr 3 (.tmp 122) (.const (.int .i64 1)) 3), none⟩, ⟨(some 124), (.move (.tmp 123)), none⟩, ⟨(some 125), (.move (.tmp 12)), (some ((some 124), false))⟩, ⟨(some 126), (.binOp .eql 3 (.tmp 125) (.const (.int .i64 1)) 3), (some ((some 124), false))⟩, ⟨(some 127), (.fieldAddr 29 (.tmp 1) 0), (some ((some 124), false))⟩, ⟨(some 128), (.load 22 (.tmp 127)), (some ((some 124), false))⟩, ⟨(some 129), (.move (.tmp 6)), (some ((some 124), false))⟩, ⟨(some 130), (.move (.tmp 11)), (some ((some 124), false))⟩, ⟨(some 131), (.indexAddr 23 (.tmp 129) (.tmp 130)), (some ((some 124), false))⟩, ⟨(some 132), (.load 49 (.tmp 131)), (some ((some 124), false))⟩, ⟨(some 133), (.call ⟨.value (.func 24), #[.tmp 128, .tmp 132], #[22, 49]⟩), (some ((some 124), false))⟩, ⟨(some 134), (.binOp .gtr 3 (.tmp 133) (.const (.int .i64 0)) 3), (some ((some 124), false))⟩, ⟨(some 135), (.binOp .neq 4 (.tmp 126) (.tmp 134) 4), (some ((some 124), false))⟩, ⟨(some 136), (.pick (.tmp 124) (.const (.bool true)) (.tmp 135)), none⟩]
instance : Live r_k5_26 := ⟨[1, 3, 6, 11, 12]⟩
def r_k5_27 : List SOp :=
  [⟨(some 2), (.assign (.const (.bool false))), none⟩]
instance : Live r_k5_27 := ⟨[]⟩
def r_k5_28 : List SOp :=
  [⟨(some 114), (.move (.tmp 11)), none⟩, ⟨(some 115), (.binOp .add 3 (.tmp 114) (.const (.int .i64 1)) 3), none⟩, ⟨(some 11), (.assign (.tmp 115)), none⟩]
instance : Live r_k5_28 := ⟨[1, 3, 6, 11]⟩
def r_k5_29 : List SOp :=
  [⟨(some 138), (.move (.tmp 3)), none⟩, ⟨(some 139), (.call ⟨.value (.func 28), #[.tmp 138], #[22]⟩), none⟩, ⟨(some 137), (.move (.tmp 139)), none⟩, ⟨(some 140), (.extract (.tmp 137) 0), none⟩, ⟨(some 141), (.extract (.tmp 137) 1), none⟩, ⟨(some 13), (.assign (.tmp 140)), none⟩, ⟨(some 4), (.assign (.tmp 141)), none⟩]
instance : Live r_k5_29 := ⟨[1, 3]⟩
def r_k5_30 : List SOp :=
  [⟨(some 142), (.move (.tmp 4)), none⟩, ⟨(some 143), (.binOp .neq 32 (.tmp 142) (.const (.int .i64 0)) 32), none⟩, ⟨(some 144), (.move (.tmp 143)), none⟩, ⟨(some 145), (.move (.tmp 13)), (some ((some 144), false))⟩, ⟨(some 146), (.move (.tmp 3)), (some ((some 144), false))⟩, ⟨(some 147), (.call ⟨.value (.func 16), #[.tmp 145, .tmp 146], #[22, 22]⟩), (some ((some 144), false))⟩, ⟨(some 148), (.unOp .not 4 (.tmp 147)), (some ((some 144), false))⟩, ⟨(some 149), (.pick (.tmp 144) (.const (.bool true)) (.tmp 148)), none⟩]
instance : Live r_k5_30 := ⟨[1, 3, 4, 13]⟩
def r_k5_31 : List SOp :=
  [⟨(some 2), (.assign (.const (.bool false))), none⟩]
instance : Live r_k5_31 := ⟨[]⟩
def r_k5_32 : List SOp :=
  [⟨(some 151), (.fieldAddr 29 (.tmp 1) 2), none⟩, ⟨(some 152), (.load 23 (.tmp 151)), none⟩, ⟨(some 153), (.fieldAddr 29 (.tmp 1) 0), none⟩, ⟨(some 154), (.load 22 (.tmp 153)), none⟩, ⟨(some 155), (.call ⟨.value (.func 21), #[.tmp 152, .tmp 154], #[23, 22]⟩), none⟩, ⟨(some 150), (.move (.tmp 155)), none⟩, ⟨(some 156), (.extract (.tmp 150) 0), none⟩, ⟨(some 157), (.extract (.tmp 150) 1), none⟩, ⟨(some 14), (.assign (.tmp 156)), none⟩, ⟨(some 4), (.assign (.tmp 157)), none⟩]
instance : Live r_k5_32 := ⟨[1, 3]⟩
def r_k5_33 : List SOp :=
  [⟨(some 159), (.fieldAddr 29 (.tmp 1) 2), none⟩, ⟨(some 160), (.load 23 (.tmp 159)), none⟩, ⟨(some 161), (.move (.tmp 3)), none⟩, ⟨(some 162), (.call ⟨.value (.func 21), #[.tmp 160, .tmp 161], #[23, 22]⟩), none⟩, ⟨(some 158), (.move (.tmp 162)), none⟩, ⟨(some 163), (.extract (.tmp 158) 0), none⟩, ⟨(some 164), (.extract (.tmp 158) 1), none⟩, ⟨(some 15), (.assign (.tmp 163)), none⟩, ⟨(some 16), (.assign (.tmp 164)), none⟩]
instance : Live r_k5_33 := ⟨[1, 3, 4, 14]⟩
def r_k5_34 : List SOp :=
  [⟨(some 165), (.move (.tmp 4)), none⟩, ⟨(some 166), (.move (.tmp 16)), none⟩, ⟨(some 167), (.binOp .eql 32 (.tmp 165) (.tmp 166) 32), none⟩, ⟨(some 168), (.move (.tmp 167)), none⟩, ⟨(some 169), (.move (.tmp 14)), (some ((some 168), true))⟩, ⟨(some 170), (.move (.tmp 15)), (some ((some 168), true))⟩, ⟨(some 171), (.call ⟨.value (.func 23), #[.tmp 169, .tmp 170], #[23, 23]⟩), (some ((some 168), true))⟩, ⟨(some 172), (.pick (.tmp 168) (.tmp 171) (.const (.bool false))), none⟩, ⟨(some 2), (.assign (.tmp 172)), none⟩]
instance : Live r_k5_34 := ⟨[4, 14, 15, 16]⟩
def t_k5_l1 : SC :=
  (.seq (.seq (.ops false r_k5_10) (.cond (.tmp 46) .skip (.exit 0))) (.seq (.block 1 (.seq (.ops true r_k5_11) (.cond (.tmp 60) (.seq (.ops false r_k5_12) .ret) .skip))) (.ops false r_k5_13)))
def t_k5_l3 : SC :=
  (.seq (.seq (.ops false r_k5_19) (.cond (.tmp 88) .skip (.exit 4))) (.seq (.block 5 (.opsW [91] r_k5_20)) (.ops false r_k5_21)))
def t_k5_l2 : SC :=
  (.seq (.seq (.ops false r_k5_16) (.cond (.tmp 72) .skip (.exit 2))) (.seq (.block 3 (.seq (.ops false r_k5_17) (.seq (.ops false r_k5_18) (.block 4 (.loop t_k5_l3))))) (.ops false r_k5_22)))
def t_k5_l4 : SC :=
  (.seq (.seq (.ops false r_k5_24) (.cond (.tmp 113) .skip (.exit 6))) (.seq (.block 7 (.seq (.ops false r_k5_25) (.seq (.ops true r_k5_26) (.cond (.tmp 136) (.seq (.ops false r_k5_27) .ret) .skip)))) (.ops false r_k5_28)))
def t_k5 : SC :=
  (.seq (.ops false r_k5_1) (.seq (.seq (.ops false r_k5_2) (.cond (.tmp 18) (.seq (.ops false r_k5_3) .ret) .skip)) (.seq (.ops false r_k5_4) (.seq (.seq (.ops false r_k5_5) (.cond (.tmp 28) (.seq (.ops false r_k5_6) .ret) .skip)) (.seq (.seq (.ops false r_k5_7) (.cond (.tmp 42) (.seq (.ops false r_k5_8) .ret) .skip)) (.seq (.seq (.ops false r_k5_9) (.block 0 (.loop t_k5_l1))) (.seq (.opsW [61, 64] r_k5_14) (.seq (.seq (.ops false r_k5_15) (.block 2 (.loop t_k5_l2))) (.seq (.seq (.ops false r_k5_23) (.block 6 (.loop t_k5_l4))) (.seq (.ops false r_k5_29) (.seq (.seq (.ops false r_k5_30) (.cond (.tmp 149) (.seq (.ops false r_k5_31) .ret) .skip)) (.seq (.ops false r_k5_32) (.seq (.ops false r_k5_33) (.seq (.ops false r_k5_34) .ret))))))))))))))
theorem it_k5 : FnIs Tryz.prog 5 173 [.tmp 2] t_k5 := ⟨Tryz.f5, _, Tryz.func5, rfl, rfl, rfl, rfl, by kernel_rfl⟩

structure FlS where
  i : Nat
  e : Nat
  es : List Ent
theorem encEs_two (l : List Ent) (a b a' b' : Int) (s s' : ByteArray) (q q' : Int) : encEs l ++ [.agg [.int .i64 a, .int .i64 b, .str s, .int .i64 q], .agg [.int .i64 a', .int .i64 b', .str s', .int .i64 q']] = encEs (l ++ [⟨a, b, s, q⟩, ⟨a', b', s', q'⟩]) := by simp [encEs, encE]
theorem encEs_app (l m : List Ent) : encEs l ++ encEs m = encEs (l ++ m) := by simp [encEs]
theorem one_of {a b : Nat} (h : a ≤ 1) (h' : a = 0 ↔ b = 0) : (a = 1 ↔ 0 < b) := by omega
theorem ev_k5 (x : CasK) (hw : wtKs x.r + wtKs x.q + x.a.length + x.b.length + wt x.p + wt x.o ≤ 1100000) : Ev (En Tryz.prog rfl).P 5 [encX x] (.ret (.bool true)) := by
  refine Ev.of_body it_k5 (by simp) (Run.start ?_)
  unfold t_k5 encX
  have hS := stbK
  have hcs : stbs [AVal.sl 3 (encKs x.r), .sl 3 (encKs x.q), .sl 4 (encEs x.a), .sl 4 (encEs x.b), .sl 1 (encIs x.p.vec), .sl 3 (encSs x.p.cloud), .sl 1 (encIs x.o.vec), .sl 3 (encSs x.o.cloud)] = true := by simp [stbs, AVal.stb, encIs_stb, encSs_stb, encKs_stb, encEs_stb]
  have hlr := wtKs_len x.r
  have c1 := ev_k28 x.r (by omega)
  have c2 := ev_k15 x.r (by omega)
  have k6 := ev_k21 x.a x.r (by omega) (by omega)
  by_cases hform : formK x.r = true
  case' neg =>
    rw [if_neg hform, if_neg hform] at c1
    rw [if_neg hform] at c2
    (focus (have hF := @hcs; (repeat' (first | with_reducible refine Nx.of ?_ | ((with_reducible apply toV); refine stV (k:=?_)) | ((with_reducible apply toG); refine stG (k:=?_)) | ((with_reducible apply toG0); refine stG0 (k:=?_)) | ((with_reducible apply toC); refine stC (k:=?_)) | ((with_reducible apply toO); refine stO (k:=?_)) | ((with_reducible apply toX); refine stX (k:=?_)) | with_reducible refine Ny.of ?_ ?_ | (refine Hyp.of ?_; intro hc; (try simp only [hc]); (try simp only [Bh] at hc)))); all_goals clear hF))
    refine stCall [] (he := ev_k11) (k:=?_)
    (focus (have hF := @hcs; (repeat' (first | with_reducible refine Nx.of ?_ | ((with_reducible apply toV); refine stV (k:=?_)) | ((with_reducible apply toG); refine stG (k:=?_)) | ((with_reducible apply toG0); refine stG0 (k:=?_)) | ((with_reducible apply toC); refine stC (k:=?_)) | ((with_reducible apply toO); refine stO (k:=?_)) | ((with_reducible apply toX); refine stX (k:=?_)) | with_reducible refine Ny.of ?_ ?_ | (refine Hyp.of ?_; intro hc; (try simp only [hc]); (try simp only [Bh] at hc)))); all_goals clear hF))
    refine stCall [.sl 3 (encKs x.r)] (he := c1) (k:=?_)
    (focus (have hF := @hcs; (repeat' (first | with_reducible refine Nx.of ?_ | ((with_reducible apply toV); refine stV (k:=?_)) | ((with_reducible apply toG); refine stG (k:=?_)) | ((with_reducible apply toG0); refine stG0 (k:=?_)) | ((with_reducible apply toC); refine stC (k:=?_)) | ((with_reducible apply toO); refine stO (k:=?_)) | ((with_reducible apply toX); refine stX (k:=?_)) | with_reducible refine Ny.of ?_ ?_ | (refine Hyp.of ?_; intro hc; (try simp only [hc]); (try simp only [Bh] at hc)))); all_goals clear hF))
    refine stCall [.sl 3 (encKs x.r)] (he := c2) (k:=?_)
    (focus (have hF := @hcs; (repeat' (first | with_reducible refine Nx.of ?_ | ((with_reducible apply toV); refine stV (k:=?_)) | ((with_reducible apply toG); refine stG (k:=?_)) | ((with_reducible apply toG0); refine stG0 (k:=?_)) | ((with_reducible apply toC); refine stC (k:=?_)) | ((with_reducible apply toO); refine stO (k:=?_)) | ((with_reducible apply toX); refine stX (k:=?_)) | with_reducible refine Ny.of ?_ ?_ | (refine Hyp.of ?_; intro hc; (try simp only [hc]); (try simp only [Bh] at hc)))); all_goals clear hF))
    exact Fin.tmp' rfl rfl
  case' pos =>
    rw [if_pos hform, if_pos hform] at c1
    rw [if_pos hform] at c2
    have hF := formK_iff.1 hform
    have hfd := foldK_folded hF.2
    have hKf : FormK (foldK x.r) := hfd.form (fun q hq => by
      obtain ⟨i, hi⟩ := List.mem_iff_getElem?.1 hq
      exact hF.1 i q hi)
    have hKt := formK_true hKf
    have hwK := foldK_wt x.r
    have hrest := hfd.rest
    have hone := hfd.one
    have hcov := fun e => foldK_cov hF.2 e
    have c3 := ev_ref07CheckW (foldK x.r) (by omega) (fun r hr => by have := hwK.2 r hr; omega)
    have c4 := ev_keepCheckW (foldK x.r) (by omega) (fun r hr => by have := hwK.2 r hr; omega)
    have hgrp : ∀ (i m : Nat) (s : ByteArray), (∀ y ∈ ((foldK x.r).drop i).take m, sameSku s y = true) → (((((foldK x.r).drop i).take m).map (·.past)).map wt).sum ≤ 96 + 2 * wtKs x.r := by
      intro i m s hs
      have hp : (((foldK x.r).drop i).take m).Pairwise ltS := (hfd.lt.sublist (List.drop_sublist _ _)).sublist (List.take_sublist _ _)
      have hm : ∀ y ∈ ((foldK x.r).drop i).take m, wt y.past ≤ 96 + 2 * wtKs x.r := fun y hy => hwK.2 y ((List.drop_sublist _ _).subset ((List.take_sublist _ _).subset hy))
      generalize ((foldK x.r).drop i).take m = G at hs hp hm
      match G, hs, hp, hm with
      | [], _, _, _ => exact Nat.zero_le _
      | [a], _, _, hm => simpa using hm a (by simp)
      | a :: b :: G, hs, hp, _ =>
        exfalso
        have h1 : a.sku = s := of_decide_eq_true (hs a (by simp))
        have h2 : b.sku = s := of_decide_eq_true (hs b (by simp))
        have h3 : ltS a b := (List.pairwise_cons.1 hp).1 b (by simp)
        unfold ltS at h3
        rw [h1, h2, cmpB_zero.2 rfl] at h3
        omega
    have c5 := ev_keepFoldW (foldK x.r) (96 + 2 * wtKs x.r) (by omega) (by omega) (fun r hr => hwK.2 r hr) hgrp
    have k7 := ev_k21_of x.a (foldK x.r) (by omega) c4 c5 (by rw [hrest]; omega) (fun r hr => by rw [hrest] at hr; have := hwK.2 r hr; omega)
    rw [if_pos hKt] at c3 c4
    rw [if_pos hKt, if_pos hKt, hrest] at c5
    have hlf := leftE_fold hF x.a
    rw [hlf] at k7
    simp only [hform, hKt, and_true] at k6 k7
    have c6 := ev_k16 (foldK x.r) (by omega) (fun r hr => by have := hwK.2 r hr; omega)
    have kb1 := fun e => ev_k24 (foldK x.r) e (by omega) (fun r hr => by have := hwK.2 r hr; omega)
    have kb2 := fun e => ev_k24 x.r e (by omega) (fun r hr => by have := wtK_le hr; unfold wtK at this; omega)
    have hbars : ∀ e, (barsK (foldK x.r) e = 1 ↔ 0 < barsK x.r e) := fun e => one_of (hone e) (by rw [barsK_zero, barsK_zero, hcov])
    have hskus : ∀ (i : Nat) a b, (foldK x.r)[i]? = some a → (foldK x.r)[i + 1]? = some b → a.sku ≠ b.sku := by
      intro i a b ha hb he
      have h1 := hKf.2 i a b ha hb
      have h2 := List.mem_of_getElem? hb
      have h3 : ltS a b := by
        have i1 : i + 1 < (foldK x.r).length := by
          rcases Nat.lt_or_ge (i + 1) (foldK x.r).length with h | h
          · exact h
          · rw [List.getElem?_eq_none h] at hb; cases hb
        have := List.pairwise_iff_getElem.1 hfd.lt i (i + 1) (by omega) i1 (by omega)
        rw [List.getElem?_eq_getElem (by omega), Option.some.injEq] at ha
        rw [List.getElem?_eq_getElem i1, Option.some.injEq] at hb
        rw [ha, hb] at this
        exact this
      unfold ltS at h3
      rw [he, cmpB_zero.2 rfl] at h3
      omega
    have hlK : (foldK x.r).length ≤ x.r.length := hwK.1
    generalize foldK x.r = K at *
    have eA := encEs_len x.a
    have eB := encEs_len x.b
    have eR := encKs_len x.r
    have eK := encKs_len K
    (focus (have hF := @hcs; (repeat' (first | with_reducible refine Nx.of ?_ | ((with_reducible apply toV); refine stV (k:=?_)) | ((with_reducible apply toG); refine stG (k:=?_)) | ((with_reducible apply toG0); refine stG0 (k:=?_)) | ((with_reducible apply toC); refine stC (k:=?_)) | ((with_reducible apply toO); refine stO (k:=?_)) | ((with_reducible apply toX); refine stX (k:=?_)) | with_reducible refine Ny.of ?_ ?_ | (refine Hyp.of ?_; intro hc; (try simp only [hc]); (try simp only [Bh] at hc)))); all_goals clear hF))
    refine stCall [] (he := ev_k11) (k:=?_)
    (focus (have hF := @hcs; (repeat' (first | with_reducible refine Nx.of ?_ | ((with_reducible apply toV); refine stV (k:=?_)) | ((with_reducible apply toG); refine stG (k:=?_)) | ((with_reducible apply toG0); refine stG0 (k:=?_)) | ((with_reducible apply toC); refine stC (k:=?_)) | ((with_reducible apply toO); refine stO (k:=?_)) | ((with_reducible apply toX); refine stX (k:=?_)) | with_reducible refine Ny.of ?_ ?_ | (refine Hyp.of ?_; intro hc; (try simp only [hc]); (try simp only [Bh] at hc)))); all_goals clear hF))
    refine stCall [.sl 3 (encKs x.r)] (he := c1) (k:=?_)
    (focus (have hF := @hcs; (repeat' (first | with_reducible refine Nx.of ?_ | ((with_reducible apply toV); refine stV (k:=?_)) | ((with_reducible apply toG); refine stG (k:=?_)) | ((with_reducible apply toG0); refine stG0 (k:=?_)) | ((with_reducible apply toC); refine stC (k:=?_)) | ((with_reducible apply toO); refine stO (k:=?_)) | ((with_reducible apply toX); refine stX (k:=?_)) | with_reducible refine Ny.of ?_ ?_ | (refine Hyp.of ?_; intro hc; (try simp only [hc]); (try simp only [Bh] at hc)))); all_goals clear hF))
    refine stCall [.sl 3 (encKs x.r)] (he := c2) (k:=?_)
    (focus (have hF := @hcs; (repeat' (first | with_reducible refine Nx.of ?_ | ((with_reducible apply toV); refine stV (k:=?_)) | ((with_reducible apply toG); refine stG (k:=?_)) | ((with_reducible apply toG0); refine stG0 (k:=?_)) | ((with_reducible apply toC); refine stC (k:=?_)) | ((with_reducible apply toO); refine stO (k:=?_)) | ((with_reducible apply toX); refine stX (k:=?_)) | with_reducible refine Ny.of ?_ ?_ | (refine Hyp.of ?_; intro hc; (try simp only [hc]); (try simp only [Bh] at hc)))); all_goals clear hF))
    refine stCall [.sl 3 (encKs K)] (he := c3) (k:=?_)
    (focus (have hF := @hcs; (repeat' (first | with_reducible refine Nx.of ?_ | ((with_reducible apply toV); refine stV (k:=?_)) | ((with_reducible apply toG); refine stG (k:=?_)) | ((with_reducible apply toG0); refine stG0 (k:=?_)) | ((with_reducible apply toC); refine stC (k:=?_)) | ((with_reducible apply toO); refine stO (k:=?_)) | ((with_reducible apply toX); refine stX (k:=?_)) | with_reducible refine Ny.of ?_ ?_ | (refine Hyp.of ?_; intro hc; (try simp only [hc]); (try simp only [Bh] at hc)))); all_goals clear hF))
    refine stCall [.sl 3 (encKs K)] (he := c4) (k:=?_)
    (focus (have hF := @hcs; (repeat' (first | with_reducible refine Nx.of ?_ | ((with_reducible apply toV); refine stV (k:=?_)) | ((with_reducible apply toG); refine stG (k:=?_)) | ((with_reducible apply toG0); refine stG0 (k:=?_)) | ((with_reducible apply toC); refine stC (k:=?_)) | ((with_reducible apply toO); refine stO (k:=?_)) | ((with_reducible apply toX); refine stX (k:=?_)) | with_reducible refine Ny.of ?_ ?_ | (refine Hyp.of ?_; intro hc; (try simp only [hc]); (try simp only [Bh] at hc)))); all_goals clear hF))
    refine Run.while (σ := Nat) (fun i => ⟨tms [(1, .ptr 1 0), (3, .sl 3 (encKs K)), (5, .int .i64 ((i + 1 : Nat) : Int))], mms [(1, .cells [.sl 3 (encKs x.r), .sl 3 (encKs x.q), .sl 4 (encEs x.a), .sl 4 (encEs x.b), .sl 1 (encIs x.p.vec), .sl 3 (encSs x.p.cloud), .sl 1 (encIs x.o.vec), .sl 3 (encSs x.o.cloud)])]⟩)
      (fun i => i ≤ K.length) (fun i => K.length - i) 0 (have hW := (And.intro @encEs_stb @encKs_stb); stWk) (Nat.zero_le _) ?_
    intro i hi
    unfold t_k5_l1
    by_cases hlt : i + 1 < K.length
    · obtain ⟨a, ha⟩ : ∃ a, K[i]? = some a := ⟨K[i], by simp [show i < K.length by omega]⟩
      obtain ⟨b, hb⟩ : ∃ b, K[i + 1]? = some b := ⟨K[i + 1], by simp [hlt]⟩
      have g1 := encKs_get ha
      have g2 := encKs_get hb
      have hne := hskus i a b ha hb
      have hne' : ¬ b.sku = a.sku := fun h => hne h.symm
      have hpw : IntKind.i64.wrap (((i + 1 : Nat) : Int) - 1) = (i : Int) := by rw [wrap_ok (by omega)]; omega
      (focus (have hF := (And.intro (And.intro @hcs (And.intro @eK @g1)) (And.intro @g2 (And.intro @hne' @hpw))); (repeat' (first | with_reducible refine Nx.of ?_ | ((with_reducible apply toV); refine stV (k:=?_)) | ((with_reducible apply toG); refine stG (k:=?_)) | ((with_reducible apply toG0); refine stG0 (k:=?_)) | ((with_reducible apply toC); refine stC (k:=?_)) | ((with_reducible apply toO); refine stO (k:=?_)) | ((with_reducible apply toX); refine stX (k:=?_)) | with_reducible refine Ny.of ?_ ?_ | (refine Hyp.of ?_; intro hc; (try simp only [hc]); (try simp only [Bh] at hc)))); all_goals clear hF))
      (refine Fin.nextW (i + 1) ?_ (have hW := (And.intro @encEs_stb @encKs_stb); stWk); (try dsimp only))
      omega
    (focus (have hF := (And.intro (And.intro @hcs @eK) (And.intro @eA @eB)); (repeat' (first | with_reducible refine Nx.of ?_ | ((with_reducible apply toV); refine stV (k:=?_)) | ((with_reducible apply toG); refine stG (k:=?_)) | ((with_reducible apply toG0); refine stG0 (k:=?_)) | ((with_reducible apply toC); refine stC (k:=?_)) | ((with_reducible apply toO); refine stO (k:=?_)) | ((with_reducible apply toX); refine stX (k:=?_)) | with_reducible refine Ny.of ?_ ?_ | (refine Hyp.of ?_; intro hc; (try simp only [hc]); (try simp only [Bh] at hc)))); all_goals clear hF))
    (focus (have hF := (And.intro (And.intro @hcs @eK) (And.intro @eA @eB)); (repeat' (first | with_reducible refine Nx.of ?_ | ((with_reducible apply toV); refine stV (k:=?_)) | ((with_reducible apply toG); refine stG (k:=?_)) | ((with_reducible apply toG0); refine stG0 (k:=?_)) | ((with_reducible apply toC); refine stC (k:=?_)) | ((with_reducible apply toO); refine stO (k:=?_)) | ((with_reducible apply toW2); refine stW2 (k:=?_)) | ((with_reducible apply toX); refine stX (k:=?_)) | with_reducible refine Ny.of ?_ ?_ | (refine Hyp.of ?_; intro hc; (try simp only [hc]); (try simp only [Bh] at hc)))); all_goals clear hF))
    refine Run.while (σ := FlS) (fun z => ⟨tms [(1, .ptr 1 0), (3, .sl 3 (encKs K)), (6, .os 61 z.e), (7, .int .i64 (z.i : Int))], mms [(1, .cells [.sl 3 (encKs x.r), .sl 3 (encKs x.q), .sl 4 (encEs x.a), .sl 4 (encEs x.b), .sl 1 (encIs x.p.vec), .sl 3 (encSs x.p.cloud), .sl 1 (encIs x.o.vec), .sl 3 (encSs x.o.cloud)]), (61, .arr z.e 4 (encEs z.es))]⟩)
      (fun z => z.i ≤ x.r.length ∧ z.es.length ≤ x.a.length + x.b.length + 24 * z.i) (fun z => x.r.length - z.i) ⟨0, 2, x.a ++ x.b⟩ (have hW := (And.intro @encEs_stb (And.intro @encKs_stb @encEs_app)); stWk) ⟨Nat.zero_le _, by simp⟩ ?_
    rintro ⟨i, ep, es⟩ ⟨hi, he⟩
    dsimp only at *
    unfold t_k5_l2
    by_cases hlt : i < x.r.length
    · obtain ⟨r, hr⟩ : ∃ r, x.r[i]? = some r := ⟨x.r[i], by simp [hlt]⟩
      have g1 := encKs_get hr
      have hwr := wtK_le (List.mem_of_getElem? hr)
      unfold wtK at hwr
      have d1 := ev_k29 r.past (by omega)
      have hdl : (dotsN r.past 12).length ≤ 12 := by unfold dotsN; rw [List.length_take]; omega
      generalize dotsN r.past 12 = ds at d1 hdl
      generalize dotsB r.past 12 = db at d1
      have eD := encRs_len ds
      (focus (have hF := (And.intro @hcs (And.intro @eR @g1)); (repeat' (first | with_reducible refine Nx.of ?_ | ((with_reducible apply toV); refine stV (k:=?_)) | ((with_reducible apply toG); refine stG (k:=?_)) | ((with_reducible apply toG0); refine stG0 (k:=?_)) | ((with_reducible apply toC); refine stC (k:=?_)) | ((with_reducible apply toO); refine stO (k:=?_)) | ((with_reducible apply toX); refine stX (k:=?_)) | with_reducible refine Ny.of ?_ ?_ | (refine Hyp.of ?_; intro hc; (try simp only [hc]); (try simp only [Bh] at hc)))); all_goals clear hF))
      refine stCall [encP r.past, .int .i64 12] (he := d1) (k:=?_)
      (focus (have hF := (And.intro @hcs (And.intro @eR @g1)); (repeat' (first | with_reducible refine Nx.of ?_ | ((with_reducible apply toV); refine stV (k:=?_)) | ((with_reducible apply toG); refine stG (k:=?_)) | ((with_reducible apply toG0); refine stG0 (k:=?_)) | ((with_reducible apply toC); refine stC (k:=?_)) | ((with_reducible apply toO); refine stO (k:=?_)) | ((with_reducible apply toX); refine stX (k:=?_)) | with_reducible refine Ny.of ?_ ?_ | (refine Hyp.of ?_; intro hc; (try simp only [hc]); (try simp only [Bh] at hc)))); all_goals clear hF))
      refine Run.while (σ := FlS) (fun z => ⟨tms [(1, .ptr 1 0), (3, .sl 3 (encKs K)), (6, .os 61 z.e), (7, .int .i64 (i : Int)), (8, .sl 2 (encRs ds)), (10, .int .i64 (z.i : Int))], mms [(1, .cells [.sl 3 (encKs x.r), .sl 3 (encKs x.q), .sl 4 (encEs x.a), .sl 4 (encEs x.b), .sl 1 (encIs x.p.vec), .sl 3 (encSs x.p.cloud), .sl 1 (encIs x.o.vec), .sl 3 (encSs x.o.cloud)]), (61, .arr z.e 4 (encEs z.es))]⟩)
        (fun z => z.i ≤ ds.length ∧ z.es.length ≤ x.a.length + x.b.length + 24 * i + 2 * z.i) (fun z => ds.length - z.i) ⟨0, ep, es⟩ (have hW := (And.intro @encEs_stb (And.intro @encKs_stb @encRs_stb)); stWk) ⟨Nat.zero_le _, by simpa using he⟩ ?_
      rintro ⟨k, ep, es⟩ ⟨hk, he⟩
      dsimp only at *
      unfold t_k5_l3
      by_cases hkl : k < ds.length
      · obtain ⟨d, hd⟩ : ∃ d, ds[k]? = some d := ⟨ds[k], by simp [hkl]⟩
        have g2 : (encRs ds)[k]? = some (.agg [.int .i64 d.1, .int .i64 d.2]) := by simp [encRs, hd, encR]
        have e5 := encEs_len es
        (focus (have hF := (And.intro (And.intro @hcs (And.intro @eR @g1)) (And.intro @eD (And.intro @g2 @e5))); (repeat' (first | with_reducible refine Nx.of ?_ | ((with_reducible apply toV); refine stV (k:=?_)) | ((with_reducible apply toG); refine stG (k:=?_)) | ((with_reducible apply toG0); refine stG0 (k:=?_)) | ((with_reducible apply toC); refine stC (k:=?_)) | ((with_reducible apply toO); refine stO (k:=?_)) | ((with_reducible apply toX); refine stX (k:=?_)) | with_reducible refine Ny.of ?_ ?_ | (refine Hyp.of ?_; intro hc; (try simp only [hc]); (try simp only [Bh] at hc)))); all_goals clear hF))
        (focus (have hF := (And.intro (And.intro @hcs (And.intro @eR @g1)) (And.intro @eD (And.intro @g2 @e5))); (repeat' (first | with_reducible refine Nx.of ?_ | ((with_reducible apply toV); refine stV (k:=?_)) | ((with_reducible apply toG); refine stG (k:=?_)) | ((with_reducible apply toG0); refine stG0 (k:=?_)) | ((with_reducible apply toC); refine stC (k:=?_)) | ((with_reducible apply toO); refine stO (k:=?_)) | ((with_reducible apply toW2); refine stW2 (k:=?_)) | ((with_reducible apply toX); refine stX (k:=?_)) | with_reducible refine Ny.of ?_ ?_ | (refine Hyp.of ?_; intro hc; (try simp only [hc]); (try simp only [Bh] at hc)))); all_goals clear hF))
        (refine Fin.nextW (⟨k + 1, ep + 1, es ++ [⟨d.1, d.2, r.sku, 1⟩, ⟨d.1, d.2, ⟨#[90, 90, 57]⟩, 1⟩]⟩) ?_ (have hW := (And.intro (And.intro @encEs_stb @encKs_stb) (And.intro @encRs_stb @encEs_two)); stWk); (try dsimp only))
        exact ⟨⟨hkl, by simp; omega⟩, by omega⟩
      · (focus (have hF := (And.intro (And.intro @hcs @eR) (And.intro @g1 @eD)); (repeat' (first | with_reducible refine Nx.of ?_ | ((with_reducible apply toV); refine stV (k:=?_)) | ((with_reducible apply toG); refine stG (k:=?_)) | ((with_reducible apply toG0); refine stG0 (k:=?_)) | ((with_reducible apply toC); refine stC (k:=?_)) | ((with_reducible apply toO); refine stO (k:=?_)) | ((with_reducible apply toX); refine stX (k:=?_)) | with_reducible refine Ny.of ?_ ?_ | (refine Hyp.of ?_; intro hc; (try simp only [hc]); (try simp only [Bh] at hc)))); all_goals clear hF))
        (refine Fin.nextW (⟨i + 1, ep, es⟩) ?_ (have hW := (And.intro @encEs_stb @encKs_stb); stWk); (try dsimp only))
        exact ⟨⟨hlt, by omega⟩, by omega⟩
    (focus (have hF := (And.intro @hcs @eR); (repeat' (first | with_reducible refine Nx.of ?_ | ((with_reducible apply toV); refine stV (k:=?_)) | ((with_reducible apply toG); refine stG (k:=?_)) | ((with_reducible apply toG0); refine stG0 (k:=?_)) | ((with_reducible apply toC); refine stC (k:=?_)) | ((with_reducible apply toO); refine stO (k:=?_)) | ((with_reducible apply toX); refine stX (k:=?_)) | with_reducible refine Ny.of ?_ ?_ | (refine Hyp.of ?_; intro hc; (try simp only [hc]); (try simp only [Bh] at hc)))); all_goals clear hF))
    have e5 := encEs_len es
    refine Run.while (σ := Nat) (fun j => ⟨tms [(1, .ptr 1 0), (3, .sl 3 (encKs K)), (6, .os 61 ep), (11, .int .i64 (j : Int))], mms [(1, .cells [.sl 3 (encKs x.r), .sl 3 (encKs x.q), .sl 4 (encEs x.a), .sl 4 (encEs x.b), .sl 1 (encIs x.p.vec), .sl 3 (encSs x.p.cloud), .sl 1 (encIs x.o.vec), .sl 3 (encSs x.o.cloud)]), (61, .arr ep 4 (encEs es))]⟩)
      (fun j => j ≤ es.length) (fun j => es.length - j) 0 (have hW := (And.intro @encEs_stb @encKs_stb); stWk) (Nat.zero_le _) ?_
    intro j hj
    unfold t_k5_l4
    by_cases hjl : j < es.length
    · obtain ⟨e, hee⟩ : ∃ e, es[j]? = some e := ⟨es[j], by simp [hjl]⟩
      have g1 := encEs_get hee
      have b1 := kb1 e
      have b2 := kb2 e
      have b3 := hbars e
      have b4 := hone e
      have b5 := barsK_le x.r e
      generalize barsK K e = n at b1 b3 b4
      generalize barsK x.r e = m at b2 b3 b5
      rcases (show n = 0 ∨ n = 1 by omega) with rfl | rfl
      · have hm0 : m = 0 := by omega
        subst hm0
        (focus (have hF := (And.intro (And.intro @hcs @eR) (And.intro @e5 @g1)); (repeat' (first | with_reducible refine Nx.of ?_ | ((with_reducible apply toV); refine stV (k:=?_)) | ((with_reducible apply toG); refine stG (k:=?_)) | ((with_reducible apply toG0); refine stG0 (k:=?_)) | ((with_reducible apply toC); refine stC (k:=?_)) | ((with_reducible apply toO); refine stO (k:=?_)) | ((with_reducible apply toX); refine stX (k:=?_)) | with_reducible refine Ny.of ?_ ?_ | (refine Hyp.of ?_; intro hc; (try simp only [hc]); (try simp only [Bh] at hc)))); all_goals clear hF))
        refine stCall [.sl 3 (encKs K), encE e] (he := b1) (k:=?_)
        (focus (have hF := (And.intro (And.intro @hcs @eR) (And.intro @e5 @g1)); (repeat' (first | with_reducible refine Nx.of ?_ | ((with_reducible apply toV); refine stV (k:=?_)) | ((with_reducible apply toG); refine stG (k:=?_)) | ((with_reducible apply toG0); refine stG0 (k:=?_)) | ((with_reducible apply toC); refine stC (k:=?_)) | ((with_reducible apply toO); refine stO (k:=?_)) | ((with_reducible apply toX); refine stX (k:=?_)) | with_reducible refine Ny.of ?_ ?_ | (refine Hyp.of ?_; intro hc; (try simp only [hc]); (try simp only [Bh] at hc)))); all_goals clear hF))
        refine stCall [.sl 3 (encKs x.r), encE e] (he := b2) (k:=?_)
        (focus (have hF := (And.intro (And.intro @hcs @eR) (And.intro @e5 @g1)); (repeat' (first | with_reducible refine Nx.of ?_ | ((with_reducible apply toV); refine stV (k:=?_)) | ((with_reducible apply toG); refine stG (k:=?_)) | ((with_reducible apply toG0); refine stG0 (k:=?_)) | ((with_reducible apply toC); refine stC (k:=?_)) | ((with_reducible apply toO); refine stO (k:=?_)) | ((with_reducible apply toX); refine stX (k:=?_)) | with_reducible refine Ny.of ?_ ?_ | (refine Hyp.of ?_; intro hc; (try simp only [hc]); (try simp only [Bh] at hc)))); all_goals clear hF))
        (refine Fin.nextW (j + 1) ?_ (have hW := (And.intro @encEs_stb @encKs_stb); stWk); (try dsimp only))
        omega
      · have hm0 : (0 : Int) < (m : Int) := by omega
        (focus (have hF := (And.intro (And.intro @hcs @eR) (And.intro @e5 @g1)); (repeat' (first | with_reducible refine Nx.of ?_ | ((with_reducible apply toV); refine stV (k:=?_)) | ((with_reducible apply toG); refine stG (k:=?_)) | ((with_reducible apply toG0); refine stG0 (k:=?_)) | ((with_reducible apply toC); refine stC (k:=?_)) | ((with_reducible apply toO); refine stO (k:=?_)) | ((with_reducible apply toX); refine stX (k:=?_)) | with_reducible refine Ny.of ?_ ?_ | (refine Hyp.of ?_; intro hc; (try simp only [hc]); (try simp only [Bh] at hc)))); all_goals clear hF))
        refine stCall [.sl 3 (encKs K), encE e] (he := b1) (k:=?_)
        (focus (have hF := (And.intro (And.intro @hcs @eR) (And.intro @e5 @g1)); (repeat' (first | with_reducible refine Nx.of ?_ | ((with_reducible apply toV); refine stV (k:=?_)) | ((with_reducible apply toG); refine stG (k:=?_)) | ((with_reducible apply toG0); refine stG0 (k:=?_)) | ((with_reducible apply toC); refine stC (k:=?_)) | ((with_reducible apply toO); refine stO (k:=?_)) | ((with_reducible apply toX); refine stX (k:=?_)) | with_reducible refine Ny.of ?_ ?_ | (refine Hyp.of ?_; intro hc; (try simp only [hc]); (try simp only [Bh] at hc)))); all_goals clear hF))
        refine stCall [.sl 3 (encKs x.r), encE e] (he := b2) (k:=?_)
        (focus (have hF := (And.intro (And.intro @hcs @eR) (And.intro @e5 (And.intro @g1 @hm0))); (repeat' (first | with_reducible refine Nx.of ?_ | ((with_reducible apply toV); refine stV (k:=?_)) | ((with_reducible apply toG); refine stG (k:=?_)) | ((with_reducible apply toG0); refine stG0 (k:=?_)) | ((with_reducible apply toC); refine stC (k:=?_)) | ((with_reducible apply toO); refine stO (k:=?_)) | ((with_reducible apply toX); refine stX (k:=?_)) | with_reducible refine Ny.of ?_ ?_ | (refine Hyp.of ?_; intro hc; (try simp only [hc]); (try simp only [Bh] at hc)))); all_goals clear hF))
        (refine Fin.nextW (j + 1) ?_ (have hW := (And.intro @encEs_stb @encKs_stb); stWk); (try dsimp only))
        omega
    have hll := leftE_len x.r x.a
    have hlx : (if formE x.a = true then leftE x.r x.a else []).length ≤ 1100000 := by split; omega; simp
    generalize (if formE x.a = true then leftE x.r x.a else []) = L at k6 k7 hlx
    generalize (if formE x.a = true then (0 : Int) else 1) = v at k6 k7
    have k8 := ev_k23 L (by omega)
    (focus (have hF := (And.intro @hcs @e5); (repeat' (first | with_reducible refine Nx.of ?_ | ((with_reducible apply toV); refine stV (k:=?_)) | ((with_reducible apply toG); refine stG (k:=?_)) | ((with_reducible apply toG0); refine stG0 (k:=?_)) | ((with_reducible apply toC); refine stC (k:=?_)) | ((with_reducible apply toO); refine stO (k:=?_)) | ((with_reducible apply toX); refine stX (k:=?_)) | with_reducible refine Ny.of ?_ ?_ | (refine Hyp.of ?_; intro hc; (try simp only [hc]); (try simp only [Bh] at hc)))); all_goals clear hF))
    refine stCall [.sl 3 (encKs K)] (he := c5) (k:=?_)
    (focus (have hF := (And.intro @hcs @e5); (repeat' (first | with_reducible refine Nx.of ?_ | ((with_reducible apply toV); refine stV (k:=?_)) | ((with_reducible apply toG); refine stG (k:=?_)) | ((with_reducible apply toG0); refine stG0 (k:=?_)) | ((with_reducible apply toC); refine stC (k:=?_)) | ((with_reducible apply toO); refine stO (k:=?_)) | ((with_reducible apply toX); refine stX (k:=?_)) | with_reducible refine Ny.of ?_ ?_ | (refine Hyp.of ?_; intro hc; (try simp only [hc]); (try simp only [Bh] at hc)))); all_goals clear hF))
    refine stCall [.sl 3 (encKs K), .sl 3 (encKs K)] (he := c6) (k:=?_)
    (focus (have hF := (And.intro @hcs @e5); (repeat' (first | with_reducible refine Nx.of ?_ | ((with_reducible apply toV); refine stV (k:=?_)) | ((with_reducible apply toG); refine stG (k:=?_)) | ((with_reducible apply toG0); refine stG0 (k:=?_)) | ((with_reducible apply toC); refine stC (k:=?_)) | ((with_reducible apply toO); refine stO (k:=?_)) | ((with_reducible apply toX); refine stX (k:=?_)) | with_reducible refine Ny.of ?_ ?_ | (refine Hyp.of ?_; intro hc; (try simp only [hc]); (try simp only [Bh] at hc)))); all_goals clear hF))
    refine stCall [.sl 4 (encEs x.a), .sl 3 (encKs x.r)] (he := k6) (k:=?_)
    (focus (have hF := (And.intro @hcs @e5); (repeat' (first | with_reducible refine Nx.of ?_ | ((with_reducible apply toV); refine stV (k:=?_)) | ((with_reducible apply toG); refine stG (k:=?_)) | ((with_reducible apply toG0); refine stG0 (k:=?_)) | ((with_reducible apply toC); refine stC (k:=?_)) | ((with_reducible apply toO); refine stO (k:=?_)) | ((with_reducible apply toX); refine stX (k:=?_)) | with_reducible refine Ny.of ?_ ?_ | (refine Hyp.of ?_; intro hc; (try simp only [hc]); (try simp only [Bh] at hc)))); all_goals clear hF))
    refine stCall [.sl 4 (encEs x.a), .sl 3 (encKs K)] (he := k7) (k:=?_)
    (focus (have hF := (And.intro @hcs @e5); (repeat' (first | with_reducible refine Nx.of ?_ | ((with_reducible apply toV); refine stV (k:=?_)) | ((with_reducible apply toG); refine stG (k:=?_)) | ((with_reducible apply toG0); refine stG0 (k:=?_)) | ((with_reducible apply toC); refine stC (k:=?_)) | ((with_reducible apply toO); refine stO (k:=?_)) | ((with_reducible apply toX); refine stX (k:=?_)) | with_reducible refine Ny.of ?_ ?_ | (refine Hyp.of ?_; intro hc; (try simp only [hc]); (try simp only [Bh] at hc)))); all_goals clear hF))
    refine stCall [.sl 4 (encEs L), .sl 4 (encEs L)] (he := k8) (k:=?_)
    (focus (have hF := (And.intro @hcs @e5); (repeat' (first | with_reducible refine Nx.of ?_ | ((with_reducible apply toV); refine stV (k:=?_)) | ((with_reducible apply toG); refine stG (k:=?_)) | ((with_reducible apply toG0); refine stG0 (k:=?_)) | ((with_reducible apply toC); refine stC (k:=?_)) | ((with_reducible apply toO); refine stO (k:=?_)) | ((with_reducible apply toX); refine stX (k:=?_)) | with_reducible refine Ny.of ?_ ?_ | (refine Hyp.of ?_; intro hc; (try simp only [hc]); (try simp only [Bh] at hc)))); all_goals clear hF))
    exact Fin.tmp' rfl rfl

end Go.Proofs.YtpomanleabaafaaGreat.Avm
/-
  The law KeepFolds holds: for every case of bulk at most 1048576 the call returns true and the case reads behind it as it read before.
-/
namespace Go.Proofs.YtpomanleabaafaaGreat.Avm
open Go.Proofs
theorem lifted_KeepFolds (os : Os) (started : os.Started) (H : Type) (enc : TypeId × Value → H) (F : Stop.Interp) :
    ReturnsInHanded {} Tryz.checked os 5 .any ((Rows.OpenSpec.upto Rows.keepFoldsSpec).pre6 enc Tryz.prog Tryz.f5 Rows.keepFoldsUptoRow.domain false) (((Rows.OpenSpec.upto Rows.keepFoldsSpec).at F).post enc Tryz.prog Tryz.f5 false true false false) := by
  refine returnsInHanded_of_cond (C := Tryz.checked) (s := Rows.OpenSpec.upto Rows.keepFoldsSpec) (k := Rows.uptoSmall) rfl own started (by kernel_rfl) Tryz.func5
    (OpenSpec.witness (enc := enc) (C := Tryz.checked) (s := Rows.OpenSpec.upto Rows.keepFoldsSpec) (k := Rows.uptoSmall) rfl false ⟨#[], #[.agg #[.slice none 0 0, .slice none 0 0, .slice none 0 0, .slice none 0 0, .slice none 0 0, .slice none 0 0, .slice none 0 0, .slice none 0 0]], []⟩ 8 (by kernel_rfl) (by kernel_rfl) (by kernel_rfl)
      (x := ([.agg [.nil, .nil, .nil, .nil, .agg [.nil, .nil], .agg [.nil, .nil]]], [], [])) (by kernel_rfl) rfl (by kernel_rfl)) ?_
  intro W base args ds gs before hval hW _ hk _
  exact contract_of (s := Rows.keepFoldsSpec) Tryz.func5 Tryz.params5 (by kernel_rfl) Tryz.underlying4 Tryz.underlying29 (by kernel_rfl) (by kernel_rfl) (of_decide_eq_true (by kernel_rfl)) rfl (fun _ _ => rfl)
    op_CaseK (fun x _ hx => ev_k5 x (by unfold wtX at hx; omega)) H enc W base args ds gs before hval hW hk
theorem keepFolds_holds : Rows.KeepFoldsUptoSaid :=
  OpenClaim.holds_of_cond 5 Tryz.f5 rfl rfl rfl rfl rfl rfl rfl ⟨rfl, rfl, rfl, rfl, rfl⟩ rfl rfl rfl rfl rfl (by kernel_rfl) Tryz.func5 (by kernel_rfl)
    (of_decide_eq_true (by kernel_rfl)) (by unfold Func.isWrapper; first | (rw [if_pos (by decide +kernel)]; kernel_rfl) | (rw [if_neg (by decide +kernel)]; exact ⟨rfl, rfl⟩))
    (fun os started H enc _ F => lifted_KeepFolds os started H enc F)
#print axioms keepFolds_holds

end Go.Proofs.YtpomanleabaafaaGreat.Avm
