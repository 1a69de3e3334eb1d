/-
  The law KeepForms holds: for every case of bulk at most 1048576 the call returns true and the case reads behind it as it read before.
-/
import Derived.Test.YtpomanleabaafaaGreatL5
import Derived.Shelf.SlSortCmp.Insertion
import Derived.Test.YtpomanleabaafaaGreatProg
import Derived.KernelRfl
import Derived.Shelf.SlSortCmp.NoneTotal
set_option maxRecDepth 100000
set_option maxHeartbeats 4000000
set_option linter.unusedVariables false
set_option linter.unusedSimpArgs false
set_option linter.unusedSectionVars false
set_option linter.defProp false
namespace Go.Proofs.YtpomanleabaafaaGreat.Avm
open Go.Proofs
theorem cells_str : Tryz.prog.cellsOf 9 = 1 := by kernel_rfl
theorem cells_Rec : Tryz.prog.cellsOf 39 = 3 := by kernel_rfl
theorem cells_Ent : Tryz.prog.cellsOf 49 = 4 := by kernel_rfl
theorem cells_recs : Tryz.prog.cellsOf 22 = 1 := by kernel_rfl
theorem cells_ents : Tryz.prog.cellsOf 23 = 1 := by kernel_rfl
theorem op_str : Opens Tryz.prog 9 ByteArray (fun _ => True) (fun s => [.str s]) (fun s => s.size + 1) := Opens.string Tryz.underlying9
def okK (r : Rec) : Prop := okP r.past
def cellsK (r : Rec) : List AVal := [.str r.sku, .sl 1 (encIs r.past.vec), .sl 3 (encSs r.past.cloud)]
theorem op_Rec : Opens Tryz.prog 39 Rec okK cellsK wtK :=
  (Opens.struct Tryz.underlying39 cells_Rec (OpensF.cons (k := 1) op_str (fun _ => rfl) cells_str rfl (OpensF.cons (k := 2) op_Past (fun _ => rfl) cells_Past rfl (OpensF.nil _)))).map
    (fun x => ⟨x.1, x.2.1⟩) (fun x h => h.2.1) (fun _ => rfl) (fun x => by show wt x.2.1 + 1 ≤ x.1.size + 1 + (wt x.2.1 + 0) + 1; omega)
theorem op_recs : Opens Tryz.prog 22 (List Rec) (fun l => ∀ x ∈ l, okK x) (fun l => [.sl 3 (encKs l)]) (wtL wtK) :=
  Opens.slice (mk := encK) Tryz.underlying22 op_Rec cells_Rec (by decide) (fun _ => rfl) (fun _ => rfl) (fun x y hy => by simp [cellsK] at hy; rcases hy with rfl | rfl | rfl <;> rfl)
def okE (e : Ent) : Prop := True
def cellsE (e : Ent) : List AVal := [.int .i64 e.rep, .int .i64 e.num, .str e.sku, .int .i64 e.qty]
theorem op_Ent : Opens Tryz.prog 49 Ent okE cellsE (fun _ => 1) :=
  (Opens.struct Tryz.underlying49 cells_Ent (OpensF.cons (k := 2) op_Dot (fun _ => rfl) cells_Dot rfl (OpensF.cons (k := 1) op_str (fun _ => rfl) cells_str rfl (OpensF.cons (k := 1) op_int (fun _ => rfl) cells_int rfl (OpensF.nil _))))).map
    (fun x => ⟨x.1.1, x.1.2, x.2.1, x.2.2.1⟩) (fun x h => trivial) (fun _ => rfl) (fun _ => Nat.le_add_left _ _)
theorem op_ents : Opens Tryz.prog 23 (List Ent) (fun l => ∀ x ∈ l, okE x) (fun l => [.sl 4 (encEs l)]) (wtL fun _ => 1) :=
  Opens.slice (mk := encE) Tryz.underlying23 op_Ent cells_Ent (by decide) (fun _ => rfl) (fun _ => rfl) (fun x y hy => by simp [cellsE] at hy; rcases hy with rfl | rfl | rfl | rfl <;> rfl)
structure CasK where
  r : List Rec
  q : List Rec
  a : List Ent
  b : List Ent
  p : Pst
  o : Pst
def cellsX (x : CasK) : List AVal := [.sl 3 (encKs x.r), .sl 3 (encKs x.q), .sl 4 (encEs x.a), .sl 4 (encEs x.b), .sl 1 (encIs x.p.vec), .sl 3 (encSs x.p.cloud), .sl 1 (encIs x.o.vec), .sl 3 (encSs x.o.cloud)]
def encX (x : CasK) : AVal := .agg [.sl 3 (encKs x.r), .sl 3 (encKs x.q), .sl 4 (encEs x.a), .sl 4 (encEs x.b), .sl 1 (encIs x.p.vec), .sl 3 (encSs x.p.cloud), .sl 1 (encIs x.o.vec), .sl 3 (encSs x.o.cloud)]
def okX (x : CasK) : Prop := okP x.p ∧ okP x.o
def wtX (x : CasK) : Nat := wtKs x.r + wtKs x.q + x.a.length + x.b.length + wt x.p + wt x.o
theorem cells_CaseK : Tryz.prog.cellsOf 29 = 8 := by kernel_rfl
theorem op_CaseK : Opens Tryz.prog 29 CasK okX cellsX wtX :=
  (Opens.struct Tryz.underlying29 cells_CaseK (OpensF.cons (k := 1) op_recs (fun _ => rfl) cells_recs rfl (OpensF.cons (k := 1) op_recs (fun _ => rfl) cells_recs rfl
    (OpensF.cons (k := 1) op_ents (fun _ => rfl) cells_ents rfl (OpensF.cons (k := 1) op_ents (fun _ => rfl) cells_ents rfl (OpensF.cons (k := 2) op_Past (fun _ => rfl) cells_Past rfl (OpensF.cons (k := 2) op_Past (fun _ => rfl) cells_Past rfl (OpensF.nil _)))))))).map
    (fun x => ⟨x.1, x.2.1, x.2.2.1, x.2.2.2.1, x.2.2.2.2.1, x.2.2.2.2.2.1⟩) (fun x h => ⟨h.2.2.2.2.1, h.2.2.2.2.2.1⟩) (fun _ => rfl)
    (fun x => by
      show wtKs x.1 + wtKs x.2.1 + x.2.2.1.length + x.2.2.2.1.length + wt x.2.2.2.2.1 + wt x.2.2.2.2.2.1 ≤ (wtKs x.1 + 1) + ((wtKs x.2.1 + 1) + (wtL (fun _ => 1) x.2.2.1 + (wtL (fun _ => 1) x.2.2.2.1 + (wt x.2.2.2.2.1 + (wt x.2.2.2.2.2.1 + 0))))) + 1
      rw [wtL_one, wtL_one]; omega)

section
open Go.Proofs Go.Shelf Go.RowKit Go.Lib Go.Sort
theorem cmpB_neg (a b : ByteArray) : cmpB b a = - cmpB a b := lexI_neg _ _
theorem cmpP_neg (p q : Pst) : cmpP q p = - cmpP p q := lexI_neg _ _
theorem cmpR_neg (a b : Rec) : cmpR b a = - cmpR a b := by
  unfold cmpR
  rw [cmpB_neg a.sku b.sku, cmpP_neg a.past b.past]
  by_cases h : cmpB a.sku b.sku = 0
  · rw [if_pos (by omega), if_pos h]
  · rw [if_neg (by omega), if_neg h]
theorem cmpR_self (a : Rec) : cmpR a a = 0 := by
  unfold cmpR
  rw [if_pos (cmpB_zero.2 rfl)]
  exact cmpP_zero.2 rfl
theorem cmpR_le {a b c : Rec} (h1 : cmpR a b ≤ 0) (h2 : cmpR b c ≤ 0) : cmpR a c ≤ 0 := by
  have s1 : cmpB a.sku b.sku ≤ 0 := by
    unfold cmpR at h1
    split at h1
    · omega
    · exact h1
  have s2 : cmpB b.sku c.sku ≤ 0 := by
    unfold cmpR at h2
    split at h2
    · omega
    · exact h2
  have s3 : cmpB a.sku c.sku ≤ 0 := lexI_trans s1 s2
  by_cases h : cmpB a.sku c.sku = 0
  · have e := cmpB_zero.1 h
    have s4 : cmpB a.sku b.sku = 0 := by
      have := cmpB_neg b.sku c.sku
      rw [← e] at this s2
      omega
    have s5 : cmpB b.sku c.sku = 0 := by rw [← cmpB_zero.1 s4]; exact h
    unfold cmpR at h1 h2 ⊢
    rw [if_pos s4] at h1
    rw [if_pos s5] at h2
    rw [if_pos h]
    exact lexI_trans h1 h2
  · unfold cmpR
    rw [if_neg h]
    exact s3
theorem cmpR_lt {a b c : Rec} (h1 : cmpR a b < 0) (h2 : cmpR b c < 0) : cmpR a c < 0 := by
  have h3 := cmpR_le (a := a) (b := b) (c := c) (by omega) (by omega)
  rcases Int.lt_or_eq_of_le h3 with h | h
  · exact h
  · have h4 := cmpR_le (a := b) (b := c) (c := a) (by omega) (by have := cmpR_neg a c; omega)
    have := cmpR_neg a b
    omega
theorem cmpR_SWO : SWO (ltOf cmpR) := by
  refine ⟨fun x => ?_, fun x y z h1 h2 => ?_, fun x y z h1 h2 => ?_⟩
  · unfold ltOf
    rw [cmpR_self]
    rfl
  · unfold ltOf at *
    simp only [decide_eq_true_eq] at *
    exact cmpR_lt h1 h2
  · unfold ltOf at *
    simp only [decide_eq_false_iff_not] at *
    have := cmpR_le (a := z) (b := y) (c := x) (by have := cmpR_neg y z; omega) (by have := cmpR_neg x y; omega)
    have := cmpR_neg x z
    omega
def CanR (r : Rec) : Prop := normP r.past = r.past
theorem cmpR_eq {a b : Rec} (ha : CanR a) (hb : CanR b) (h : cmpR a b = 0) : a = b := by
  unfold cmpR at h
  split at h
  · rename_i hs
    have e1 := cmpB_zero.1 hs
    have e2 := cmpP_zero.1 h
    unfold CanR at ha hb
    rw [ha, hb] at e2
    cases a; cases b
    simp only at e1 e2
    rw [e1, e2]
  · rename_i hs
    exact absurd h hs
def SrtR (l : List Rec) : Prop := l.Pairwise fun a b => cmpR a b < 0
theorem SrtR.ext : ∀ {l m : List Rec}, SrtR l → SrtR m → (∀ x, x ∈ l ↔ x ∈ m) → l = m
  | [], [], _, _, _ => rfl
  | [], y :: m, _, _, h => absurd ((h y).2 (by simp)) (by simp)
  | x :: l, [], _, _, h => absurd ((h x).1 (by simp)) (by simp)
  | x :: l, y :: m, hl, hm, h => by
    unfold SrtR at hl hm
    rw [List.pairwise_cons] at hl hm
    have irr : ∀ a : Rec, ¬ cmpR a a < 0 := fun a => by rw [cmpR_self]; omega
    have e : x = y := by
      rcases List.mem_cons.1 ((h x).1 (by simp)) with e | e
      · exact e
      · rcases List.mem_cons.1 ((h y).2 (by simp)) with e' | e'
        · exact e'.symm
        · have h1 := hm.1 x e
          have h2 := hl.1 y e'
          exact absurd (cmpR_lt h1 h2) (irr _)
    subst e
    have : l = m := by
      refine SrtR.ext hl.2 hm.2 fun z => ⟨fun hz => ?_, fun hz => ?_⟩
      · rcases List.mem_cons.1 ((h z).1 (by simp [hz])) with e | e
        · subst e; exact absurd (hl.1 z hz) (irr z)
        · exact e
      · rcases List.mem_cons.1 ((h z).2 (by simp [hz])) with e | e
        · subst e; exact absurd (hm.1 z hz) (irr z)
        · exact e
    rw [this]
def insR (x : Rec) : List Rec → List Rec
  | [] => [x]
  | y :: l => if cmpR x y < 0 then x :: y :: l else if cmpR x y = 0 then y :: l else y :: insR x l
def ordR : List Rec → List Rec
  | [] => []
  | x :: l => insR x (ordR l)
theorem insR_mem {x : Rec} : ∀ {l : List Rec} {z : Rec}, z ∈ insR x l → z = x ∨ z ∈ l
  | [], z, h => by simp only [insR, List.mem_singleton] at h; exact .inl h
  | y :: l, z, h => by
    unfold insR at h
    split at h
    · simpa using h
    · split at h
      · exact .inr h
      · rcases List.mem_cons.1 h with h | h
        · exact .inr (by simp [h])
        · rcases insR_mem h with h | h
          · exact .inl h
          · exact .inr (by simp [h])
theorem insR_in {x : Rec} (hx : CanR x) : ∀ {l : List Rec}, (∀ y ∈ l, CanR y) → ∀ z, (z = x ∨ z ∈ l) → z ∈ insR x l
  | [], _, z, h => by
    rcases h with h | h
    · simp [insR, h]
    · cases h
  | y :: l, hl, z, h => by
    unfold insR
    split
    · rcases h with h | h
      · simp [h]
      · exact List.mem_cons_of_mem _ h
    · split
      · rename_i h0
        rcases h with h | h
        · rw [h, cmpR_eq hx (hl y (by simp)) h0]; simp
        · exact h
      · rcases h with h | h
        · exact List.mem_cons_of_mem _ (insR_in hx (fun y hy => hl y (by simp [hy])) z (.inl h))
        · rcases List.mem_cons.1 h with h | h
          · simp [h]
          · exact List.mem_cons_of_mem _ (insR_in hx (fun y hy => hl y (by simp [hy])) z (.inr h))
theorem insR_srt {x : Rec} : ∀ {l : List Rec}, SrtR l → SrtR (insR x l)
  | [], _ => by simp [insR, SrtR]
  | y :: l, h => by
    unfold SrtR at h
    rw [List.pairwise_cons] at h
    unfold insR
    split
    · rename_i hxy
      unfold SrtR
      rw [List.pairwise_cons, List.pairwise_cons]
      refine ⟨fun z hz => ?_, h⟩
      rcases List.mem_cons.1 hz with e | e
      · rw [e]; exact hxy
      · exact cmpR_lt hxy (h.1 z e)
    · split
      · unfold SrtR
        rw [List.pairwise_cons]
        exact h
      · rename_i h1 h2
        unfold SrtR
        rw [List.pairwise_cons]
        refine ⟨fun z hz => ?_, insR_srt h.2⟩
        rcases insR_mem hz with e | e
        · rw [e]; have := cmpR_neg x y; omega
        · exact h.1 z e
theorem ordR_srt : ∀ l : List Rec, SrtR (ordR l)
  | [] => List.Pairwise.nil
  | x :: l => insR_srt (ordR_srt l)
theorem ordR_sub : ∀ {l : List Rec} {z : Rec}, z ∈ ordR l → z ∈ l
  | [], z, h => by cases h
  | x :: l, z, h => by
    rcases insR_mem h with h | h
    · simp [h]
    · exact List.mem_cons_of_mem _ (ordR_sub h)
theorem ordR_in : ∀ {l : List Rec}, (∀ y ∈ l, CanR y) → ∀ z, z ∈ l → z ∈ ordR l
  | [], _, z, h => by cases h
  | x :: l, hl, z, h => by
    refine insR_in (hl x (by simp)) (fun y hy => hl y (List.mem_cons_of_mem _ (ordR_sub hy))) z ?_
    rcases List.mem_cons.1 h with h | h
    · exact .inl h
    · exact .inr (ordR_in (fun y hy => hl y (by simp [hy])) z h)
theorem ordR_mem {l : List Rec} (hl : ∀ y ∈ l, CanR y) (z : Rec) : z ∈ ordR l ↔ z ∈ l := ⟨ordR_sub, ordR_in hl z⟩
theorem ordR_uniq {l m : List Rec} (hl : ∀ y ∈ l, CanR y) (hm : SrtR m) (h : ∀ x, x ∈ m ↔ x ∈ l) : m = ordR l :=
  hm.ext (ordR_srt l) fun x => by rw [h x, ordR_mem hl]
theorem ordR_len (l : List Rec) : (ordR l).length ≤ l.length := by
  have h1 : ∀ (x : Rec) (m : List Rec), (insR x m).length ≤ m.length + 1 := by
    intro x m
    induction m with
    | nil => simp [insR]
    | cons y m ih =>
      unfold insR
      split
      · simp
      · split
        · simp
        · simp only [List.length_cons]; omega
  induction l with
  | nil => simp [ordR]
  | cons x l ih =>
    have := h1 x (ordR l)
    simp only [ordR, List.length_cons]
    omega
def cpt (l : List Rec) : Nat → List Rec
  | 0 => []
  | n + 1 => cpt l n ++ match l[n]? with
    | none => []
    | some x => if n = 0 then [x] else match l[n - 1]? with
      | none => []
      | some y => if cmpR x y = 0 then [] else [x]
theorem cpt_step {l : List Rec} {n : Nat} {x y : Rec} (hn : 0 < n) (hx : l[n]? = some x) (hy : l[n - 1]? = some y) : cpt l (n + 1) = cpt l n ++ if cmpR x y = 0 then [] else [x] := by
  conv => lhs; unfold cpt
  rw [hx]
  simp only
  rw [if_neg (by omega), hy]
theorem cpt_one {l : List Rec} {x : Rec} (hx : l[0]? = some x) : cpt l 1 = [x] := by
  simp [cpt, hx]
theorem cpt_same {l : List Rec} : ∀ {n : Nat}, n ≤ l.length → (∀ (j : Nat) x y, j + 1 < n → l[j]? = some y → l[j + 1]? = some x → cmpR x y ≠ 0) → cpt l n = l.take n
  | 0, _, _ => by simp [cpt]
  | n + 1, hn, h => by
    have ih := cpt_same (l := l) (n := n) (by omega) fun j x y hj => h j x y (by omega)
    obtain ⟨x, hx⟩ : ∃ x, l[n]? = some x := ⟨l[n], by simp [show n < l.length by omega]⟩
    rcases Nat.eq_zero_or_pos n with h0 | h0
    · subst h0
      rw [cpt_one hx, List.take_add_one, hx]
      simp
    · obtain ⟨y, hy⟩ : ∃ y, l[n - 1]? = some y := ⟨l[n - 1], by simp [show n - 1 < l.length by omega]⟩
      rw [cpt_step h0 hx hy, ih, if_neg (h (n - 1) x y (by omega) hy (by rw [show n - 1 + 1 = n by omega]; exact hx)), List.take_add_one, hx]
      rfl
theorem cpt_spec {l : List Rec} (hs : l.Pairwise fun a b => cmpR a b ≤ 0) (hc : ∀ y ∈ l, CanR y) : ∀ {n : Nat}, n ≤ l.length → SrtR (cpt l n) ∧ (∀ x, x ∈ cpt l n ↔ x ∈ l.take n) ∧ (∀ x, l[n - 1]? = some x → 0 < n → ∀ z ∈ cpt l n, z = x ∨ cmpR z x < 0)
  | 0, _ => ⟨List.Pairwise.nil, fun x => by simp [cpt], fun x _ h => by omega⟩
  | n + 1, hn => by
    obtain ⟨i1, i2, i3⟩ := cpt_spec hs hc (n := n) (by omega)
    obtain ⟨x, hx⟩ : ∃ x, l[n]? = some x := ⟨l[n], by simp [show n < l.length by omega]⟩
    have hxl := List.mem_of_getElem? hx
    rcases Nat.eq_zero_or_pos n with h0 | h0
    · subst h0
      rw [cpt_one hx]
      refine ⟨by simp [SrtR], fun z => by rw [List.take_add_one, hx]; simp, fun z hz _ w hw => ?_⟩
      simp only [Nat.add_sub_cancel] at hz
      rw [hx] at hz
      cases hz
      exact .inl (by simpa using hw)
    · obtain ⟨y, hy⟩ : ∃ y, l[n - 1]? = some y := ⟨l[n - 1], by simp [show n - 1 < l.length by omega]⟩
      have hyl := List.mem_of_getElem? hy
      have hle : cmpR y x ≤ 0 := by
        rw [List.pairwise_iff_getElem] at hs
        have := hs (n - 1) n (by omega) (by omega) (by omega)
        have e1 : l[n - 1] = y := by rw [List.getElem?_eq_getElem (by omega)] at hy; exact Option.some.inj hy
        have e2 : l[n] = x := by rw [List.getElem?_eq_getElem (by omega)] at hx; exact Option.some.inj hx
        rw [e1, e2] at this
        exact this
      rw [cpt_step h0 hx hy]
      have hn := cmpR_neg x y
      have i3' := i3 y hy h0
      by_cases hz : cmpR x y = 0
      · rw [if_pos hz, List.append_nil]
        have e := cmpR_eq (hc x hxl) (hc y hyl) hz
        subst e
        refine ⟨i1, fun z => ?_, fun z hz' _ w hw => ?_⟩
        · rw [i2 z, List.take_add_one, hx]
          simp only [Option.toList_some, List.mem_append, List.mem_singleton]
          refine ⟨fun h => .inl h, fun h => h.elim id fun e => ?_⟩
          subst e
          exact List.mem_of_getElem? (i := n - 1) (by rw [List.getElem?_take, if_pos (by omega)]; exact hy)
        · simp only [Nat.add_sub_cancel] at hz'
          rw [hx] at hz'
          cases hz'
          exact i3' w hw
      · rw [if_neg hz]
        have hlt : cmpR y x < 0 := by omega
        have hall : ∀ w ∈ cpt l n, cmpR w x < 0 := fun w hw => by
          rcases i3' w hw with e | e
          · rw [e]; exact hlt
          · exact cmpR_lt e hlt
        refine ⟨?_, fun z => ?_, fun z hz' _ w hw => ?_⟩
        · unfold SrtR
          rw [List.pairwise_append]
          exact ⟨i1, by simp, fun a ha b hb => by rw [List.mem_singleton.1 hb]; exact hall a ha⟩
        · rw [List.take_add_one, hx]
          simp only [Option.toList_some, List.mem_append, List.mem_singleton, i2 z]
        · simp only [Nat.add_sub_cancel] at hz'
          rw [hx] at hz'
          cases hz'
          rcases List.mem_append.1 hw with h | h
          · exact .inr (hall w h)
          · exact .inl (List.mem_singleton.1 h)
theorem cpt_ord {l s : List Rec} (hp : s.Perm l) (hs : s.Pairwise fun a b => cmpR a b ≤ 0) (hc : ∀ y ∈ l, CanR y) : cpt s s.length = ordR l := by
  have hc' : ∀ y ∈ s, CanR y := fun y hy => hc y (hp.mem_iff.1 hy)
  obtain ⟨h1, h2, _⟩ := cpt_spec hs hc' (Nat.le_refl s.length)
  refine ordR_uniq hc h1 fun x => ?_
  rw [h2 x, List.take_length]
  exact hp.mem_iff
end
section
open Go.Shelf Go.RowKit Go.Lib Go.Sort
theorem SWO.pull {α β : Type} {lt : α → α → Bool} (h : SWO lt) (f : β → α) : SWO fun x y => lt (f x) (f y) :=
  ⟨fun x => h.irrefl _, fun x y z => h.trans _ _ _, fun x y z => h.ntrans _ _ _⟩
section
variable {P : Program} {ρ : Ren} {τ : Type}
theorem sortOwnR (L : SlLaysF0.n6 P ρ) (hc6 : Callable P (ρ.f 6)) (k : Nat) (h0k : 0 < k) (aE : ∀ w, (isAgg (ρ.t 24)).run P w = .ok true w) (zE : ∀ w, (Go.sizeOf (ρ.t 24)).run P w = .ok k w)
    (c : τ → List AVal) (hk : ∀ x, (c x).length = k) (hst : ∀ x, stbs (c x) = true) (h1c : ∀ x, ∀ y ∈ c x, y.one = true) (cf : τ → τ → Int) (hO : SWO (ltOf cf)) (g : FuncId) (l : List τ) (hl0 : 0 < l.length) (hl : l.length < 4611686018427387904)
    (hcmp : ∀ x ∈ l, ∀ y ∈ l, Ev P g [.agg (c x), .agg (c y)] (.ret (.int .i64 (cf x y)))) :
    ∃ s : List τ, s.Perm l ∧ s.Pairwise (fun x y => ltOf cf y x = false) ∧ EvOwn P (ρ.f 6) [.undef, .fn g []] 0 k (l.map fun x => .agg (c x)) false (.tup []) (s.map fun x => .agg (c x)) := by
  let τ' := _root_.Fin l.length
  let lx : τ' → τ := fun i => l[i]
  letI : Inhabited τ' := ⟨⟨0, hl0⟩⟩
  let cf' : τ' → τ' → Int := fun i j => cf (lx i) (lx j)
  let c' : τ' → List AVal := fun i => c (lx i)
  have hO' : SWO (ltOf cf') := SWO.pull hO lx
  have hmem : ∀ i : τ', lx i ∈ l := fun i => List.getElem_mem _
  have hdl : (List.finRange l.length).map lx = l := by
    apply List.ext_getElem
    · rw [List.length_map, List.length_finRange]
    · intro i h1 h2
      rw [List.getElem_map, List.getElem_finRange]
      rfl
  let d : Array τ' := (List.finRange l.length).toArray
  let d' := pdq (ltOf cf') d 0 d.size (Lib.bitLen d.size) true true
  have hds : d.size = l.length := by
    show (List.finRange l.length).toArray.size = _
    rw [List.size_toArray, List.length_finRange]
  obtain ⟨hp, hsrt⟩ := pdq_sorts (ltOf cf') hO' d 0 d.size (Lib.bitLen d.size) true true (Nat.zero_le _) (Nat.le_refl _) (Or.inl rfl)
  have hsz' : d'.size = d.size := hp.1
  have hperm : d'.toList.Perm (List.finRange l.length) := by
    have := hp.2.2
    have e : ∀ (x : Array τ') (n : Nat), x.size = n → x.extract 0 n = x := by rintro x n rfl; exact Array.extract_size
    rw [e d _ rfl, e _ _ hsz'] at this
    simpa [d] using this
  have hpw : d'.toList.Pairwise (fun x y => ltOf cf' y x = false) := by
    rw [List.pairwise_iff_getElem]
    intro i j hi hj hij
    have h1 : i < d'.size := by simpa using hi
    have h2 : j < d'.size := by simpa using hj
    have := hsrt i j (Nat.zero_le _) hij (by rw [← hsz']; exact h2)
    rw [show (pdq (ltOf cf') d 0 d.size (Lib.bitLen d.size) true true) = d' from rfl, getElem!_pos d' i h1, getElem!_pos d' j h2] at this
    simpa using this
  refine ⟨d'.toList.map lx, ?_, ?_, hc6, fun B w vs G hkey hvs hv hown hB hol => ?_⟩
  · have := hperm.map lx
    rwa [hdl] at this
  · rw [List.pairwise_map]
    exact hpw
  obtain ⟨v0, hv0, hown⟩ := hown
  obtain ⟨v1, hv1⟩ : ∃ v, vs[1]? = some v := ⟨vs[1]'(by rw [hvs]; simp), by simp [hvs]⟩
  have hfn := hv 1 (.fn g []) v1 (by decide) rfl hv1
  have hf1 : v1 = .func (.func g) #[] #[] := by
    cases hfn with
    | fn _ _ ws hl0 _ =>
      have : ws = #[] := Array.eq_empty_of_size_eq_zero (by simpa using hl0)
      rw [this]
  have hvs' : vs = #[v0, v1] := by
    have h2 : vs.size = 2 := hvs
    apply Array.ext_getElem?
    intro i
    match i with
    | 0 => simpa using hv0
    | 1 => simpa using hv1
    | i + 2 => rw [Array.getElem?_eq_none (by omega)]; simp
  rw [hvs', hf1]
  rcases hown with ⟨rfl, hnil⟩ | ⟨b, off, cap, cc, el, hb1, hb2, hb3, hb4, hb5, hb6, hb7, hb8, hb9⟩
  · have : l = [] := by simpa using hnil
    rw [this] at hl0
    simp at hl0
  · rw [flat_aggs] at hb8 hb9
    have hblk : b < w.heap.size := by
      rcases Nat.lt_or_ge b w.heap.size with h | h
      · exact h
      · rw [Array.getElem?_eq_none h] at hb5; cases hb5
    have hlen : (l.map fun x => AVal.agg (c x)).length = l.length := by simp
    rw [hlen] at hb1 hb2
    have hroom : off + l.length * k ≤ cc.size := by
      have := Nat.mul_le_mul_right k hb2
      omega
    let enc : τ' → List Value := fun i => (List.range k).map fun j => cc.getD (off + (i.val * k + j)) undef
    have hek : ∀ x, (enc x).length = k := fun x => by simp [enc]
    have cellE : ∀ (i : τ') (j : Nat) (y : AVal), (c' i)[j]? = some y → ∃ u, (enc i)[j]? = some u ∧ cc[off + (i.val * k + j)]? = some u ∧ VR (Dm NoM) G B w y u := by
      intro i j y hy
      have hj : j < k := by
        rw [← hk (lx i)]
        rcases Nat.lt_or_ge j (c' i).length with h | h
        · exact h
        · rw [List.getElem?_eq_none h] at hy; cases hy
      obtain ⟨u, hu, hr⟩ := hb9 (i.val * k + j) y (by rw [flatMap_at hk (x := lx i) (List.getElem?_eq_getElem i.isLt) hj]; exact hy)
      exact ⟨u, by simp [enc, hj, hu], hu, hr⟩
    have encOf : ∀ (i : τ') (u : Value), u ∈ enc i → ∃ (j : Nat) (y : AVal), (c' i)[j]? = some y ∧ (enc i)[j]? = some u := by
      intro i u hu
      obtain ⟨j, hj, hu'⟩ := List.getElem_of_mem hu
      have hj' : j < (c' i).length := by rw [hk]; rwa [hek] at hj
      exact ⟨j, _, List.getElem?_eq_getElem hj', by rw [← hu']; exact List.getElem?_eq_getElem hj⟩
    have he1 : ∀ x, ∀ v ∈ enc x, v.oneCell' = true := fun x v hv => by
      obtain ⟨j, y, hy, hu⟩ := encOf x v hv
      obtain ⟨u, hu2, _, hr⟩ := cellE x j y hy
      rw [hu] at hu2
      cases hu2
      exact hr.oneCell (h1c (lx x) y (List.mem_of_getElem? hy))
    have cellv : ∀ (m : Array τ') (t : Nat), t < m.size * k → ∃ (x : τ') (y : AVal) (u : Value), m.toList[t / k]? = some x ∧ (c' x)[t % k]? = some y ∧ ((m.toList.map lx).flatMap c)[t]? = some y ∧ (flatK enc k m)[t]! = u ∧ cc[off + (x.val * k + t % k)]? = some u ∧ VR (Dm NoM) G B w y u := by
      intro m t ht
      have h1 : t / k < m.size := Nat.div_lt_of_lt_mul (by rw [Nat.mul_comm]; exact ht)
      have h2 : t % k < k := Nat.mod_lt _ h0k
      have hx : m.toList[t / k]? = some m[t / k] := by simp [h1]
      have hy : (c' m[t / k])[t % k]? = some ((c' m[t / k])[t % k]'(by rw [hk]; exact h2)) := by simp [hk, h2]
      obtain ⟨u, hu1, hu2, hr⟩ := cellE m[t / k] (t % k) _ hy
      refine ⟨m[t / k], _, u, hx, hy, ?_, ?_, hu2, hr⟩
      · have hx' : (m.toList.map lx)[t / k]? = some (lx m[t / k]) := by rw [List.getElem?_map, hx]; rfl
        rw [← hy, ← flatMap_at hk hx' h2, Nat.mul_comm, Nat.div_add_mod]
      · rw [get_flatK _ _ _ _ ht, getElem!_pos m _ h1, getElem!_pos (enc m[t / k]) _ (by rw [hek]; exact h2)]
        rw [List.getElem?_eq_getElem (by rw [hek]; exact h2)] at hu1
        exact Option.some.inj hu1
    have hdget : ∀ (t : Nat) (x : τ'), d.toList[t]? = some x → x.val = t := by
      intro t x hx
      have hx : (List.finRange l.length)[t]? = some x := hx
      rw [List.getElem?_eq_some_iff] at hx
      obtain ⟨h1, h2⟩ := hx
      rw [List.getElem_finRange] at h2
      rw [← h2]
      rfl
    have hH : HoldsK enc k w b off d := by
      intro t ht
      rw [size_flatK, hds] at ht
      obtain ⟨x, y, u, e1, e2, e3, e4, e5, e6⟩ := cellv d t (by rw [hds]; exact ht)
      have hx := hdget _ _ e1
      have hidx : x.val * k + t % k = t := by rw [hx, Nat.mul_comm]; exact Nat.div_add_mod t k
      rw [hidx] at e5
      refine ⟨?_, ?_⟩
      · rw [cell_at hb5, e5, e4]; rfl
      · simp [World.frozen?, hb5]
    have hbg : G.ow b ≠ none := by rw [hb3]; simp
    have hwk : ∀ (m : Nat) (os : Array Obj) (dk : Array τ') (b' : Nat), b' < w.heap.size → (sortWorldK enc k w b off m dk os).heap[b']? = if b' = b then some (.cells (putCells id off (flatK enc k dk) cc) el (0, 0)) else w.heap[b']? := by
      intro m os dk b' hb'
      simp only [sortWorldK, grow, putRowK, putRow, mapBlock, Sort.ahead]
      rw [Array.getElem?_append_left (by simpa using hb'), Array.getElem?_modify]
      by_cases hbb : b = b'
      · subst hbb
        rw [if_pos rfl, if_pos rfl, hb5]
        rfl
      · rw [if_neg hbb, if_neg (Ne.symm hbb)]
    have hstw : ∀ (m : Nat) (os : Array Obj) (dk : Array τ') (G' : Gh) (B' : Nat → Prop), (∀ b', G.ow b' = none → G'.ow b' = none) → (∀ b', B' b' → B b') → ∀ (y : AVal) (u : Value), y.stb = true → VR (Dm NoM) G B w y u → VR (Dm NoM) G' B' (sortWorldK enc k w b off m dk os) y u := by
      intro m os dk G' B' hG hBB y u hy hr
      refine hr.stable (fun b' hb' hn ho => ⟨?_, fun hc => hn (hBB _ hc), hG _ ho⟩) hy
      rw [hwk m os dk b' hb', if_neg]
      rintro rfl
      exact hbg ho
    have hlays : CmpLays P g #[] enc k cf' b off d.size w := by
      intro m os dk hdk x y
      have hone : ∀ x : τ', VR (Dm NoM) { G with ow := fun _ => none } (fun _ => False) (sortWorldK enc k w b off m dk os) (.agg (c' x)) (.agg (enc x).toArray) := fun x => by
        refine .agg _ _ (by simp [hek, c', hk]) fun n z v hz hv => ?_
        obtain ⟨u, hu, _, hr⟩ := cellE x n z hz
        rw [List.getElem?_toArray, hu] at hv
        rw [← Option.some.inj hv]
        exact hstw m os dk _ _ (fun _ _ => rfl) (fun _ h => False.elim h) z u (stbs_get (hst (lx x)) hz) hr
      have hE := (hcmp _ (hmem x) _ (hmem y)).2 (fun _ => False) (sortWorldK enc k w b off m dk os) #[.agg (enc x).toArray, .agg (enc y).toArray] { G with ow := fun _ => none } (fun _ => rfl) rfl (fun i z v hz hv => ?_) (fun _ h => h.elim)
      · refine hE.mono ?_
        rintro e w' ⟨G', v', hG', hA, he, hr⟩
        cases hr
        exact ⟨he, hA.grown (fun _ => rfl)⟩
      · match i with
        | 0 => simp at hz hv; subst hz; subst hv; exact hone x
        | 1 => simp at hz hv; subst hz; subst hv; exact hone y
        | i + 2 => simp at hz
    have eg : ∀ args w, (callFunc g args).run P w = .ok (.enter g args) w := fun args w => by
      obtain ⟨fn, hfn, hnm, hbd⟩ := (hcmp _ (hmem default) _ (hmem default)).1.ok
      have e1 : (fn.name = "runtime.NumGoroutine") = False := by simpa using hnm
      have e2 : (fn.body = none) = False := by simp only [eq_iff_iff, iff_false]; intro hn; rw [hn] at hbd; simp at hbd
      simp [callFunc, hfn, e1, e2]
    have hmain := AnyQ.slices_SortFunc_eq L k aE zE enc hek he1 cf' hO' g #[] b off cap d w eg hlays hH hblk (by rw [hds]; exact hl)
    rw [hb1, show l.length = d.size by rw [hds]]
    refine hmain.mono ?_
    rintro e w' ⟨rfl, n, os, hw'⟩
    have hw0 : ∀ b', b' < w.heap.size → w'.heap[b']? = if b' = b then some (.cells (putCells id off (flatK enc k d') cc) el (0, 0)) else w.heap[b']? := by
      intro b' hb'
      rw [hw']
      exact hwk _ _ _ _ hb'
    have hsize : w.heap.size ≤ w'.heap.size := by
      rw [hw']
      simp [sortWorldK, grow, putRowK, putRow, mapBlock, Sort.ahead]
    have hkeep : ∀ b', b' < w.heap.size → G.ow b' = none → w'.heap[b']? = w.heap[b']? ∧ G.ow b' = none := fun b' hb' ho => by
      refine ⟨?_, ho⟩
      rw [hw0 b' hb', if_neg]
      rintro rfl
      rw [hb3] at ho; cases ho
    have hA : Adv G w G w' := ⟨by rw [hw']; exact ⟨rfl, Nat.le_add_right _ _⟩, by rw [hw']; rfl, by rw [hw']; rfl, hsize, hkeep⟩
    refine ⟨G, .tuple #[], v0, rfl, hkey, fun b' hb' => Nat.lt_of_lt_of_le (hol b' hb') hsize, hA, .inr ⟨b, off, cap, putCells id off (flatK enc k d') cc, el, ?_, ?_, hb3, hb4, ?_, ?_, ?_, ?_, ?_⟩, fun h => (by cases h), fun _ => ⟨by simp [hb1, hds], .tup [] #[] rfl fun n x v hx => by simp at hx⟩⟩
    · rw [hb1]; simp [hsz', hds]
    · simp only [List.length_map, Array.length_toList, hsz', hds]; exact hb2
    · rw [hw0 b hblk, if_pos rfl]
    · simp only [putCells, Array.size_mapIdx]; exact hb6
    · intro x hx
      obtain ⟨z, _, rfl⟩ := List.mem_map.1 hx
      exact hk z
    · intro x hx
      rw [flat_aggs] at hx
      obtain ⟨z, _, hz⟩ := List.mem_flatMap.1 hx
      exact h1c z x hz
    · intro t x hx
      rw [flat_aggs] at hx
      have htl : t < d'.size * k := by
        have h1 : t < ((d'.toList.map lx).flatMap c).length := by
          rcases Nat.lt_or_ge t ((d'.toList.map lx).flatMap c).length with h | h
          · exact h
          · rw [List.getElem?_eq_none h] at hx; cases hx
        rwa [← flat_aggs, flat_length (sz := k) (fun y hy => by obtain ⟨z, _, rfl⟩ := List.mem_map.1 hy; exact hk z), List.length_map, List.length_map, Array.length_toList] at h1
      obtain ⟨z, y, u, e1, e2, e3, e4, e5, e6⟩ := cellv d' t htl
      rw [hx] at e3
      cases e3
      have hlt : off + t < cc.size := by rw [hsz', hds] at htl; omega
      refine ⟨u, ?_, ?_⟩
      · simp only [putCells, Array.getElem?_mapIdx, Array.getElem?_eq_getElem hlt, Option.map_some]
        rw [if_pos ⟨by omega, by rw [size_flatK]; omega⟩, show off + t - off = t by omega, e4]
        rfl
      · rw [hw']
        exact hstw _ _ _ G B (fun _ h => h) (fun _ h => h) x u (stbs_get (hst (lx z)) e2) e6
end
end
section
open Go.Proofs Go.Shelf Go.RowKit Go.Lib Go.Sort
def lay_sortRec_ren : Go.Shelf.Ren := ⟨fun | 6 => 57 | 15 => 107 | 14 => 106 | 28 => 152 | 29 => 153 | 20 => 144 | 21 => 145 | 22 => 146 | 23 => 147 | 24 => 148 | 25 => 149 | 26 => 150 | 27 => 151 | 46 => 163 | 47 => 164 | 48 => 165 | 49 => 166 | 50 => 167 | 57 => 173 | n => n, fun | 22 => 22 | 24 => 39 | 25 => 40 | 3 => 3 | 39 => 131 | 0 => 0 | 53 => 178 | 55 => 180 | 4 => 4 | 46 => 171 | 45 => 170 | 50 => 175 | 5 => 5 | 9 => 9 | 66 => 186 | 70 => 190 | 76 => 193 | 77 => 132 | n => n, fun | n => n⟩
theorem lay_sortRec : Go.Proofs.SlLaysF0.n6 Tryz.prog lay_sortRec_ren where
  mixed := by kernel_rfl
  f6 := ⟨Tryz.f57.name, by decide, Tryz.func57.trans (congrArg some (by kernel_rfl))⟩
  f14 := ⟨Tryz.f106.name, by decide, Tryz.func106.trans (congrArg some (by kernel_rfl))⟩
  f15 := Tryz.func107.trans (congrArg some (by kernel_rfl))
  f20 := ⟨Tryz.f144.name, by decide, Tryz.func144.trans (congrArg some (by kernel_rfl))⟩
  f21 := ⟨Tryz.f145.name, by decide, Tryz.func145.trans (congrArg some (by kernel_rfl))⟩
  f22 := ⟨Tryz.f146.name, by decide, Tryz.func146.trans (congrArg some (by kernel_rfl))⟩
  f23 := ⟨Tryz.f147.name, by decide, Tryz.func147.trans (congrArg some (by kernel_rfl))⟩
  f24 := ⟨Tryz.f148.name, by decide, Tryz.func148.trans (congrArg some (by kernel_rfl))⟩
  f25 := ⟨Tryz.f149.name, by decide, Tryz.func149.trans (congrArg some (by kernel_rfl))⟩
  f26 := ⟨Tryz.f150.name, by decide, Tryz.func150.trans (congrArg some (by kernel_rfl))⟩
  f27 := ⟨Tryz.f151.name, by decide, Tryz.func151.trans (congrArg some (by kernel_rfl))⟩
  f28 := Tryz.func152.trans (congrArg some (by kernel_rfl))
  f29 := Tryz.func153.trans (congrArg some (by kernel_rfl))
  f46 := ⟨Tryz.f163.name, by decide, Tryz.func163.trans (congrArg some (by kernel_rfl))⟩
  f47 := Tryz.func164.trans (congrArg some (by kernel_rfl))
  f48 := Tryz.func165.trans (congrArg some (by kernel_rfl))
  f49 := ⟨Tryz.f166.name, by decide, Tryz.func166.trans (congrArg some (by kernel_rfl))⟩
  f50 := ⟨Tryz.f167.name, by decide, Tryz.func167.trans (congrArg some (by kernel_rfl))⟩
  f57 := ⟨Tryz.f173.name, by decide, Tryz.func173.trans (congrArg some (by kernel_rfl))⟩
  t0 := Tryz.underlying0
  a0 := Tryz.isAgg0
  z0 := Tryz.sizeOf0
  v0 := Tryz.zeroValue0
  t3 := Tryz.underlying3
  a3 := Tryz.isAgg3
  z3 := Tryz.sizeOf3
  v3 := Tryz.zeroValue3
  t4 := Tryz.underlying4
  a4 := Tryz.isAgg4
  z4 := Tryz.sizeOf4
  v4 := Tryz.zeroValue4
  t5 := Tryz.underlying5
  a5 := Tryz.isAgg5
  z5 := Tryz.sizeOf5
  v5 := Tryz.zeroValue5
  t9 := Tryz.underlying9
  a9 := Tryz.isAgg9
  z9 := Tryz.sizeOf9
  v9 := Tryz.zeroValue9
  t22 := Tryz.underlying22
  a22 := Tryz.isAgg22
  z22 := Tryz.sizeOf22
  v22 := Tryz.zeroValue22
  t25 := Tryz.underlying40
  a25 := Tryz.isAgg40
  z25 := Tryz.sizeOf40
  v25 := Tryz.zeroValue40
  t39 := Tryz.underlying131
  a39 := Tryz.isAgg131
  z39 := Tryz.sizeOf131
  v39 := Tryz.zeroValue131
  t45 := Tryz.underlying170
  a45 := Tryz.isAgg170
  z45 := Tryz.sizeOf170
  v45 := Tryz.zeroValue170
  t46 := Tryz.underlying171
  a46 := Tryz.isAgg171
  z46 := Tryz.sizeOf171
  v46 := Tryz.zeroValue171
  t50 := Tryz.underlying175
  a50 := Tryz.isAgg175
  z50 := Tryz.sizeOf175
  v50 := Tryz.zeroValue175
  t53 := Tryz.underlying178
  a53 := Tryz.isAgg178
  z53 := Tryz.sizeOf178
  v53 := Tryz.zeroValue178
  t55 := Tryz.underlying180
  a55 := Tryz.isAgg180
  z55 := Tryz.sizeOf180
  v55 := Tryz.zeroValue180
  t66 := Tryz.underlying186
  a66 := Tryz.isAgg186
  z66 := Tryz.sizeOf186
  v66 := Tryz.zeroValue186
  t70 := Tryz.underlying190
  a70 := Tryz.isAgg190
  z70 := Tryz.sizeOf190
  v70 := Tryz.zeroValue190
  t76 := Tryz.underlying193
  a76 := Tryz.isAgg193
  z76 := Tryz.sizeOf193
  v76 := Tryz.zeroValue193
  t77 := Tryz.underlying132
  a77 := Tryz.isAgg132
  z77 := Tryz.sizeOf132
  v77 := Tryz.zeroValue132
end
def r_k59_1 : List SOp :=
  [⟨(some 2), (.box 39 (.tmp 0)), none⟩, ⟨(some 3), (.box 39 (.tmp 1)), none⟩, ⟨(some 4), (.assign (.const (.bool false))), none⟩]
instance : Live r_k59_1 := ⟨[0, 1]⟩
def r_k59_2 : List SOp :=
  [⟨(some 5), (.load 39 (.tmp 2)), none⟩, ⟨(some 6), (.load 39 (.tmp 3)), none⟩, ⟨(some 7), (.call ⟨.value (.func 19), #[.tmp 5, .tmp 6], #[39, 39]⟩), none⟩, ⟨(some 8), (.binOp .eql 3 (.tmp 7) (.const (.int .i64 0)) 3), none⟩, ⟨(some 4), (.assign (.tmp 8)), none⟩]
instance : Live r_k59_2 := ⟨[2, 3]⟩
def t_k59 : SC :=
  (.seq (.ops false r_k59_1) (.seq (.ops false r_k59_2) .ret))
theorem it_k59 : FnIs Tryz.prog 59 9 [.tmp 4] t_k59 := ⟨Tryz.f59, _, Tryz.func59, rfl, rfl, rfl, rfl, by kernel_rfl⟩

section
open Go.Proofs Go.Shelf Go.RowKit Go.Lib Go.Sort
def WkQ (n : Nat) (Q : Ex → AS → Prop) : Ex → AS → Prop
  | .pan x, s => Q (.pan x) s
  | e, s => ∃ s2, Wk n s s2 ∧ Q e s2
theorem AW.wkEnd {E : Env} {n : Nat} {Q : Ex → AS → Prop} {s : AS} {x : SC} (h : AW E n x (WkQ n Q) s) : AW E n x Q s := fun c hc B G a w hR Q' hP =>
  h c hc B G a w hR Q' fun e s1 a' w' G' hA hR' hq => by
    cases e with
    | pan x => exact hP (.pan x) s1 a' w' G' hA hR' hq
    | normal => obtain ⟨s2, hw, hq2⟩ := hq; obtain ⟨G2, h2, a2⟩ := hw B G' a' w' hR'; exact hP .normal s2 a' w' G2 (hA.trans a2) h2 hq2
    | ret => obtain ⟨s2, hw, hq2⟩ := hq; obtain ⟨G2, h2, a2⟩ := hw B G' a' w' hR'; exact hP .ret s2 a' w' G2 (hA.trans a2) h2 hq2
    | exit id => obtain ⟨s2, hw, hq2⟩ := hq; obtain ⟨G2, h2, a2⟩ := hw B G' a' w' hR'; exact hP (.exit id) s2 a' w' G2 (hA.trans a2) h2 hq2
theorem ev_sortRecs (l : List Rec) (hw : ∀ r ∈ l, wt r.past ≤ 50000000) (h0 : 0 < l.length) (hl : l.length ≤ 1000000000) :
    ∃ s : List Rec, s.Perm l ∧ s.Pairwise (fun a b => cmpR a b ≤ 0) ∧ EvOwn (En Tryz.prog rfl).P 57 [.undef, .fn 19 []] 0 3 (encKs l) false (.tup []) (encKs s) := by
  obtain ⟨s, h1, h2, h3⟩ := sortOwnR (τ := Rec) lay_sortRec (FnIs.callable it_k57) 3 (by decide) Tryz.isAgg39 Tryz.sizeOf39 (fun r => [.str r.sku, .sl 1 (encIs r.past.vec), .sl 3 (encSs r.past.cloud)]) (fun _ => rfl)
    (fun x => by simp [AVal.stb, stbs, encIs_stb, encSs_stb]) (fun x y hy => by simp at hy; rcases hy with rfl | rfl | rfl <;> rfl) cmpR cmpR_SWO 19 l h0 (by omega) (fun x hx y hy => ev_k19 x y (hw x hx) (hw y hy))
  refine ⟨s, h1, h2.imp fun {a b} h => ?_, h3⟩
  unfold ltOf at h
  simp only [decide_eq_false_iff_not] at h
  have := cmpR_neg a b
  omega
theorem ev_keepSort1eq (a b : Rec) (ha : wt a.past ≤ 50000000) (hb : wt b.past ≤ 50000000) : Ev (En Tryz.prog rfl).P 59 [encK a, encK b] (.ret (.bool (decide (cmpR a b = 0)))) := by
  refine Ev.of_body it_k59 (by simp) (Run.start ?_)
  unfold t_k59
  have c1 := ev_k19 a b ha hb
  unfold encK at c1 ⊢
  have hS := stbK
  (focus (have hF := True.intro; (repeat' (first | with_reducible refine Nx.of ?_ | ((with_reducible apply toV); refine stV (k:=?_)) | ((with_reducible apply toG); refine stG (k:=?_)) | ((with_reducible apply toG0); refine stG0 (k:=?_)) | ((with_reducible apply toC); refine stC (k:=?_)) | ((with_reducible apply toO); refine stO (k:=?_)) | ((with_reducible apply toX); refine stX (k:=?_)) | with_reducible refine Ny.of ?_ ?_ | (refine Hyp.of ?_; intro hc; (try simp only [hc]); (try simp only [Bh] at hc)))); all_goals clear hF))
  refine stCall [encK a, encK b] (he := c1) (k:=?_)
  (focus (have hF := True.intro; (repeat' (first | with_reducible refine Nx.of ?_ | ((with_reducible apply toV); refine stV (k:=?_)) | ((with_reducible apply toG); refine stG (k:=?_)) | ((with_reducible apply toG0); refine stG0 (k:=?_)) | ((with_reducible apply toC); refine stC (k:=?_)) | ((with_reducible apply toO); refine stO (k:=?_)) | ((with_reducible apply toX); refine stX (k:=?_)) | with_reducible refine Ny.of ?_ ?_ | (refine Hyp.of ?_; intro hc; (try simp only [hc]); (try simp only [Bh] at hc)))); all_goals clear hF))
  exact Fin.tmp' rfl rfl
theorem clearA_eq {TE : TyE} {M : Mem} {t el : TypeId} {k e sz i n s1 b1 : Nat} {z1 : Value} {ei : TyI} {xs : List AVal} (ht : TE t = some ⟨.slice el, s1, b1, z1⟩) (he : TE el = some ei) (hM : M k = some (.arr e sz xs)) (hok : ei.okElem = true)
    (hs : sz = ei.size) (h1 : i + n ≤ xs.length) (h0 : 0 < n) : clearA TE M t (.vw k e sz i n) = some (.tup [], [(k, .arr e sz (xs.take i ++ List.replicate n ei.zeroElem ++ xs.drop (i + n)))]) := by
  simp [clearA, ht, he, hM, hok, hs, h1, h0]
theorem awp_clear {E : Env} {Q : Ex → AS → Prop} {r : List SOp} {T : Tmps} {M : Mem} {a : Tmp} {t el : TypeId} {k e sz i n s1 b1 : Nat} {z1 : Value} {ei : TyI} {xs : List AVal} (hx : T a = .vw k e sz i n) (hM : M k = some (.arr e sz xs)) (ht : E.TE t = some ⟨.slice el, s1, b1, z1⟩) (he : E.TE el = some ei)
    (hok : ei.okElem = true) (hs : sz = ei.size) (h1 : i + n ≤ xs.length) (h0 : 0 < n) (kk : awpOps E false none Q r ⟨T, upd M k (some (.arr e sz (xs.take i ++ List.replicate n ei.zeroElem ++ xs.drop (i + n))))⟩) :
    awpOps E false none Q (⟨none, .call ⟨.builtin .clear, #[.tmp a], #[t]⟩, none⟩ :: r) ⟨T, M⟩ := by
  have h := clearA_eq ht he hM hok hs h1 h0
  exact dv (v := .tup []) (ups := [(k, .arr e sz (xs.take i ++ List.replicate n ei.zeroElem ++ xs.drop (i + n)))]) rfl (show clearA E.TE M t (T a) = _ by rw [hx]; exact h) (by simp [dchk, rkOk]) rfl kk
theorem encKs_set (l : List Rec) (k : Nat) (s : ByteArray) (v : List Int) (c : List Sn) : (encKs l).set k (.agg [.str s, .sl 1 (encIs v), .sl 3 (encSs c)]) = encKs (l.set k ⟨s, ⟨v, c⟩⟩) := by
  unfold encKs
  rw [List.map_set]
  rfl
theorem ev_compact (l : List Rec) (hw : ∀ r ∈ l, wt r.past ≤ 50000000) (hl : l.length ≤ 1000000000) :
    EvOwn (En Tryz.prog rfl).P 58 [.undef, .fn 59 []] 0 3 (encKs l) true .undef (encKs (cpt l l.length)) := by
  refine EvOwn.of_body it_k58 (by simp) (AW.wkEnd (Run.start ?_))
  unfold t_k58 initO
  have e1 := encKs_len l
  have hS := stbK
  by_cases h2 : l.length < 2
  · rw [cpt_same (Nat.le_refl _) (fun j x y hj => absurd hj (by omega)), List.take_length]
    (focus (have hF := @e1; (repeat' (first | with_reducible refine Nx.of ?_ | ((with_reducible apply toV); refine stV (k:=?_)) | ((with_reducible apply toG); refine stG (k:=?_)) | ((with_reducible apply toG0); refine stG0 (k:=?_)) | ((with_reducible apply toC); refine stC (k:=?_)) | ((with_reducible apply toO); refine stO (k:=?_)) | ((with_reducible apply toX); refine stX (k:=?_)) | with_reducible refine Ny.of ?_ ?_ | (refine Hyp.of ?_; intro hc; (try simp only [hc]); (try simp only [Bh] at hc)))); all_goals clear hF))
    exact Fin.done ⟨_, Wk.refl _ _, _, rfl, rfl, encKs_stb _⟩
  · (focus (have hF := @e1; (repeat' (first | with_reducible refine Nx.of ?_ | ((with_reducible apply toV); refine stV (k:=?_)) | ((with_reducible apply toG); refine stG (k:=?_)) | ((with_reducible apply toG0); refine stG0 (k:=?_)) | ((with_reducible apply toC); refine stC (k:=?_)) | ((with_reducible apply toO); refine stO (k:=?_)) | ((with_reducible apply toX); refine stX (k:=?_)) | with_reducible refine Ny.of ?_ ?_ | (refine Hyp.of ?_; intro hc; (try simp only [hc]); (try simp only [Bh] at hc)))); all_goals clear hF))
    refine Run.wk (Wk.view 0 0 0 3 rfl rfl (by rw [e1]; omega)) ?_
    rw [e1]
    have h01 : ((0 + 1 : Nat) : Int) = 1 := rfl
    refine Run.while (σ := Nat) (fun j => ⟨tms [(0, .vw 0 0 3 0 l.length), (1, .fn 59 []), (5, .int .i64 ((j + 1 : Nat) : Int))], mms [(0, .arr 0 3 (encKs l))]⟩)
      (fun j => j + 1 ≤ l.length ∧ ∀ (m : Nat) x y, m + 1 < j + 1 → l[m]? = some y → l[m + 1]? = some x → cmpR x y ≠ 0) (fun j => l.length - j) 0 (have hW := (And.intro @encKs_stb @h01); stWk) ⟨by omega, fun m x y hm => absurd hm (by omega)⟩ ?_
    rintro j ⟨hj, hd⟩
    unfold t_k58_l1
    by_cases hlt : j + 1 < l.length
    · obtain ⟨x, hx⟩ : ∃ x, l[j + 1]? = some x := ⟨l[j + 1], by simp [hlt]⟩
      obtain ⟨y, hy⟩ : ∃ y, l[j]? = some y := ⟨l[j], by simp [show j < l.length by omega]⟩
      have g1 := encKs_get hx
      have g2 := encKs_get hy
      have w1 : IntKind.i64.wrap (((j + 1 : Nat) : Int) - 1) = (j : Int) := by rw [wrap_ok (by omega)]; omega
      have n1 : ((j + 1 : Nat) : Int).toNat = j + 1 := Int.toNat_natCast _
      have n2 : (j : Int).toNat = j := Int.toNat_natCast _
      have c1 := ev_keepSort1eq x y (hw x (List.mem_of_getElem? hx)) (hw y (List.mem_of_getElem? hy))
      (focus (have hF := (And.intro (And.intro @e1 (And.intro @g1 @g2)) (And.intro (And.intro @w1 @n1) (And.intro @n2 @Nat.zero_add))); (repeat' (first | with_reducible refine Nx.of ?_ | ((with_reducible apply toV); refine stV (k:=?_)) | ((with_reducible apply toG); refine stG (k:=?_)) | ((with_reducible apply toG0); refine stG0 (k:=?_)) | ((with_reducible apply toC); refine stC (k:=?_)) | ((with_reducible apply toO); refine stO (k:=?_)) | ((with_reducible apply toX); refine stX (k:=?_)) | with_reducible refine Ny.of ?_ ?_ | (refine Hyp.of ?_; intro hc; (try simp only [hc]); (try simp only [Bh] at hc)))); all_goals clear hF))
      refine stCall [encK x, encK y] (he := c1) (k:=?_)
      by_cases hz : cmpR x y = 0
      · rw [decide_eq_true hz]
        (focus (have hF := (And.intro @e1 (And.intro @n1 @Nat.zero_add)); (repeat' (first | with_reducible refine Nx.of ?_ | ((with_reducible apply toV); refine stV (k:=?_)) | ((with_reducible apply toG); refine stG (k:=?_)) | ((with_reducible apply toG0); refine stG0 (k:=?_)) | ((with_reducible apply toC); refine stC (k:=?_)) | ((with_reducible apply toO); refine stO (k:=?_)) | ((with_reducible apply toX); refine stX (k:=?_)) | with_reducible refine Ny.of ?_ ?_ | (refine Hyp.of ?_; intro hc; (try simp only [hc]); (try simp only [Bh] at hc)))); all_goals clear hF))
        have h01 : ((0 + 1 : Nat) : Int) = 1 := rfl
        have hcp := cpt_same (l := l) (n := j + 1) (by omega) hd
        have hcp2 := cpt_step (l := l) (n := j + 1) (by omega) hx (by simpa using hy)
        rw [if_pos hz, List.append_nil, hcp] at hcp2
        refine Run.while (σ := Nat × Nat × List Rec) (fun z => ⟨tms [(0, .vw 0 0 3 0 l.length), (1, .fn 59 []), (5, .int .i64 (z.2.1 : Int)), (6, .vw 0 0 3 (j + 1) (l.length - (j + 1))), (7, .int .i64 ((z.1 + 1 : Nat) : Int))], mms [(0, .arr 0 3 (encKs z.2.2))]⟩)
          (fun z => z.1 + 1 ≤ l.length - (j + 1) ∧ z.2.2.length = l.length ∧ 1 ≤ z.2.1 ∧ z.2.1 ≤ j + 1 + z.1 ∧ z.2.2.take z.2.1 = cpt l (j + 1 + (z.1 + 1)) ∧ ∀ m, j + 1 + z.1 ≤ m → z.2.2[m]? = l[m]?) (fun z => l.length - z.1) (0, j + 1, l) (have hW := (And.intro @encKs_stb @h01); stWk)
          ⟨show 0 + 1 ≤ l.length - (j + 1) by omega, rfl, show 1 ≤ j + 1 by omega, show j + 1 ≤ j + 1 + 0 by omega, by simpa using hcp2.symm, fun _ _ => rfl⟩ ?_
        rintro ⟨q, k, cur⟩ ⟨q1, q2, q3, q4, q5, q6⟩
        simp only at q1 q2 q3 q4 q5 q6
        have e2 := encKs_len cur
        rw [q2] at e2
        unfold t_k58_l2
        by_cases hq : q + 1 < l.length - (j + 1)
        · obtain ⟨u, hu⟩ : ∃ u, l[j + 1 + (q + 1)]? = some u := ⟨l[j + 1 + (q + 1)], by simp [show j + 1 + (q + 1) < l.length by omega]⟩
          obtain ⟨v, hv⟩ : ∃ v, l[j + 1 + q]? = some v := ⟨l[j + 1 + q], by simp [show j + 1 + q < l.length by omega]⟩
          obtain ⟨o, ho⟩ : ∃ o, cur[k]? = some o := ⟨cur[k]'(by omega), by simp [show k < cur.length by omega]⟩
          have g3 := encKs_get (show cur[j + 1 + (q + 1)]? = some u by rw [q6 _ (by omega)]; exact hu)
          have g4 := encKs_get (show cur[j + 1 + q]? = some v by rw [q6 _ (by omega)]; exact hv)
          have g5 := encKs_get ho
          have w2 : IntKind.i64.wrap (((q + 1 : Nat) : Int) - 1) = (q : Int) := by rw [wrap_ok (by omega)]; omega
          have n3 : ((q + 1 : Nat) : Int).toNat = q + 1 := Int.toNat_natCast _
          have n4 : (q : Int).toNat = q := Int.toNat_natCast _
          have n5 : (k : Int).toNat = k := Int.toNat_natCast _
          have c2 := ev_keepSort1eq u v (hw u (List.mem_of_getElem? hu)) (hw v (List.mem_of_getElem? hv))
          have hst := cpt_step (l := l) (n := j + 1 + (q + 1)) (by omega) hu (by rw [show j + 1 + (q + 1) - 1 = j + 1 + q by omega]; exact hv)
          (focus (have hF := (And.intro (And.intro @e2 (And.intro @g3 @g4)) (And.intro (And.intro @w2 @n3) (And.intro @n4 @Nat.zero_add))); (repeat' (first | with_reducible refine Nx.of ?_ | ((with_reducible apply toV); refine stV (k:=?_)) | ((with_reducible apply toG); refine stG (k:=?_)) | ((with_reducible apply toG0); refine stG0 (k:=?_)) | ((with_reducible apply toC); refine stC (k:=?_)) | ((with_reducible apply toO); refine stO (k:=?_)) | ((with_reducible apply toX); refine stX (k:=?_)) | with_reducible refine Ny.of ?_ ?_ | (refine Hyp.of ?_; intro hc; (try simp only [hc]); (try simp only [Bh] at hc)))); all_goals clear hF))
          refine stCall [encK u, encK v] (he := c2) (k:=?_)
          by_cases hz2 : cmpR u v = 0
          · rw [if_pos hz2, List.append_nil] at hst
            rw [decide_eq_true hz2]
            (focus (have hF := @e2; (repeat' (first | with_reducible refine Nx.of ?_ | ((with_reducible apply toV); refine stV (k:=?_)) | ((with_reducible apply toG); refine stG (k:=?_)) | ((with_reducible apply toG0); refine stG0 (k:=?_)) | ((with_reducible apply toC); refine stC (k:=?_)) | ((with_reducible apply toO); refine stO (k:=?_)) | ((with_reducible apply toX); refine stX (k:=?_)) | with_reducible refine Ny.of ?_ ?_ | (refine Hyp.of ?_; intro hc; (try simp only [hc]); (try simp only [Bh] at hc)))); all_goals clear hF))
            have hs2 : ((q + 1 : Nat) : Int) + 1 = ((q + 1 + 1 : Nat) : Int) := rfl
            (refine Fin.nextW ((q + 1, k, cur)) ?_ (have hW := (And.intro @encKs_stb @hs2); stWk); (try dsimp only))
            exact ⟨⟨show q + 1 + 1 ≤ _ by omega, q2, q3, show k ≤ j + 1 + (q + 1) by omega, by rw [q5]; exact hst.symm, fun m hm => q6 m (by omega)⟩, show l.length - (q + 1) < l.length - q by omega⟩
          · rw [if_neg hz2] at hst
            rw [decide_eq_false hz2]
            (focus (have hF := (And.intro (And.intro @e2 (And.intro @g3 @g4)) (And.intro (And.intro @g5 @n3) (And.intro @n5 @Nat.zero_add))); (repeat' (first | with_reducible refine Nx.of ?_ | ((with_reducible apply toV); refine stV (k:=?_)) | ((with_reducible apply toG); refine stG (k:=?_)) | ((with_reducible apply toG0); refine stG0 (k:=?_)) | ((with_reducible apply toC); refine stC (k:=?_)) | ((with_reducible apply toO); refine stO (k:=?_)) | ((with_reducible apply toX); refine stX (k:=?_)) | with_reducible refine Ny.of ?_ ?_ | (refine Hyp.of ?_; intro hc; (try simp only [hc]); (try simp only [Bh] at hc)))); all_goals clear hF))
            have hs2 : ((q + 1 : Nat) : Int) + 1 = ((q + 1 + 1 : Nat) : Int) := rfl
            have hs3 : (k : Int) + 1 = ((k + 1 : Nat) : Int) := rfl
            (refine Fin.nextW ((q + 1, k + 1, cur.set k u)) ?_ (have hW := (And.intro (And.intro @encKs_stb @hs2) (And.intro @hs3 @encKs_set)); stWk); (try dsimp only))
            have hk : (cur.set k u).take (k + 1) = cur.take k ++ [u] := by
              rw [List.take_add_one, List.take_set_of_le (Nat.le_refl k)]
              simp [show k < cur.length by omega]
            exact ⟨⟨show q + 1 + 1 ≤ _ by omega, by simpa using q2, show 1 ≤ k + 1 by omega, show k + 1 ≤ j + 1 + (q + 1) by omega, by rw [hk, q5]; exact hst.symm, fun m hm => by
              rw [List.getElem?_set_ne (show k ≠ m by omega)]; exact q6 m (by omega)⟩, show l.length - (q + 1) < l.length - q by omega⟩
        · have hql : j + 1 + (q + 1) = l.length := by omega
          rw [hql] at q5
          have n5 : (k : Int).toNat = k := Int.toNat_natCast _
          (focus (have hF := (And.intro @e2 (And.intro @n5 @Nat.zero_add)); (repeat' (first | with_reducible refine Nx.of ?_ | ((with_reducible apply toV); refine stV (k:=?_)) | ((with_reducible apply toG); refine stG (k:=?_)) | ((with_reducible apply toG0); refine stG0 (k:=?_)) | ((with_reducible apply toC); refine stC (k:=?_)) | ((with_reducible apply toO); refine stO (k:=?_)) | ((with_reducible apply toX); refine stX (k:=?_)) | with_reducible refine Ny.of ?_ ?_ | (refine Hyp.of ?_; intro hc; (try simp only [hc]); (try simp only [Bh] at hc)))); all_goals clear hF))
          refine awp_clear rfl rfl (el := 39) (by with_unfolding_all rfl) (by with_unfolding_all rfl) (by with_unfolding_all rfl) (by with_unfolding_all rfl) (by rw [e2]; omega) (by omega) ?_
          (focus (have hF := (And.intro @e2 (And.intro @n5 @Nat.zero_add)); (repeat' (first | with_reducible refine Nx.of ?_ | ((with_reducible apply toV); refine stV (k:=?_)) | ((with_reducible apply toG); refine stG (k:=?_)) | ((with_reducible apply toG0); refine stG0 (k:=?_)) | ((with_reducible apply toC); refine stC (k:=?_)) | ((with_reducible apply toO); refine stO (k:=?_)) | ((with_reducible apply toX); refine stX (k:=?_)) | with_reducible refine Ny.of ?_ ?_ | (refine Hyp.of ?_; intro hc; (try simp only [hc]); (try simp only [Bh] at hc)))); all_goals clear hF))
          refine Fin.done ⟨_, Wk.unview 4 0 0 3 k rfl rfl (by simp only [List.length_append, List.length_take, List.length_replicate, List.length_drop, e2]; omega), _, rfl, ?_, encKs_stb _⟩
          rw [← q5]
          have e3 : ((encKs cur).take k).length = k := by rw [List.length_take, e2]; omega
          rw [List.append_assoc, List.take_append_of_le_length (show k ≤ ((encKs cur).take k).length by omega), List.take_of_length_le (show ((encKs cur).take k).length ≤ k by omega)]
          simp only [encKs, List.map_take]
          rfl
      · rw [decide_eq_false hz]
        (focus (have hF := @e1; (repeat' (first | with_reducible refine Nx.of ?_ | ((with_reducible apply toV); refine stV (k:=?_)) | ((with_reducible apply toG); refine stG (k:=?_)) | ((with_reducible apply toG0); refine stG0 (k:=?_)) | ((with_reducible apply toC); refine stC (k:=?_)) | ((with_reducible apply toO); refine stO (k:=?_)) | ((with_reducible apply toX); refine stX (k:=?_)) | with_reducible refine Ny.of ?_ ?_ | (refine Hyp.of ?_; intro hc; (try simp only [hc]); (try simp only [Bh] at hc)))); all_goals clear hF))
        have hs2 : ((j + 1 : Nat) : Int) + 1 = ((j + 1 + 1 : Nat) : Int) := rfl
        (refine Fin.nextW (j + 1) ?_ (have hW := (And.intro @encKs_stb @hs2); stWk); (try dsimp only))
        exact ⟨⟨by omega, fun m a b hm hb ha => by
          by_cases e : m = j
          · subst e
            rw [hx] at ha; rw [hy] at hb; cases ha; cases hb
            exact hz
          · exact hd m a b (by omega) hb ha⟩, by omega⟩
    · rw [cpt_same (Nat.le_refl _) (fun m x y hm => hd m x y (by omega)), List.take_length]
      (focus (have hF := @e1; (repeat' (first | with_reducible refine Nx.of ?_ | ((with_reducible apply toV); refine stV (k:=?_)) | ((with_reducible apply toG); refine stG (k:=?_)) | ((with_reducible apply toG0); refine stG0 (k:=?_)) | ((with_reducible apply toC); refine stC (k:=?_)) | ((with_reducible apply toO); refine stO (k:=?_)) | ((with_reducible apply toX); refine stX (k:=?_)) | with_reducible refine Ny.of ?_ ?_ | (refine Hyp.of ?_; intro hc; (try simp only [hc]); (try simp only [Bh] at hc)))); all_goals clear hF))
      exact Fin.done ⟨_, Wk.unview 4 0 0 3 l.length rfl rfl (by rw [e1]; omega), _, rfl, by rw [show (encKs l).take l.length = encKs l by rw [← e1, List.take_length]]; rfl, encKs_stb _⟩
end
def skuOk (r : Rec) : Bool := decide (r.sku.size = 0) || goodS r.sku
def srtE (l : List Rec) : List Rec := if l.all skuOk = true then ordR (keptK l) else []
theorem keptK_can (l : List Rec) : ∀ y ∈ keptK l, CanR y := by
  intro y hy
  unfold keptK at hy
  obtain ⟨r, _, rfl⟩ := List.mem_map.1 hy
  exact canP_norm r.past
theorem keptK_wt {l : List Rec} {W : Nat} (hw : ∀ r ∈ l, wt r.past ≤ W) : ∀ y ∈ keptK l, wt y.past ≤ W + 16 := by
  intro y hy
  unfold keptK at hy
  obtain ⟨r, hr, rfl⟩ := List.mem_map.1 hy
  have := hw r (List.mem_filter.1 hr).1
  have := normP_wt r.past
  simp only
  omega
theorem all_take1 {l : List Rec} {i : Nat} {r : Rec} (h : l[i]? = some r) (h1 : (l.take i).all skuOk = true) (h2 : skuOk r = true) : (l.take (i + 1)).all skuOk = true := by
  rw [List.take_add_one, h, List.all_append, h1]
  simp [h2]
theorem ordR_small {l : List Rec} (h : l.length ≤ 1) : ordR l = l := by
  match l, h with
  | [], _ => rfl
  | [x], _ => rfl
theorem ev_k12 (l : List Rec) (hl : l.length ≤ 1000000000) (hw : ∀ r ∈ l, wt r.past ≤ 40000000) : Ev (En Tryz.prog rfl).P 12 [.sl 3 (encKs l)] (.ret (.tup [.sl 3 (encKs (srtE l)), .int .i64 (if l.all skuOk = true then 0 else 5)])) := by
  refine Ev.of_body it_k12 (by simp) (Run.start ?_)
  unfold t_k12
  have e1 := encKs_len l
  have hS := stbK
  (focus (have hF := @e1; (repeat' (first | with_reducible refine Nx.of ?_ | ((with_reducible apply toV); refine stV (k:=?_)) | ((with_reducible apply toG); refine stG (k:=?_)) | ((with_reducible apply toG0); refine stG0 (k:=?_)) | ((with_reducible apply toC); refine stC (k:=?_)) | ((with_reducible apply toO); refine stO (k:=?_)) | ((with_reducible apply toX); refine stX (k:=?_)) | with_reducible refine Ny.of ?_ ?_ | (refine Hyp.of ?_; intro hc; (try simp only [hc]); (try simp only [Bh] at hc)))); all_goals clear hF))
  refine Run.wk (Wk.own_nil 4 30 3 rfl rfl) ?_
  refine Run.while (σ := Nat) (fun i => ⟨tms [(4, .os 30 (keptK (l.take i)).length), (7, .sl 3 (encKs l)), (8, .int .i64 l.length), (9, .int .i64 (i : Int))], mms [(30, .arr (keptK (l.take i)).length 3 (encKs (keptK (l.take i))))]⟩)
    (fun i => i ≤ l.length ∧ (l.take i).all skuOk = true) (fun i => l.length - i) 0 (have hW := @encKs_stb; stWk) ⟨Nat.zero_le _, rfl⟩ ?_
  rintro i ⟨hi, hall⟩
  unfold t_k12_l1
  by_cases hlt : i < l.length
  · obtain ⟨r, hr⟩ : ∃ r, l[i]? = some r := ⟨l[i], by simp [hlt]⟩
    have g1 := encKs_get hr
    have hst := keptK_take hr
    have hle := keptK_len (l.take i)
    have hle2 : (l.take i).length ≤ l.length := by rw [List.length_take]; omega
    generalize keptK (l.take i) = out at hst hle ⊢
    have e2 := encKs_len out
    have hwr := hw r (List.mem_of_getElem? hr)
    have c1 := ev_k54 r.sku
    have c2 := ev_k55 r.past (by omega)
    have c3 := ev_k56 r (by omega)
    have es := str_nil r.sku
    by_cases hz : r.sku.size = 0
    case' pos =>
      have hok : skuOk r = true := by simp [skuOk, hz]
      rw [eq_true hz] at es
      (focus (have hF := (And.intro (And.intro @e1 @e2) (And.intro @g1 @es)); (repeat' (first | with_reducible refine Nx.of ?_ | ((with_reducible apply toV); refine stV (k:=?_)) | ((with_reducible apply toG); refine stG (k:=?_)) | ((with_reducible apply toG0); refine stG0 (k:=?_)) | ((with_reducible apply toC); refine stC (k:=?_)) | ((with_reducible apply toO); refine stO (k:=?_)) | ((with_reducible apply toX); refine stX (k:=?_)) | with_reducible refine Ny.of ?_ ?_ | (refine Hyp.of ?_; intro hc; (try simp only [hc]); (try simp only [Bh] at hc)))); all_goals clear hF))
    case' neg =>
      rw [eq_false hz] at es
      by_cases hg : goodS r.sku = true
      case' neg =>
        have hbad : l.all skuOk = false := by
          rw [Bool.eq_false_iff]
          intro h
          have := List.all_eq_true.1 h r (List.mem_of_getElem? hr)
          simp [skuOk, hz, hg] at this
        have hg : goodS r.sku = false := by simpa using hg
        rw [hg] at c1
        unfold srtE
        rw [hbad]
        (focus (have hF := (And.intro (And.intro @e1 @e2) (And.intro @g1 @es)); (repeat' (first | with_reducible refine Nx.of ?_ | ((with_reducible apply toV); refine stV (k:=?_)) | ((with_reducible apply toG); refine stG (k:=?_)) | ((with_reducible apply toG0); refine stG0 (k:=?_)) | ((with_reducible apply toC); refine stC (k:=?_)) | ((with_reducible apply toO); refine stO (k:=?_)) | ((with_reducible apply toX); refine stX (k:=?_)) | with_reducible refine Ny.of ?_ ?_ | (refine Hyp.of ?_; intro hc; (try simp only [hc]); (try simp only [Bh] at hc)))); all_goals clear hF))
        refine stCall [.str r.sku] (he := c1) (k:=?_)
        (focus (have hF := (And.intro (And.intro @e1 @e2) (And.intro @g1 @es)); (repeat' (first | with_reducible refine Nx.of ?_ | ((with_reducible apply toV); refine stV (k:=?_)) | ((with_reducible apply toG); refine stG (k:=?_)) | ((with_reducible apply toG0); refine stG0 (k:=?_)) | ((with_reducible apply toC); refine stC (k:=?_)) | ((with_reducible apply toO); refine stO (k:=?_)) | ((with_reducible apply toX); refine stX (k:=?_)) | with_reducible refine Ny.of ?_ ?_ | (refine Hyp.of ?_; intro hc; (try simp only [hc]); (try simp only [Bh] at hc)))); all_goals clear hF))
        exact Fin.two rfl rfl rfl rfl (.inr ⟨rfl, 3, rfl⟩) (.inl rfl)
      case' pos =>
        have hok : skuOk r = true := by simp [skuOk, hg]
        rw [hg] at c1
        (focus (have hF := (And.intro (And.intro @e1 @e2) (And.intro @g1 @es)); (repeat' (first | with_reducible refine Nx.of ?_ | ((with_reducible apply toV); refine stV (k:=?_)) | ((with_reducible apply toG); refine stG (k:=?_)) | ((with_reducible apply toG0); refine stG0 (k:=?_)) | ((with_reducible apply toC); refine stC (k:=?_)) | ((with_reducible apply toO); refine stO (k:=?_)) | ((with_reducible apply toX); refine stX (k:=?_)) | with_reducible refine Ny.of ?_ ?_ | (refine Hyp.of ?_; intro hc; (try simp only [hc]); (try simp only [Bh] at hc)))); all_goals clear hF))
        refine stCall [.str r.sku] (he := c1) (k:=?_)
        (focus (have hF := (And.intro (And.intro @e1 @e2) (And.intro @g1 @es)); (repeat' (first | with_reducible refine Nx.of ?_ | ((with_reducible apply toV); refine stV (k:=?_)) | ((with_reducible apply toG); refine stG (k:=?_)) | ((with_reducible apply toG0); refine stG0 (k:=?_)) | ((with_reducible apply toC); refine stC (k:=?_)) | ((with_reducible apply toO); refine stO (k:=?_)) | ((with_reducible apply toX); refine stX (k:=?_)) | with_reducible refine Ny.of ?_ ?_ | (refine Hyp.of ?_; intro hc; (try simp only [hc]); (try simp only [Bh] at hc)))); all_goals clear hF))
    all_goals
      have hall2 := all_take1 hr hall hok
      refine stCall [encP r.past] (he := c2) (k:=?_)
      by_cases hs : sizeP r.past = 0
      · rw [if_pos hs, List.append_nil] at hst
        rw [decide_eq_true hs]
        (focus (have hF := (And.intro @e1 (And.intro @e2 @g1)); (repeat' (first | with_reducible refine Nx.of ?_ | ((with_reducible apply toV); refine stV (k:=?_)) | ((with_reducible apply toG); refine stG (k:=?_)) | ((with_reducible apply toG0); refine stG0 (k:=?_)) | ((with_reducible apply toC); refine stC (k:=?_)) | ((with_reducible apply toO); refine stO (k:=?_)) | ((with_reducible apply toX); refine stX (k:=?_)) | with_reducible refine Ny.of ?_ ?_ | (refine Hyp.of ?_; intro hc; (try simp only [hc]); (try simp only [Bh] at hc)))); all_goals clear hF))
        (refine Fin.nextW (i + 1) ?_ (have hW := (And.intro @encKs_stb @hst); stWk); (try dsimp only))
        exact ⟨⟨hlt, hall2⟩, by omega⟩
      · rw [if_neg hs] at hst
        rw [decide_eq_false hs]
        (focus (have hF := (And.intro @e1 (And.intro @e2 @g1)); (repeat' (first | with_reducible refine Nx.of ?_ | ((with_reducible apply toV); refine stV (k:=?_)) | ((with_reducible apply toG); refine stG (k:=?_)) | ((with_reducible apply toG0); refine stG0 (k:=?_)) | ((with_reducible apply toC); refine stC (k:=?_)) | ((with_reducible apply toO); refine stO (k:=?_)) | ((with_reducible apply toX); refine stX (k:=?_)) | with_reducible refine Ny.of ?_ ?_ | (refine Hyp.of ?_; intro hc; (try simp only [hc]); (try simp only [Bh] at hc)))); all_goals clear hF))
        refine stCall [encK r] (he := c3) (k:=?_)
        unfold encK
        (focus (have hF := (And.intro @e1 (And.intro @e2 @g1)); (repeat' (first | with_reducible refine Nx.of ?_ | ((with_reducible apply toV); refine stV (k:=?_)) | ((with_reducible apply toG); refine stG (k:=?_)) | ((with_reducible apply toG0); refine stG0 (k:=?_)) | ((with_reducible apply toC); refine stC (k:=?_)) | ((with_reducible apply toO); refine stO (k:=?_)) | ((with_reducible apply toX); refine stX (k:=?_)) | with_reducible refine Ny.of ?_ ?_ | (refine Hyp.of ?_; intro hc; (try simp only [hc]); (try simp only [Bh] at hc)))); all_goals clear hF))
        (refine Fin.nextW (i + 1) ?_ (have hW := (And.intro @encKs_stb (And.intro @hst @encKs_snoc)); stWk); (try dsimp only))
        exact ⟨⟨hlt, hall2⟩, by omega⟩
  · rw [List.take_of_length_le (show l.length ≤ i by omega)] at hall ⊢
    unfold srtE
    rw [hall, if_pos rfl, if_pos rfl]
    have hk := encKs_len (keptK l)
    have hkl := keptK_len l
    have hcan := keptK_can l
    have hkw := keptK_wt hw
    by_cases h1 : (keptK l).length ≤ 1
    · rw [ordR_small h1]
      refine Run.wk (Wk.give ⟨no_of_stb (encKs_stb l), rfl, rfl, trivial⟩ trivial rfl (encKs_stb _)) ?_
      have c1 := ev_sort1 (encKs (keptK l)) (by omega) 19 (encKs_stb _)
      have c2 := ev_compact1 (encKs (keptK l)) (by omega) 59 (encKs_stb _)
      generalize keptK l = out at *
      (focus (have hF := (And.intro @e1 @hk); (repeat' (first | with_reducible refine Nx.of ?_ | ((with_reducible apply toV); refine stV (k:=?_)) | ((with_reducible apply toG); refine stG (k:=?_)) | ((with_reducible apply toG0); refine stG0 (k:=?_)) | ((with_reducible apply toC); refine stC (k:=?_)) | ((with_reducible apply toO); refine stO (k:=?_)) | ((with_reducible apply toX); refine stX (k:=?_)) | with_reducible refine Ny.of ?_ ?_ | (refine Hyp.of ?_; intro hc; (try simp only [hc]); (try simp only [Bh] at hc)))); all_goals clear hF))
      refine stCall [.sl 3 (encKs out), .fn 19 []] (he := c1) (k:=?_)
      (focus (have hF := (And.intro @e1 @hk); (repeat' (first | with_reducible refine Nx.of ?_ | ((with_reducible apply toV); refine stV (k:=?_)) | ((with_reducible apply toG); refine stG (k:=?_)) | ((with_reducible apply toG0); refine stG0 (k:=?_)) | ((with_reducible apply toC); refine stC (k:=?_)) | ((with_reducible apply toO); refine stO (k:=?_)) | ((with_reducible apply toX); refine stX (k:=?_)) | with_reducible refine Ny.of ?_ ?_ | (refine Hyp.of ?_; intro hc; (try simp only [hc]); (try simp only [Bh] at hc)))); all_goals clear hF))
      refine stCall [.sl 3 (encKs out), .fn 59 []] (he := c2) (k:=?_)
      (focus (have hF := (And.intro @e1 @hk); (repeat' (first | with_reducible refine Nx.of ?_ | ((with_reducible apply toV); refine stV (k:=?_)) | ((with_reducible apply toG); refine stG (k:=?_)) | ((with_reducible apply toG0); refine stG0 (k:=?_)) | ((with_reducible apply toC); refine stC (k:=?_)) | ((with_reducible apply toO); refine stO (k:=?_)) | ((with_reducible apply toX); refine stX (k:=?_)) | with_reducible refine Ny.of ?_ ?_ | (refine Hyp.of ?_; intro hc; (try simp only [hc]); (try simp only [Bh] at hc)))); all_goals clear hF))
      exact Fin.two rfl (encKs_stb _) rfl rfl (.inl rfl) (.inl rfl)
    · obtain ⟨s, hp, hs, hsort⟩ := ev_sortRecs (keptK l) (fun r hr => by have := hkw r hr; omega) (by omega) (by omega)
      have hsl := hp.length_eq
      have hord := cpt_ord hp hs hcan
      have hcomp := ev_compact s (fun r hr => by have := hkw r (hp.mem_iff.1 hr); omega) (by omega)
      rw [hord] at hcomp
      generalize keptK l = out at *
      (focus (have hF := (And.intro @e1 @hk); (repeat' (first | with_reducible refine Nx.of ?_ | ((with_reducible apply toV); refine stV (k:=?_)) | ((with_reducible apply toG); refine stG (k:=?_)) | ((with_reducible apply toG0); refine stG0 (k:=?_)) | ((with_reducible apply toC); refine stC (k:=?_)) | ((with_reducible apply toO); refine stO (k:=?_)) | ((with_reducible apply toX); refine stX (k:=?_)) | with_reducible refine Ny.of ?_ ?_ | (refine Hyp.of ?_; intro hc; (try simp only [hc]); (try simp only [Bh] at hc)))); all_goals clear hF))
      refine awp_turn (args' := [.undef, .fn 19 []]) 0 30 rfl rfl rfl rfl rfl (encKs_stb _) (encKs_stb s) rfl hsort ?_
      (focus (have hF := @e1; (repeat' (first | with_reducible refine Nx.of ?_ | ((with_reducible apply toV); refine stV (k:=?_)) | ((with_reducible apply toG); refine stG (k:=?_)) | ((with_reducible apply toG0); refine stG0 (k:=?_)) | ((with_reducible apply toC); refine stC (k:=?_)) | ((with_reducible apply toO); refine stO (k:=?_)) | ((with_reducible apply toX); refine stX (k:=?_)) | with_reducible refine Ny.of ?_ ?_ | (refine Hyp.of ?_; intro hc; (try simp only [hc]); (try simp only [Bh] at hc)))); all_goals clear hF))
      refine awp_back (args' := [.undef, .fn 59 []]) 0 30 rfl rfl rfl rfl rfl (encKs_stb _) (encKs_stb _) hcomp ?_
      (focus (have hF := @e1; (repeat' (first | with_reducible refine Nx.of ?_ | ((with_reducible apply toV); refine stV (k:=?_)) | ((with_reducible apply toG); refine stG (k:=?_)) | ((with_reducible apply toG0); refine stG0 (k:=?_)) | ((with_reducible apply toC); refine stC (k:=?_)) | ((with_reducible apply toO); refine stO (k:=?_)) | ((with_reducible apply toX); refine stX (k:=?_)) | with_reducible refine Ny.of ?_ ?_ | (refine Hyp.of ?_; intro hc; (try simp only [hc]); (try simp only [Bh] at hc)))); all_goals clear hF))
      exact Fin.two (x := .sl 3 (encKs (ordR out))) (by simp [fz, fzc, allK, upd, tms, mms]) (encKs_stb _) rfl rfl (.inl rfl) (.inl rfl)

def mrgR : List Rec → List Rec → List Rec
  | [], b => b
  | x :: a, [] => x :: a
  | x :: a, y :: b => if cmpR x y < 0 then x :: mrgR a (y :: b) else if cmpR x y = 0 then x :: mrgR a b else y :: mrgR (x :: a) b
  termination_by a b => a.length + b.length
theorem mrgR_nil (b : List Rec) : mrgR [] b = b := by rw [mrgR]
theorem mrgR_nil2 (a : List Rec) : mrgR a [] = a := by cases a <;> rw [mrgR]
theorem mrgR_mem : ∀ (a b : List Rec), (∀ y ∈ a, CanR y) → (∀ y ∈ b, CanR y) → ∀ z, z ∈ mrgR a b ↔ z ∈ a ∨ z ∈ b
  | [], b, _, _, z => by rw [mrgR_nil]; simp
  | x :: a, [], _, _, z => by rw [mrgR_nil2]; simp
  | x :: a, y :: b, ha, hb, z => by
    have ha' : ∀ y ∈ a, CanR y := fun w hw => ha w (by simp [hw])
    have hb' : ∀ y ∈ b, CanR y := fun w hw => hb w (by simp [hw])
    rw [mrgR]
    split
    · rw [List.mem_cons, mrgR_mem a (y :: b) ha' hb z, ← or_assoc, ← List.mem_cons]
    · split
      · rename_i h0
        have e := cmpR_eq (ha x (by simp)) (hb y (by simp)) h0
        subst e
        rw [List.mem_cons, mrgR_mem a b ha' hb' z, List.mem_cons, List.mem_cons]
        constructor
        · rintro (h | h | h)
          · exact .inl (.inl h)
          · exact .inl (.inr h)
          · exact .inr (.inr h)
        · rintro ((h | h) | (h | h))
          · exact .inl h
          · exact .inr (.inl h)
          · exact .inl h
          · exact .inr (.inr h)
      · rw [List.mem_cons, mrgR_mem (x :: a) b ha hb' z, List.mem_cons (a := z) (b := y)]
        constructor
        · rintro (h | h | h)
          · exact .inr (.inl h)
          · exact .inl h
          · exact .inr (.inr h)
        · rintro (h | h | h)
          · exact .inr (.inl h)
          · exact .inl h
          · exact .inr (.inr h)
  termination_by a b => a.length + b.length
theorem mrgR_srt : ∀ (a b : List Rec), SrtR a → SrtR b → (∀ y ∈ a, CanR y) → (∀ y ∈ b, CanR y) → SrtR (mrgR a b)
  | [], b, _, h, _, _ => by rw [mrgR_nil]; exact h
  | x :: a, [], h, _, _, _ => by rw [mrgR_nil2]; exact h
  | x :: a, y :: b, h1, h2, ha, hb => by
    have ha' : ∀ y ∈ a, CanR y := fun w hw => ha w (by simp [hw])
    have hb' : ∀ y ∈ b, CanR y := fun w hw => hb w (by simp [hw])
    have k1 := h1
    have k2 := h2
    unfold SrtR at k1 k2
    rw [List.pairwise_cons] at k1 k2
    rw [mrgR]
    split
    · rename_i hxy
      unfold SrtR
      rw [List.pairwise_cons]
      refine ⟨fun z hz => ?_, mrgR_srt a (y :: b) k1.2 h2 ha' hb⟩
      rcases (mrgR_mem a (y :: b) ha' hb z).1 hz with h | h
      · exact k1.1 z h
      · rcases List.mem_cons.1 h with h | h
        · rw [h]; exact hxy
        · exact cmpR_lt hxy (k2.1 z h)
    · split
      · rename_i h0
        have e := cmpR_eq (ha x (by simp)) (hb y (by simp)) h0
        subst e
        unfold SrtR
        rw [List.pairwise_cons]
        refine ⟨fun z hz => ?_, mrgR_srt a b k1.2 k2.2 ha' hb'⟩
        rcases (mrgR_mem a b ha' hb' z).1 hz with h | h
        · exact k1.1 z h
        · exact k2.1 z h
      · rename_i n1 n2
        have hyx : cmpR y x < 0 := by have := cmpR_neg x y; omega
        unfold SrtR
        rw [List.pairwise_cons]
        refine ⟨fun z hz => ?_, mrgR_srt (x :: a) b h1 k2.2 ha hb'⟩
        rcases (mrgR_mem (x :: a) b ha hb' z).1 hz with h | h
        · rcases List.mem_cons.1 h with h | h
          · rw [h]; exact hyx
          · exact cmpR_lt hyx (k1.1 z h)
        · exact k2.1 z h
  termination_by a b => a.length + b.length
theorem mrgR_ord {l a b : List Rec} (hl : ∀ y ∈ l, CanR y) (h : ∀ x, x ∈ l ↔ x ∈ a ∨ x ∈ b) : mrgR (ordR a) (ordR b) = ordR l := by
  have ha : ∀ y ∈ a, CanR y := fun y hy => hl y ((h y).2 (.inl hy))
  have hb : ∀ y ∈ b, CanR y := fun y hy => hl y ((h y).2 (.inr hy))
  have ha' : ∀ y ∈ ordR a, CanR y := fun y hy => ha y (ordR_sub hy)
  have hb' : ∀ y ∈ ordR b, CanR y := fun y hy => hb y (ordR_sub hy)
  refine ordR_uniq hl (mrgR_srt _ _ (ordR_srt a) (ordR_srt b) ha' hb') fun x => ?_
  rw [mrgR_mem _ _ ha' hb', ordR_mem ha, ordR_mem hb, h x]
theorem mrgR_drop {a b : List Rec} {i j : Nat} {x y : Rec} (hx : a[i]? = some x) (hy : b[j]? = some y) : mrgR (a.drop i) (b.drop j) = if cmpR x y < 0 then x :: mrgR (a.drop (i + 1)) (b.drop j) else if cmpR x y = 0 then x :: mrgR (a.drop (i + 1)) (b.drop (j + 1)) else y :: mrgR (a.drop i) (b.drop (j + 1)) := by
  have e1 : a.drop i = x :: a.drop (i + 1) := by
    rw [List.getElem?_eq_some_iff] at hx
    obtain ⟨h, rfl⟩ := hx
    exact List.drop_eq_getElem_cons h
  have e2 : b.drop j = y :: b.drop (j + 1) := by
    rw [List.getElem?_eq_some_iff] at hy
    obtain ⟨h, rfl⟩ := hy
    exact List.drop_eq_getElem_cons h
  conv => lhs; rw [e1, e2, mrgR, ← e1, ← e2]

def r_k63_1 : List SOp :=
  [⟨(some 2), (.assign (.const (.slice none 0 0))), none⟩]
instance : Live r_k63_1 := ⟨[0]⟩
def r_k63_2 : List SOp :=
  [⟨(some 9), (.move (.tmp 0)), none⟩, ⟨(some 10), (.call ⟨.builtin .len, #[.tmp 9], #[22]⟩), none⟩, ⟨(some 11), (.binOp .lss 3 (.tmp 10) (.const (.int .i64 2)) 3), none⟩]
instance : Live r_k63_2 := ⟨[0]⟩
def r_k63_3 : List SOp :=
  [⟨(some 12), (.buildSlice 22 0 #[]), none⟩, ⟨(some 13), (.move (.tmp 0)), none⟩, ⟨(some 14), (.call ⟨.builtin .append, #[.tmp 12, .tmp 13], #[22, 22]⟩), none⟩, ⟨(some 2), (.assign (.tmp 14)), none⟩]
instance : Live r_k63_3 := ⟨[0]⟩
def r_k63_4 : List SOp :=
  [⟨(some 15), (.move (.tmp 0)), none⟩, ⟨(some 16), (.move (.tmp 0)), none⟩, ⟨(some 17), (.call ⟨.builtin .len, #[.tmp 16], #[22]⟩), none⟩, ⟨(some 18), (.binOp .quo 3 (.tmp 17) (.const (.int .i64 2)) 3), none⟩, ⟨(some 19), (.slice 22 (.tmp 15) none (some (.tmp 18)) none), none⟩, ⟨(some 20), (.call ⟨.value (.func 63), #[.tmp 19], #[22]⟩), none⟩, ⟨(some 3), (.assign (.tmp 20)), none⟩]
instance : Live r_k63_4 := ⟨[0]⟩
def r_k63_5 : List SOp :=
  [⟨(some 21), (.move (.tmp 0)), none⟩, ⟨(some 22), (.move (.tmp 0)), none⟩, ⟨(some 23), (.call ⟨.builtin .len, #[.tmp 22], #[22]⟩), none⟩, ⟨(some 24), (.binOp .quo 3 (.tmp 23) (.const (.int .i64 2)) 3), none⟩, ⟨(some 25), (.slice 22 (.tmp 21) (some (.tmp 24)) none none), none⟩, ⟨(some 26), (.call ⟨.value (.func 63), #[.tmp 25], #[22]⟩), none⟩, ⟨(some 4), (.assign (.tmp 26)), none⟩]
instance : Live r_k63_5 := ⟨[0, 3]⟩
def r_k63_6 : List SOp :=
  [⟨(some 5), (.assign (.const (.slice none 0 0))), none⟩]
instance : Live r_k63_6 := ⟨[3, 4]⟩
def r_k63_7 : List SOp :=
  [⟨(some 6), (.assign (.const (.int .i64 0))), none⟩, ⟨(some 7), (.assign (.const (.int .i64 0))), none⟩]
instance : Live r_k63_7 := ⟨[3, 4, 5]⟩
def r_k63_8 : List SOp :=
  [⟨(some 27), (.move (.tmp 6)), none⟩, ⟨(some 28), (.move (.tmp 3)), none⟩, ⟨(some 29), (.call ⟨.builtin .len, #[.tmp 28], #[22]⟩), none⟩, ⟨(some 30), (.binOp .lss 3 (.tmp 27) (.tmp 29) 3), none⟩, ⟨(some 31), (.move (.tmp 30)), none⟩, ⟨(some 32), (.move (.tmp 7)), (some ((some 31), false))⟩, ⟨(some 33), (.move (.tmp 4)), (some ((some 31), false))⟩, ⟨(some 34), (.call ⟨.builtin .len, #[.tmp 33], #[22]⟩), (some ((some 31), false))⟩, ⟨(some 35), (.binOp .lss 3 (.tmp 32) (.tmp 34) 3), (some ((some 31), false))⟩, ⟨(some 36), (.pick (.tmp 31) (.const (.bool true)) (.tmp 35)), none⟩]
instance : Live r_k63_8 := ⟨[3, 4, 5, 6, 7]⟩
def r_k63_9 : List SOp :=
  [⟨(some 8), (.assign (.const (.int .i64 0))), none⟩]
instance : Live r_k63_9 := ⟨[3, 4, 5, 6, 7]⟩
def r_k63_10 : List SOp :=
  [⟨(some 37), (.move (.tmp 6)), none⟩, ⟨(some 38), (.move (.tmp 3)), none⟩, ⟨(some 39), (.call ⟨.builtin .len, #[.tmp 38], #[22]⟩), none⟩, ⟨(some 40), (.binOp .eql 3 (.tmp 37) (.tmp 39) 3), none⟩]
instance : Live r_k63_10 := ⟨[3, 4, 5, 6, 7]⟩
def r_k63_11 : List SOp :=
  [⟨(some 8), (.assign (.const (.int .i64 1))), none⟩]
instance : Live r_k63_11 := ⟨[3, 4, 5, 6, 7]⟩
def r_k63_12 : List SOp :=
  [⟨(some 41), (.move (.tmp 7)), none⟩, ⟨(some 42), (.move (.tmp 4)), none⟩, ⟨(some 43), (.call ⟨.builtin .len, #[.tmp 42], #[22]⟩), none⟩, ⟨(some 44), (.binOp .eql 3 (.tmp 41) (.tmp 43) 3), none⟩]
instance : Live r_k63_12 := ⟨[3, 4, 5, 6, 7]⟩
def r_k63_13 : List SOp :=
  [⟨(some 8), (.assign (.const (.int .i64 (-1)))), none⟩]
instance : Live r_k63_13 := ⟨[3, 4, 5, 6, 7]⟩
def r_k63_14 : List SOp :=
  [⟨(some 45), (.move (.tmp 3)), none⟩, ⟨(some 46), (.move (.tmp 6)), none⟩, ⟨(some 47), (.indexAddr 22 (.tmp 45) (.tmp 46)), none⟩, ⟨(some 48), (.load 39 (.tmp 47)), none⟩, ⟨(some 49), (.move (.tmp 4)), none⟩, ⟨(some 50), (.move (.tmp 7)), none⟩, ⟨(some 51), (.indexAddr 22 (.tmp 49) (.tmp 50)), none⟩, ⟨(some 52), (.load 39 (.tmp 51)), none⟩, ⟨(some 53), (.call ⟨.value (.func 20), #[.tmp 48, .tmp 52], #[39, 39]⟩), none⟩, ⟨(some 8), (.assign (.tmp 53)), none⟩]
instance : Live r_k63_14 := ⟨[3, 4, 5, 6, 7]⟩
def r_k63_15 : List SOp :=
  [⟨(some 54), (.move (.tmp 8)), none⟩, ⟨(some 55), (.binOp .leq 3 (.tmp 54) (.const (.int .i64 0)) 3), none⟩]
instance : Live r_k63_15 := ⟨[3, 4, 5, 6, 7, 8]⟩
def r_k63_16 : List SOp :=
  [⟨(some 56), (.move (.tmp 5)), none⟩, ⟨(some 57), (.move (.tmp 3)), none⟩, ⟨(some 58), (.move (.tmp 6)), none⟩, ⟨(some 59), (.indexAddr 22 (.tmp 57) (.tmp 58)), none⟩, ⟨(some 60), (.load 39 (.tmp 59)), none⟩, ⟨(some 61), (.buildSlice 22 1 #[(0, .tmp 60)]), none⟩, ⟨(some 62), (.call ⟨.builtin .append, #[.tmp 56, .tmp 61], #[22, 22]⟩), none⟩, ⟨(some 5), (.assign (.tmp 62)), none⟩]
instance : Live r_k63_16 := ⟨[3, 4, 5, 6, 7, 8]⟩
def r_k63_17 : List SOp :=
  [⟨(some 63), (.move (.tmp 6)), none⟩, ⟨(some 64), (.binOp .add 3 (.tmp 63) (.const (.int .i64 1)) 3), none⟩, ⟨(some 6), (.assign (.tmp 64)), none⟩]
instance : Live r_k63_17 := ⟨[3, 4, 5, 6, 7, 8]⟩
def r_k63_18 : List SOp :=
  [⟨(some 65), (.move (.tmp 5)), none⟩, ⟨(some 66), (.move (.tmp 4)), none⟩, ⟨(some 67), (.move (.tmp 7)), none⟩, ⟨(some 68), (.indexAddr 22 (.tmp 66) (.tmp 67)), none⟩, ⟨(some 69), (.load 39 (.tmp 68)), none⟩, ⟨(some 70), (.buildSlice 22 1 #[(0, .tmp 69)]), none⟩, ⟨(some 71), (.call ⟨.builtin .append, #[.tmp 65, .tmp 70], #[22, 22]⟩), none⟩, ⟨(some 5), (.assign (.tmp 71)), none⟩]
instance : Live r_k63_18 := ⟨[3, 4, 5, 6, 7, 8]⟩
def r_k63_19 : List SOp :=
  [⟨(some 72), (.move (.tmp 8)), none⟩, ⟨(some 73), (.binOp .geq 3 (.tmp 72) (.const (.int .i64 0)) 3), none⟩]
instance : Live r_k63_19 := ⟨[3, 4, 5, 6, 7, 8]⟩
def r_k63_20 : List SOp :=
  [⟨(some 74), (.move (.tmp 7)), none⟩, ⟨(some 75), (.binOp .add 3 (.tmp 74) (.const (.int .i64 1)) 3), none⟩, ⟨(some 7), (.assign (.tmp 75)), none⟩]
instance : Live r_k63_20 := ⟨[3, 4, 5, 6, 7]⟩
def r_k63_21 : List SOp :=
  [⟨(some 76), (.move (.tmp 5)), none⟩, ⟨(some 2), (.assign (.tmp 76)), none⟩]
instance : Live r_k63_21 := ⟨[5]⟩
def t_k63_l1 : SC :=
  (.seq (.seq (.ops false r_k63_8) (.cond (.tmp 36) .skip (.exit 0))) (.block 1 (.seq (.ops false r_k63_9) (.seq (.seq (.ops false r_k63_10) (.cond (.tmp 40) (.ops false r_k63_11) (.seq (.ops false r_k63_12) (.cond (.tmp 44) (.ops false r_k63_13) (.ops true r_k63_14))))) (.seq (.seq (.ops false r_k63_15) (.cond (.tmp 55) (.seq (.ops false r_k63_16) (.ops false r_k63_17)) (.ops false r_k63_18))) (.seq (.ops false r_k63_19) (.cond (.tmp 73) (.ops false r_k63_20) .skip)))))))
def t_k63 : SC :=
  (.seq (.ops false r_k63_1) (.seq (.seq (.ops false r_k63_2) (.cond (.tmp 11) (.seq (.ops false r_k63_3) .ret) .skip)) (.seq (.ops false r_k63_4) (.seq (.ops false r_k63_5) (.seq (.ops false r_k63_6) (.seq (.ops false r_k63_7) (.seq (.block 0 (.loop t_k63_l1)) (.seq (.ops false r_k63_21) .ret))))))))
theorem it_k63 : FnIs Tryz.prog 63 77 [.tmp 2] t_k63 := ⟨Tryz.f63, _, Tryz.func63, rfl, rfl, rfl, rfl, by kernel_rfl⟩

def r_k13_1 : List SOp :=
  [⟨(some 2), (.assign (.const (.slice none 0 0))), none⟩, ⟨(some 3), (.assign (.const (.int .i64 0))), none⟩]
instance : Live r_k13_1 := ⟨[0]⟩
def r_k13_2 : List SOp :=
  [⟨(some 4), (.assign (.const (.slice none 0 0))), none⟩]
instance : Live r_k13_2 := ⟨[0]⟩
def r_k13_3 : List SOp :=
  [⟨(some 5), (.assign (.const (.int .i64 0))), none⟩]
instance : Live r_k13_3 := ⟨[0, 4]⟩
def r_k13_4 : List SOp :=
  [⟨(some 7), (.move (.tmp 5)), none⟩, ⟨(some 8), (.move (.tmp 0)), none⟩, ⟨(some 9), (.call ⟨.builtin .len, #[.tmp 8], #[22]⟩), none⟩, ⟨(some 10), (.binOp .lss 3 (.tmp 7) (.tmp 9) 3), none⟩]
instance : Live r_k13_4 := ⟨[0, 4, 5]⟩
def r_k13_5 : List SOp :=
  [⟨(some 13), (.move (.tmp 0)), none⟩, ⟨(some 14), (.move (.tmp 5)), none⟩, ⟨(some 15), (.indexAddr 22 (.tmp 13) (.tmp 14)), none⟩, ⟨(some 16), (.fieldAddr 39 (.tmp 15) 0), none⟩, ⟨(some 17), (.load 9 (.tmp 16)), none⟩, ⟨(some 18), (.binOp .neq 9 (.tmp 17) (.const (.string ⟨#[]⟩)) 9), none⟩, ⟨(some 19), (.move (.tmp 18)), none⟩, ⟨(some 20), (.move (.tmp 0)), (some ((some 19), true))⟩, ⟨(some 21), (.move (.tmp 5)), (some ((some 19), true))⟩, ⟨(some 22), (.indexAddr 22 (.tmp 20) (.tmp 21)), (some ((some 19), true))⟩, ⟨(some 23), (.fieldAddr 39 (.tmp 22) 0), (some ((some 19), true))⟩, ⟨(some 24), (.load 9 (.tmp 23)), (some ((some 19), true))⟩, ⟨(some 25), (.call ⟨.value (.func 60), #[.tmp 24], #[9]⟩), (some ((some 19), true))⟩, ⟨(some 26), (.unOp .not 4 (.tmp 25)), (some ((some 19), true))⟩, ⟨(some 27), (.pick (.tmp 19) (.tmp 26) (.const (.bool false))), none⟩]
instance : Live r_k13_5 := ⟨[0, 4, 5]⟩
def r_k13_6 : List SOp :=
  [⟨(some 2), (.assign (.const (.slice none 0 0))), none⟩, ⟨(some 3), (.assign (.const (.int .i64 5))), none⟩]
instance : Live r_k13_6 := ⟨[]⟩
def r_k13_7 : List SOp :=
  [⟨(some 28), (.move (.tmp 0)), none⟩, ⟨(some 29), (.move (.tmp 5)), none⟩, ⟨(some 30), (.indexAddr 22 (.tmp 28) (.tmp 29)), none⟩, ⟨(some 31), (.fieldAddr 39 (.tmp 30) 1), none⟩, ⟨(some 32), (.load 27 (.tmp 31)), none⟩, ⟨(some 33), (.call ⟨.value (.func 61), #[.tmp 32], #[27]⟩), none⟩, ⟨(some 6), (.alloc 27), none⟩, ⟨none, (.store 27 (.tmp 6) (.tmp 33)), none⟩]
instance : Live r_k13_7 := ⟨[0, 4, 5]⟩
def r_k13_8 : List SOp :=
  [⟨(some 34), (.load 27 (.tmp 6)), none⟩, ⟨(some 35), (.call ⟨.value (.func 62), #[.tmp 34], #[27]⟩), none⟩, ⟨(some 36), (.unOp .not 4 (.tmp 35)), none⟩]
instance : Live r_k13_8 := ⟨[0, 4, 5, 6]⟩
def r_k13_9 : List SOp :=
  [⟨(some 37), (.move (.tmp 4)), none⟩, ⟨(some 38), (.move (.tmp 0)), none⟩, ⟨(some 39), (.move (.tmp 5)), none⟩, ⟨(some 40), (.indexAddr 22 (.tmp 38) (.tmp 39)), none⟩, ⟨(some 41), (.fieldAddr 39 (.tmp 40) 0), none⟩, ⟨(some 42), (.load 9 (.tmp 41)), none⟩, ⟨(some 43), (.load 27 (.tmp 6)), none⟩, ⟨(some 44), (.build 39 #[(0, .tmp 42), (1, .tmp 43)]), none⟩, ⟨(some 45), (.buildSlice 22 1 #[(0, .tmp 44)]), none⟩, ⟨(some 46), (.call ⟨.builtin .append, #[.tmp 37, .tmp 45], #[22, 22]⟩), none⟩, ⟨(some 4), (.assign (.tmp 46)), none⟩]
instance : Live r_k13_9 := ⟨[0, 4, 5, 6]⟩
instance : Rd r_k13_9 := ⟨fun j => j == 0 || j == 6⟩
def r_k13_10 : List SOp :=
  [⟨(some 11), (.move (.tmp 5)), none⟩, ⟨(some 12), (.binOp .add 3 (.tmp 11) (.const (.int .i64 1)) 3), none⟩, ⟨(some 5), (.assign (.tmp 12)), none⟩]
instance : Live r_k13_10 := ⟨[0, 4, 5]⟩
def r_k13_11 : List SOp :=
  [⟨(some 47), (.move (.tmp 4)), none⟩, ⟨(some 48), (.call ⟨.value (.func 63), #[.tmp 47], #[22]⟩), none⟩, ⟨(some 2), (.assign (.tmp 48)), none⟩, ⟨(some 3), (.assign (.const (.int .i64 0))), none⟩]
instance : Live r_k13_11 := ⟨[4]⟩
def t_k13_l1 : SC :=
  (.seq (.seq (.ops false r_k13_4) (.cond (.tmp 10) .skip (.exit 0))) (.seq (.block 1 (.seq (.seq (.ops false r_k13_5) (.cond (.tmp 27) (.seq (.ops false r_k13_6) .ret) .skip)) (.seq (.ops false r_k13_7) (.seq (.ops false r_k13_8) (.cond (.tmp 36) (.opsW [37] r_k13_9) .skip))))) (.ops false r_k13_10)))
def t_k13 : SC :=
  (.seq (.ops false r_k13_1) (.seq (.ops false r_k13_2) (.seq (.seq (.ops false r_k13_3) (.block 0 (.loop t_k13_l1))) (.seq (.ops false r_k13_11) .ret))))
theorem it_k13 : FnIs Tryz.prog 13 49 [.tmp 2, .tmp 3] t_k13 := ⟨Tryz.f13, _, Tryz.func13, rfl, rfl, rfl, rfl, by kernel_rfl⟩

theorem sizeP_normP (p : Pst) : sizeP (normP p) = sizeP p := by
  rw [sizeP_card, sizeP_card]
  congr 1
  exact cardT_congr fun r hr n _ _ => normP_in p hr n
theorem drop_getR {l : List Rec} {i : Nat} {a : Rec} (h : l[i]? = some a) : l.drop i = a :: l.drop (i + 1) := by
  rw [List.getElem?_eq_some_iff] at h
  obtain ⟨h, rfl⟩ := h
  exact List.drop_eq_getElem_cons h
structure MrS where
  i : Nat
  j : Nat
  out : List Rec
theorem ev_k63 : ∀ (N : Nat) (l : List Rec), l.length ≤ N → l.length ≤ 900000000 → (∀ r ∈ l, wt r.past ≤ 30000000) → (∀ r ∈ l, CanR r) → Ev (En Tryz.prog rfl).P 63 [.sl 3 (encKs l)] (.ret (.sl 3 (encKs (ordR l)))) := by
  intro N
  induction N with
  | zero =>
    intro l hN hl hw hc
    rw [ordR_small (by omega)]
    refine Ev.of_body it_k63 (by simp) (Run.start ?_)
    unfold t_k63
    have e1 := encKs_len l
    have hS := stbK
    (focus (have hF := (And.intro @e1 @List.nil_append.{0}); (repeat' (first | with_reducible refine Nx.of ?_ | ((with_reducible apply toV); refine stV (k:=?_)) | ((with_reducible apply toG); refine stG (k:=?_)) | ((with_reducible apply toG0); refine stG0 (k:=?_)) | ((with_reducible apply toC); refine stC (k:=?_)) | ((with_reducible apply toO); refine stO (k:=?_)) | ((with_reducible apply toX); refine stX (k:=?_)) | with_reducible refine Ny.of ?_ ?_ | (refine Hyp.of ?_; intro hc; (try simp only [hc]); (try simp only [Bh] at hc)))); all_goals clear hF))
    exact Fin.tmp' (by simp [fz, fzc, allK, upd, tms, mms]) (encKs_stb _)
  | succ N ih =>
    intro l hN hl hw hc
    by_cases h2 : l.length < 2
    · rw [ordR_small (by omega)]
      refine Ev.of_body it_k63 (by simp) (Run.start ?_)
      unfold t_k63
      have e1 := encKs_len l
      have hS := stbK
      (focus (have hF := (And.intro @e1 @List.nil_append.{0}); (repeat' (first | with_reducible refine Nx.of ?_ | ((with_reducible apply toV); refine stV (k:=?_)) | ((with_reducible apply toG); refine stG (k:=?_)) | ((with_reducible apply toG0); refine stG0 (k:=?_)) | ((with_reducible apply toC); refine stC (k:=?_)) | ((with_reducible apply toO); refine stO (k:=?_)) | ((with_reducible apply toX); refine stX (k:=?_)) | with_reducible refine Ny.of ?_ ?_ | (refine Hyp.of ?_; intro hc; (try simp only [hc]); (try simp only [Bh] at hc)))); all_goals clear hF))
      exact Fin.tmp' (by simp [fz, fzc, allK, upd, tms, mms]) (encKs_stb _)
    · have hmem : ∀ x, x ∈ l ↔ x ∈ l.take (l.length / 2) ∨ x ∈ l.drop (l.length / 2) := fun x => by rw [← List.mem_append, List.take_append_drop]
      have c1 := ih (l.take (l.length / 2)) (by rw [List.length_take]; omega) (by rw [List.length_take]; omega) (fun r hr => hw r (List.mem_of_mem_take hr)) (fun r hr => hc r (List.mem_of_mem_take hr))
      have c2 := ih (l.drop (l.length / 2)) (by rw [List.length_drop]; omega) (by rw [List.length_drop]; omega) (fun r hr => hw r (List.mem_of_mem_drop hr)) (fun r hr => hc r (List.mem_of_mem_drop hr))
      have hord := mrgR_ord hc hmem
      have hwa : ∀ r ∈ ordR (l.take (l.length / 2)), wt r.past ≤ 30000000 := fun r hr => hw r (List.mem_of_mem_take (ordR_sub hr))
      have hwb : ∀ r ∈ ordR (l.drop (l.length / 2)), wt r.past ≤ 30000000 := fun r hr => hw r (List.mem_of_mem_drop (ordR_sub hr))
      have hla := ordR_len (l.take (l.length / 2))
      have hlb := ordR_len (l.drop (l.length / 2))
      rw [List.length_take] at hla
      rw [List.length_drop] at hlb
      have s1 : (encKs l).take (l.length / 2) = encKs (l.take (l.length / 2)) := by unfold encKs; rw [List.map_take]
      have s2 : (encKs l).drop (l.length / 2) = encKs (l.drop (l.length / 2)) := by unfold encKs; rw [List.map_drop]
      have e1 := encKs_len l
      have s3 : (encKs l).take l.length = encKs l := by rw [← e1, List.take_length]
      rw [← hord]
      refine Ev.of_body it_k63 (by simp) (Run.start ?_)
      unfold t_k63
      have hS := stbK
      have q1 : (l.length : Int).tdiv 2 = ((l.length / 2 : Nat) : Int) := by
        rw [Int.tdiv_eq_ediv_of_nonneg (by omega)]; omega
      have q2 : IntKind.i64.wrap (((l.length / 2 : Nat) : Int)) = ((l.length / 2 : Nat) : Int) := wrap_ok (by omega)
      have q3 : l.length / 2 ≤ l.length := by omega
      have q4 : (((l.length / 2 : Nat) : Int)).toNat = l.length / 2 := Int.toNat_natCast _
      generalize l.length / 2 = m at *
      generalize ordR (l.take m) = A at *
      generalize ordR (l.drop m) = B at *
      (focus (have hF := (And.intro (And.intro (And.intro @e1 @q1) (And.intro @q2 @q3)) (And.intro (And.intro @q4 @s1) (And.intro @s2 (And.intro @s3 @List.drop_zero.{0})))); (repeat' (first | with_reducible refine Nx.of ?_ | ((with_reducible apply toV); refine stV (k:=?_)) | ((with_reducible apply toG); refine stG (k:=?_)) | ((with_reducible apply toG0); refine stG0 (k:=?_)) | ((with_reducible apply toC); refine stC (k:=?_)) | ((with_reducible apply toO); refine stO (k:=?_)) | ((with_reducible apply toX); refine stX (k:=?_)) | with_reducible refine Ny.of ?_ ?_ | (refine Hyp.of ?_; intro hc; (try simp only [hc]); (try simp only [Bh] at hc)))); all_goals clear hF))
      refine stCall [.sl 3 (encKs (l.take m))] (he := c1) (k:=?_)
      (focus (have hF := (And.intro (And.intro (And.intro @e1 @q1) (And.intro @q2 @q3)) (And.intro (And.intro @q4 @s1) (And.intro @s2 (And.intro @s3 @List.drop_zero.{0})))); (repeat' (first | with_reducible refine Nx.of ?_ | ((with_reducible apply toV); refine stV (k:=?_)) | ((with_reducible apply toG); refine stG (k:=?_)) | ((with_reducible apply toG0); refine stG0 (k:=?_)) | ((with_reducible apply toC); refine stC (k:=?_)) | ((with_reducible apply toO); refine stO (k:=?_)) | ((with_reducible apply toX); refine stX (k:=?_)) | with_reducible refine Ny.of ?_ ?_ | (refine Hyp.of ?_; intro hc; (try simp only [hc]); (try simp only [Bh] at hc)))); all_goals clear hF))
      refine stCall [.sl 3 (encKs (l.drop m))] (he := c2) (k:=?_)
      (focus (have hF := (And.intro (And.intro @e1 (And.intro @q1 @q2)) (And.intro (And.intro @q3 @q4) (And.intro @s1 @s2))); (repeat' (first | with_reducible refine Nx.of ?_ | ((with_reducible apply toV); refine stV (k:=?_)) | ((with_reducible apply toG); refine stG (k:=?_)) | ((with_reducible apply toG0); refine stG0 (k:=?_)) | ((with_reducible apply toC); refine stC (k:=?_)) | ((with_reducible apply toO); refine stO (k:=?_)) | ((with_reducible apply toX); refine stX (k:=?_)) | with_reducible refine Ny.of ?_ ?_ | (refine Hyp.of ?_; intro hc; (try simp only [hc]); (try simp only [Bh] at hc)))); all_goals clear hF))
      have a1 := encKs_len A
      have b1 := encKs_len B
      have hR0 : [] ++ mrgR (A.drop 0) (B.drop 0) = mrgR A B := rfl
      generalize mrgR A B = R at hR0 ⊢
      refine Run.wk (Wk.own_nil 5 62 3 rfl rfl) ?_
      refine Run.while (σ := MrS) (fun z => ⟨tms [(3, .sl 3 (encKs A)), (4, .sl 3 (encKs B)), (5, .os 62 z.out.length), (6, .int .i64 (z.i : Int)), (7, .int .i64 (z.j : Int))], mms [(62, .arr z.out.length 3 (encKs z.out))]⟩)
        (fun z => z.i ≤ A.length ∧ z.j ≤ B.length ∧ z.out.length ≤ z.i + z.j ∧ z.out ++ mrgR (A.drop z.i) (B.drop z.j) = R) (fun z => (A.length - z.i) + (B.length - z.j)) ⟨0, 0, []⟩ (have hW := @encKs_stb; stWk) ⟨Nat.zero_le _, Nat.zero_le _, Nat.le_refl _, hR0⟩ ?_
      rintro ⟨i, j, out⟩ ⟨hi, hj, ho, hf⟩
      dsimp only at *
      unfold t_k63_l1
      have e3 := encKs_len out
      by_cases hia : i < A.length
      · obtain ⟨a, haa⟩ : ∃ a, A[i]? = some a := ⟨A[i], by simp [hia]⟩
        have g1 := encKs_get haa
        by_cases hjb : j < B.length
        · obtain ⟨b, hbb⟩ : ∃ b, B[j]? = some b := ⟨B[j], by simp [hjb]⟩
          have g2 := encKs_get hbb
          have c5 := ev_k20 a b (hwa a (List.mem_of_getElem? haa)) (hwb b (List.mem_of_getElem? hbb))
          have n1 : ¬ (i : Int) = (A.length : Int) := by omega
          have n2 : ¬ (j : Int) = (B.length : Int) := by omega
          rw [mrgR_drop haa hbb] at hf
          generalize cmpR a b = v at c5 hf
          (focus (have hF := (And.intro (And.intro @a1 (And.intro @b1 @g1)) (And.intro @g2 (And.intro @n1 @n2))); (repeat' (first | with_reducible refine Nx.of ?_ | ((with_reducible apply toV); refine stV (k:=?_)) | ((with_reducible apply toG); refine stG (k:=?_)) | ((with_reducible apply toG0); refine stG0 (k:=?_)) | ((with_reducible apply toC); refine stC (k:=?_)) | ((with_reducible apply toO); refine stO (k:=?_)) | ((with_reducible apply toX); refine stX (k:=?_)) | with_reducible refine Ny.of ?_ ?_ | (refine Hyp.of ?_; intro hc; (try simp only [hc]); (try simp only [Bh] at hc)))); all_goals clear hF))
          refine stCall [encK a, encK b] (he := c5) (k:=?_)
          by_cases hv : v < 0
          · rw [if_pos hv] at hf
            (focus (have hF := (And.intro (And.intro @a1 @b1) (And.intro @e3 (And.intro @g1 @g2))); (repeat' (first | with_reducible refine Nx.of ?_ | ((with_reducible apply toV); refine stV (k:=?_)) | ((with_reducible apply toG); refine stG (k:=?_)) | ((with_reducible apply toG0); refine stG0 (k:=?_)) | ((with_reducible apply toC); refine stC (k:=?_)) | ((with_reducible apply toO); refine stO (k:=?_)) | ((with_reducible apply toX); refine stX (k:=?_)) | with_reducible refine Ny.of ?_ ?_ | (refine Hyp.of ?_; intro hc; (try simp only [hc]); (try simp only [Bh] at hc)))); all_goals clear hF))
            (refine Fin.nextW (⟨i + 1, j, out ++ [a]⟩) ?_ (have hW := (And.intro @encKs_stb @encKs_snoc); stWk); (try dsimp only))
            exact ⟨⟨hia, hj, by simp; omega, by rw [List.append_assoc]; exact hf⟩, by omega⟩
          · rw [if_neg hv] at hf
            by_cases hz : v = 0
            · rw [if_pos hz] at hf
              (focus (have hF := (And.intro (And.intro @a1 (And.intro @b1 @e3)) (And.intro @g1 (And.intro @g2 @hz))); (repeat' (first | with_reducible refine Nx.of ?_ | ((with_reducible apply toV); refine stV (k:=?_)) | ((with_reducible apply toG); refine stG (k:=?_)) | ((with_reducible apply toG0); refine stG0 (k:=?_)) | ((with_reducible apply toC); refine stC (k:=?_)) | ((with_reducible apply toO); refine stO (k:=?_)) | ((with_reducible apply toX); refine stX (k:=?_)) | with_reducible refine Ny.of ?_ ?_ | (refine Hyp.of ?_; intro hc; (try simp only [hc]); (try simp only [Bh] at hc)))); all_goals clear hF))
              (refine Fin.nextW (⟨i + 1, j + 1, out ++ [a]⟩) ?_ (have hW := (And.intro @encKs_stb @encKs_snoc); stWk); (try dsimp only))
              exact ⟨⟨hia, hjb, by simp; omega, by rw [List.append_assoc]; exact hf⟩, by omega⟩
            · rw [if_neg hz] at hf
              (focus (have hF := (And.intro (And.intro @a1 @b1) (And.intro @e3 (And.intro @g1 @g2))); (repeat' (first | with_reducible refine Nx.of ?_ | ((with_reducible apply toV); refine stV (k:=?_)) | ((with_reducible apply toG); refine stG (k:=?_)) | ((with_reducible apply toG0); refine stG0 (k:=?_)) | ((with_reducible apply toC); refine stC (k:=?_)) | ((with_reducible apply toO); refine stO (k:=?_)) | ((with_reducible apply toX); refine stX (k:=?_)) | with_reducible refine Ny.of ?_ ?_ | (refine Hyp.of ?_; intro hc; (try simp only [hc]); (try simp only [Bh] at hc)))); all_goals clear hF))
              (refine Fin.nextW (⟨i, j + 1, out ++ [b]⟩) ?_ (have hW := (And.intro @encKs_stb @encKs_snoc); stWk); (try dsimp only))
              exact ⟨⟨hi, hjb, by simp; omega, by rw [List.append_assoc]; exact hf⟩, by omega⟩
        · have hj' : j = B.length := by omega
          subst hj'
          have n1 : ¬ (i : Int) = (A.length : Int) := by omega
          rw [List.drop_length, mrgR_nil2, drop_getR haa] at hf
          (focus (have hF := (And.intro (And.intro @a1 @b1) (And.intro @e3 (And.intro @g1 @n1))); (repeat' (first | with_reducible refine Nx.of ?_ | ((with_reducible apply toV); refine stV (k:=?_)) | ((with_reducible apply toG); refine stG (k:=?_)) | ((with_reducible apply toG0); refine stG0 (k:=?_)) | ((with_reducible apply toC); refine stC (k:=?_)) | ((with_reducible apply toO); refine stO (k:=?_)) | ((with_reducible apply toX); refine stX (k:=?_)) | with_reducible refine Ny.of ?_ ?_ | (refine Hyp.of ?_; intro hc; (try simp only [hc]); (try simp only [Bh] at hc)))); all_goals clear hF))
          (refine Fin.nextW (⟨i + 1, B.length, out ++ [a]⟩) ?_ (have hW := (And.intro @encKs_stb @encKs_snoc); stWk); (try dsimp only))
          exact ⟨⟨hia, Nat.le_refl _, by simp; omega, by rw [List.drop_length, mrgR_nil2, List.append_assoc]; exact hf⟩, by omega⟩
      · have hi' : i = A.length := by omega
        subst hi'
        by_cases hjb : j < B.length
        · obtain ⟨b, hbb⟩ : ∃ b, B[j]? = some b := ⟨B[j], by simp [hjb]⟩
          have g2 := encKs_get hbb
          have n2 : ¬ (j : Int) = (B.length : Int) := by omega
          rw [List.drop_length, mrgR_nil, drop_getR hbb] at hf
          (focus (have hF := (And.intro (And.intro @a1 @b1) (And.intro @e3 @g2)); (repeat' (first | with_reducible refine Nx.of ?_ | ((with_reducible apply toV); refine stV (k:=?_)) | ((with_reducible apply toG); refine stG (k:=?_)) | ((with_reducible apply toG0); refine stG0 (k:=?_)) | ((with_reducible apply toC); refine stC (k:=?_)) | ((with_reducible apply toO); refine stO (k:=?_)) | ((with_reducible apply toX); refine stX (k:=?_)) | with_reducible refine Ny.of ?_ ?_ | (refine Hyp.of ?_; intro hc; (try simp only [hc]); (try simp only [Bh] at hc)))); all_goals clear hF))
          (refine Fin.nextW (⟨A.length, j + 1, out ++ [b]⟩) ?_ (have hW := (And.intro @encKs_stb @encKs_snoc); stWk); (try dsimp only))
          exact ⟨⟨Nat.le_refl _, hjb, by simp; omega, by rw [List.drop_length, mrgR_nil, List.append_assoc]; exact hf⟩, by omega⟩
        · rw [show j = B.length by omega, List.drop_length, List.drop_length, mrgR_nil, List.append_nil] at hf
          subst hf
          (focus (have hF := (And.intro @a1 (And.intro @b1 @e3)); (repeat' (first | with_reducible refine Nx.of ?_ | ((with_reducible apply toV); refine stV (k:=?_)) | ((with_reducible apply toG); refine stG (k:=?_)) | ((with_reducible apply toG0); refine stG0 (k:=?_)) | ((with_reducible apply toC); refine stC (k:=?_)) | ((with_reducible apply toO); refine stO (k:=?_)) | ((with_reducible apply toX); refine stX (k:=?_)) | with_reducible refine Ny.of ?_ ?_ | (refine Hyp.of ?_; intro hc; (try simp only [hc]); (try simp only [Bh] at hc)))); all_goals clear hF))
          exact Fin.tmp' (by simp [fz, fzc, allK, upd, tms, mms]) (encKs_stb _)
theorem ev_k13 (l : List Rec) (hl : l.length ≤ 900000000) (hw : ∀ r ∈ l, wt r.past ≤ 20000000) : Ev (En Tryz.prog rfl).P 13 [.sl 3 (encKs l)] (.ret (.tup [.sl 3 (encKs (srtE l)), .int .i64 (if l.all skuOk = true then 0 else 5)])) := by
  refine Ev.of_body it_k13 (by simp) (Run.start ?_)
  unfold t_k13
  have e1 := encKs_len l
  have hS := stbK
  (focus (have hF := @e1; (repeat' (first | with_reducible refine Nx.of ?_ | ((with_reducible apply toV); refine stV (k:=?_)) | ((with_reducible apply toG); refine stG (k:=?_)) | ((with_reducible apply toG0); refine stG0 (k:=?_)) | ((with_reducible apply toC); refine stC (k:=?_)) | ((with_reducible apply toO); refine stO (k:=?_)) | ((with_reducible apply toX); refine stX (k:=?_)) | with_reducible refine Ny.of ?_ ?_ | (refine Hyp.of ?_; intro hc; (try simp only [hc]); (try simp only [Bh] at hc)))); all_goals clear hF))
  refine Run.wk (Wk.own_nil 4 46 3 rfl rfl) ?_
  refine Run.while (σ := Nat) (fun i => ⟨tms [(0, .sl 3 (encKs l)), (4, .os 46 (keptK (l.take i)).length), (5, .int .i64 (i : Int))], mms [(46, .arr (keptK (l.take i)).length 3 (encKs (keptK (l.take i))))]⟩)
    (fun i => i ≤ l.length ∧ (l.take i).all skuOk = true) (fun i => l.length - i) 0 (have hW := @encKs_stb; stWk) ⟨Nat.zero_le _, rfl⟩ ?_
  rintro i ⟨hi, hall⟩
  unfold t_k13_l1
  by_cases hlt : i < l.length
  · obtain ⟨r, hr⟩ : ∃ r, l[i]? = some r := ⟨l[i], by simp [hlt]⟩
    have g1 := encKs_get hr
    have hst := keptK_take hr
    have hle := keptK_len (l.take i)
    have hle2 : (l.take i).length ≤ l.length := by rw [List.length_take]; omega
    generalize keptK (l.take i) = out at hst hle ⊢
    have e2 := encKs_len out
    have hwr := hw r (List.mem_of_getElem? hr)
    have hwn := normP_wt r.past
    have c1 := ev_k60 r.sku
    have c2 := ev_k62 (normP r.past) (by omega)
    have c3 := ev_k61 r.past (by omega)
    rw [sizeP_normP] at c2
    have es := str_nil r.sku
    by_cases hz : r.sku.size = 0
    case' pos =>
      have hok : skuOk r = true := by simp [skuOk, hz]
      rw [eq_true hz] at es
      (focus (have hF := (And.intro (And.intro @e1 @e2) (And.intro @g1 @es)); (repeat' (first | with_reducible refine Nx.of ?_ | ((with_reducible apply toV); refine stV (k:=?_)) | ((with_reducible apply toG); refine stG (k:=?_)) | ((with_reducible apply toG0); refine stG0 (k:=?_)) | ((with_reducible apply toC); refine stC (k:=?_)) | ((with_reducible apply toO); refine stO (k:=?_)) | ((with_reducible apply toX); refine stX (k:=?_)) | with_reducible refine Ny.of ?_ ?_ | (refine Hyp.of ?_; intro hc; (try simp only [hc]); (try simp only [Bh] at hc)))); all_goals clear hF))
    case' neg =>
      rw [eq_false hz] at es
      by_cases hg : goodS r.sku = true
      case' neg =>
        have hbad : l.all skuOk = false := by
          rw [Bool.eq_false_iff]
          intro h
          have := List.all_eq_true.1 h r (List.mem_of_getElem? hr)
          simp [skuOk, hz, hg] at this
        have hg : goodS r.sku = false := by simpa using hg
        rw [hg] at c1
        unfold srtE
        rw [hbad]
        (focus (have hF := (And.intro (And.intro @e1 @e2) (And.intro @g1 @es)); (repeat' (first | with_reducible refine Nx.of ?_ | ((with_reducible apply toV); refine stV (k:=?_)) | ((with_reducible apply toG); refine stG (k:=?_)) | ((with_reducible apply toG0); refine stG0 (k:=?_)) | ((with_reducible apply toC); refine stC (k:=?_)) | ((with_reducible apply toO); refine stO (k:=?_)) | ((with_reducible apply toX); refine stX (k:=?_)) | with_reducible refine Ny.of ?_ ?_ | (refine Hyp.of ?_; intro hc; (try simp only [hc]); (try simp only [Bh] at hc)))); all_goals clear hF))
        refine stCall [.str r.sku] (he := c1) (k:=?_)
        (focus (have hF := (And.intro (And.intro @e1 @e2) (And.intro @g1 @es)); (repeat' (first | with_reducible refine Nx.of ?_ | ((with_reducible apply toV); refine stV (k:=?_)) | ((with_reducible apply toG); refine stG (k:=?_)) | ((with_reducible apply toG0); refine stG0 (k:=?_)) | ((with_reducible apply toC); refine stC (k:=?_)) | ((with_reducible apply toO); refine stO (k:=?_)) | ((with_reducible apply toX); refine stX (k:=?_)) | with_reducible refine Ny.of ?_ ?_ | (refine Hyp.of ?_; intro hc; (try simp only [hc]); (try simp only [Bh] at hc)))); all_goals clear hF))
        exact Fin.two rfl rfl rfl rfl (.inr ⟨rfl, 3, rfl⟩) (.inl rfl)
      case' pos =>
        have hok : skuOk r = true := by simp [skuOk, hg]
        rw [hg] at c1
        (focus (have hF := (And.intro (And.intro @e1 @e2) (And.intro @g1 @es)); (repeat' (first | with_reducible refine Nx.of ?_ | ((with_reducible apply toV); refine stV (k:=?_)) | ((with_reducible apply toG); refine stG (k:=?_)) | ((with_reducible apply toG0); refine stG0 (k:=?_)) | ((with_reducible apply toC); refine stC (k:=?_)) | ((with_reducible apply toO); refine stO (k:=?_)) | ((with_reducible apply toX); refine stX (k:=?_)) | with_reducible refine Ny.of ?_ ?_ | (refine Hyp.of ?_; intro hc; (try simp only [hc]); (try simp only [Bh] at hc)))); all_goals clear hF))
        refine stCall [.str r.sku] (he := c1) (k:=?_)
        (focus (have hF := (And.intro (And.intro @e1 @e2) (And.intro @g1 @es)); (repeat' (first | with_reducible refine Nx.of ?_ | ((with_reducible apply toV); refine stV (k:=?_)) | ((with_reducible apply toG); refine stG (k:=?_)) | ((with_reducible apply toG0); refine stG0 (k:=?_)) | ((with_reducible apply toC); refine stC (k:=?_)) | ((with_reducible apply toO); refine stO (k:=?_)) | ((with_reducible apply toX); refine stX (k:=?_)) | with_reducible refine Ny.of ?_ ?_ | (refine Hyp.of ?_; intro hc; (try simp only [hc]); (try simp only [Bh] at hc)))); all_goals clear hF))
    all_goals
      have hall2 := all_take1 hr hall hok
      refine stCall [encP r.past] (he := c3) (k:=?_)
      unfold encP
      (focus (have hF := (And.intro @e1 (And.intro @e2 @g1)); (repeat' (first | with_reducible refine Nx.of ?_ | ((with_reducible apply toV); refine stV (k:=?_)) | ((with_reducible apply toG); refine stG (k:=?_)) | ((with_reducible apply toG0); refine stG0 (k:=?_)) | ((with_reducible apply toC); refine stC (k:=?_)) | ((with_reducible apply toO); refine stO (k:=?_)) | ((with_reducible apply toX); refine stX (k:=?_)) | with_reducible refine Ny.of ?_ ?_ | (refine Hyp.of ?_; intro hc; (try simp only [hc]); (try simp only [Bh] at hc)))); all_goals clear hF))
      refine stCall [encP (normP r.past)] (he := c2) (k:=?_)
      by_cases hs : sizeP r.past = 0
      · rw [if_pos hs, List.append_nil] at hst
        rw [decide_eq_true hs]
        (focus (have hF := (And.intro @e1 (And.intro @e2 @g1)); (repeat' (first | with_reducible refine Nx.of ?_ | ((with_reducible apply toV); refine stV (k:=?_)) | ((with_reducible apply toG); refine stG (k:=?_)) | ((with_reducible apply toG0); refine stG0 (k:=?_)) | ((with_reducible apply toC); refine stC (k:=?_)) | ((with_reducible apply toO); refine stO (k:=?_)) | ((with_reducible apply toX); refine stX (k:=?_)) | with_reducible refine Ny.of ?_ ?_ | (refine Hyp.of ?_; intro hc; (try simp only [hc]); (try simp only [Bh] at hc)))); all_goals clear hF))
        (refine Fin.nextW (i + 1) ?_ (have hW := (And.intro @encKs_stb @hst); stWk); (try dsimp only))
        exact ⟨⟨hlt, hall2⟩, by omega⟩
      · rw [if_neg hs] at hst
        rw [decide_eq_false hs]
        (focus (have hF := (And.intro @e1 (And.intro @e2 @g1)); (repeat' (first | with_reducible refine Nx.of ?_ | ((with_reducible apply toV); refine stV (k:=?_)) | ((with_reducible apply toG); refine stG (k:=?_)) | ((with_reducible apply toG0); refine stG0 (k:=?_)) | ((with_reducible apply toC); refine stC (k:=?_)) | ((with_reducible apply toO); refine stO (k:=?_)) | ((with_reducible apply toX); refine stX (k:=?_)) | with_reducible refine Ny.of ?_ ?_ | (refine Hyp.of ?_; intro hc; (try simp only [hc]); (try simp only [Bh] at hc)))); all_goals clear hF))
        (focus (have hF := (And.intro @e1 (And.intro @e2 @g1)); (repeat' (first | with_reducible refine Nx.of ?_ | ((with_reducible apply toV); refine stV (k:=?_)) | ((with_reducible apply toG); refine stG (k:=?_)) | ((with_reducible apply toG0); refine stG0 (k:=?_)) | ((with_reducible apply toC); refine stC (k:=?_)) | ((with_reducible apply toO); refine stO (k:=?_)) | ((with_reducible apply toW2); refine stW2 (k:=?_)) | ((with_reducible apply toX); refine stX (k:=?_)) | with_reducible refine Ny.of ?_ ?_ | (refine Hyp.of ?_; intro hc; (try simp only [hc]); (try simp only [Bh] at hc)))); all_goals clear hF))
        (refine Fin.nextW (i + 1) ?_ (have hW := (And.intro @encKs_stb (And.intro @hst @encKs_snoc)); stWk); (try dsimp only))
        exact ⟨⟨hlt, hall2⟩, by omega⟩
  · rw [List.take_of_length_le (show l.length ≤ i by omega)] at hall ⊢
    unfold srtE
    rw [hall, if_pos rfl, if_pos rfl]
    have hkl := keptK_len l
    have hkw := keptK_wt hw
    have c1 := ev_k63 _ (keptK l) (Nat.le_refl _) (by omega) (fun r hr => by have := hkw r hr; omega) (keptK_can l)
    generalize keptK l = out at *
    (focus (have hF := @e1; (repeat' (first | with_reducible refine Nx.of ?_ | ((with_reducible apply toV); refine stV (k:=?_)) | ((with_reducible apply toG); refine stG (k:=?_)) | ((with_reducible apply toG0); refine stG0 (k:=?_)) | ((with_reducible apply toC); refine stC (k:=?_)) | ((with_reducible apply toO); refine stO (k:=?_)) | ((with_reducible apply toX); refine stX (k:=?_)) | with_reducible refine Ny.of ?_ ?_ | (refine Hyp.of ?_; intro hc; (try simp only [hc]); (try simp only [Bh] at hc)))); all_goals clear hF))
    refine stGive (fun j => 46 == 46) [.sl 3 (encKs out)] (he := c1) (k:=?_)
    (focus (have hF := @e1; (repeat' (first | with_reducible refine Nx.of ?_ | ((with_reducible apply toV); refine stV (k:=?_)) | ((with_reducible apply toG); refine stG (k:=?_)) | ((with_reducible apply toG0); refine stG0 (k:=?_)) | ((with_reducible apply toC); refine stC (k:=?_)) | ((with_reducible apply toO); refine stO (k:=?_)) | ((with_reducible apply toX); refine stX (k:=?_)) | with_reducible refine Ny.of ?_ ?_ | (refine Hyp.of ?_; intro hc; (try simp only [hc]); (try simp only [Bh] at hc)))); all_goals clear hF))
    exact Fin.two rfl (encKs_stb _) rfl rfl (.inl rfl) (.inl rfl)

def r_k3_1 : List SOp :=
  [⟨(some 1), (.box 29 (.tmp 0)), none⟩, ⟨(some 2), (.assign (.const (.bool false))), none⟩]
instance : Live r_k3_1 := ⟨[0]⟩
def r_k3_2 : List SOp :=
  [⟨(some 12), (.call ⟨.value (.func 11), #[], #[]⟩), none⟩, ⟨(some 13), (.unOp .not 4 (.tmp 12)), none⟩]
instance : Live r_k3_2 := ⟨[1]⟩
def r_k3_3 : List SOp :=
  [⟨(some 2), (.assign (.const (.bool false))), none⟩]
instance : Live r_k3_3 := ⟨[]⟩
def r_k3_4 : List SOp :=
  [⟨(some 14), (.fieldAddr 29 (.tmp 1) 0), none⟩, ⟨(some 15), (.load 22 (.tmp 14)), none⟩, ⟨(some 16), (.fieldAddr 29 (.tmp 1) 1), none⟩, ⟨(some 17), (.load 22 (.tmp 16)), none⟩, ⟨(some 18), (.buildSlice 31 2 #[(0, .tmp 15), (1, .tmp 17)]), none⟩, ⟨(some 3), (.assign (.tmp 18)), none⟩]
instance : Live r_k3_4 := ⟨[1]⟩
def r_k3_5 : List SOp :=
  [⟨(some 4), (.assign (.const (.int .i64 0))), none⟩]
instance : Live r_k3_5 := ⟨[1, 3]⟩
def r_k3_6 : List SOp :=
  [⟨(some 19), (.move (.tmp 4)), none⟩, ⟨(some 20), (.move (.tmp 3)), none⟩, ⟨(some 21), (.call ⟨.builtin .len, #[.tmp 20], #[31]⟩), none⟩, ⟨(some 22), (.binOp .lss 3 (.tmp 19) (.tmp 21) 3), none⟩]
instance : Live r_k3_6 := ⟨[1, 3, 4]⟩
def r_k3_7 : List SOp :=
  [⟨(some 25), (.move (.tmp 3)), none⟩, ⟨(some 26), (.move (.tmp 4)), none⟩, ⟨(some 27), (.indexAddr 31 (.tmp 25) (.tmp 26)), none⟩, ⟨(some 28), (.load 22 (.tmp 27)), none⟩, ⟨(some 5), (.assign (.tmp 28)), none⟩]
instance : Live r_k3_7 := ⟨[1, 3, 4]⟩
def r_k3_8 : List SOp :=
  [⟨(some 30), (.move (.tmp 5)), none⟩, ⟨(some 31), (.call ⟨.value (.func 12), #[.tmp 30], #[22]⟩), none⟩, ⟨(some 29), (.move (.tmp 31)), none⟩, ⟨(some 32), (.extract (.tmp 29) 0), none⟩, ⟨(some 33), (.extract (.tmp 29) 1), none⟩, ⟨(some 6), (.assign (.tmp 32)), none⟩, ⟨(some 7), (.assign (.tmp 33)), none⟩]
instance : Live r_k3_8 := ⟨[1, 3, 4, 5]⟩
def r_k3_9 : List SOp :=
  [⟨(some 35), (.move (.tmp 5)), none⟩, ⟨(some 36), (.call ⟨.value (.func 13), #[.tmp 35], #[22]⟩), none⟩, ⟨(some 34), (.move (.tmp 36)), none⟩, ⟨(some 37), (.extract (.tmp 34) 0), none⟩, ⟨(some 38), (.extract (.tmp 34) 1), none⟩, ⟨(some 8), (.assign (.tmp 37)), none⟩, ⟨(some 9), (.assign (.tmp 38)), none⟩]
instance : Live r_k3_9 := ⟨[1, 3, 4, 5, 6, 7]⟩
def r_k3_10 : List SOp :=
  [⟨(some 39), (.move (.tmp 5)), none⟩, ⟨(some 40), (.call ⟨.value (.func 14), #[.tmp 39], #[22]⟩), none⟩, ⟨(some 41), (.move (.tmp 5)), none⟩, ⟨(some 42), (.call ⟨.value (.func 15), #[.tmp 41], #[22]⟩), none⟩, ⟨(some 43), (.binOp .neq 32 (.tmp 40) (.tmp 42) 32), none⟩, ⟨(some 44), (.move (.tmp 43)), none⟩, ⟨(some 45), (.move (.tmp 7)), (some ((some 44), false))⟩, ⟨(some 46), (.move (.tmp 9)), (some ((some 44), false))⟩, ⟨(some 47), (.binOp .neq 32 (.tmp 45) (.tmp 46) 32), (some ((some 44), false))⟩, ⟨(some 48), (.pick (.tmp 44) (.const (.bool true)) (.tmp 47)), none⟩, ⟨(some 49), (.move (.tmp 48)), none⟩, ⟨(some 50), (.move (.tmp 6)), (some ((some 49), false))⟩, ⟨(some 51), (.move (.tmp 8)), (some ((some 49), false))⟩, ⟨(some 52), (.call ⟨.value (.func 16), #[.tmp 50, .tmp 51], #[22, 22]⟩), (some ((some 49), false))⟩, ⟨(some 53), (.unOp .not 4 (.tmp 52)), (some ((some 49), false))⟩, ⟨(some 54), (.pick (.tmp 49) (.const (.bool true)) (.tmp 53)), none⟩]
instance : Live r_k3_10 := ⟨[1, 3, 4, 5, 6, 7, 8, 9]⟩
def r_k3_11 : List SOp :=
  [⟨(some 2), (.assign (.const (.bool false))), none⟩]
instance : Live r_k3_11 := ⟨[]⟩
def r_k3_12 : List SOp :=
  [⟨(some 10), (.assign (.const (.int .i64 0))), none⟩]
instance : Live r_k3_12 := ⟨[1, 3, 4, 5]⟩
def r_k3_13 : List SOp :=
  [⟨(some 55), (.move (.tmp 10)), none⟩, ⟨(some 56), (.move (.tmp 5)), none⟩, ⟨(some 57), (.call ⟨.builtin .len, #[.tmp 56], #[22]⟩), none⟩, ⟨(some 58), (.binOp .lss 3 (.tmp 55) (.tmp 57) 3), none⟩]
instance : Live r_k3_13 := ⟨[1, 3, 4, 5, 10]⟩
def r_k3_14 : List SOp :=
  [⟨(some 61), (.move (.tmp 5)), none⟩, ⟨(some 62), (.move (.tmp 10)), none⟩, ⟨(some 63), (.indexAddr 22 (.tmp 61) (.tmp 62)), none⟩, ⟨(some 64), (.load 39 (.tmp 63)), none⟩, ⟨(some 65), (.call ⟨.value (.func 17), #[.tmp 64], #[39]⟩), none⟩, ⟨(some 66), (.move (.tmp 5)), none⟩, ⟨(some 67), (.move (.tmp 10)), none⟩, ⟨(some 68), (.indexAddr 22 (.tmp 66) (.tmp 67)), none⟩, ⟨(some 69), (.load 39 (.tmp 68)), none⟩, ⟨(some 70), (.call ⟨.value (.func 18), #[.tmp 69], #[39]⟩), none⟩, ⟨(some 71), (.binOp .neq 32 (.tmp 65) (.tmp 70) 32), none⟩, ⟨(some 72), (.move (.tmp 71)), none⟩, ⟨(some 73), (.move (.tmp 10)), (some ((some 72), false))⟩, ⟨(some 74), (.binOp .gtr 3 (.tmp 73) (.const (.int .i64 0)) 3), (some ((some 72), false))⟩, ⟨(some 75), (.move (.tmp 74)), (some ((some 72), false))⟩, ⟨(some 76), (.move (.tmp 5)), (some ((some 75), true))⟩, ⟨(some 77), (.move (.tmp 10)), (some ((some 75), true))⟩, ⟨(some 78), (.binOp .sub 3 (.tmp 77) (.const (.int .i64 1)) 3), (some ((some 75), true))⟩, ⟨(some 79), (.indexAddr 22 (.tmp 76) (.tmp 78)), (some ((some 75), true))⟩, ⟨(some 80), (.load 39 (.tmp 79)), (some ((some 75), true))⟩, ⟨(some 81), (.move (.tmp 5)), (some ((some 75), true))⟩, ⟨(some 82), (.move (.tmp 10)), (some ((some 75), true))⟩, ⟨(some 83), (.indexAddr 22 (.tmp 81) (.tmp 82)), (some ((some 75), true))⟩, ⟨(some 84), (.load 39 (.tmp 83)), (some ((some 75), true))⟩, ⟨(some 85), (.call ⟨.value (.func 19), #[.tmp 80, .tmp 84], #[39, 39]⟩), (some ((some 75), true))⟩, ⟨(some 86), (.move (.tmp 5)), (some ((some 75), true))⟩, ⟨(some 87), (.move (.tmp 10)), (some ((some 75), true))⟩, ⟨(some 88), (.binOp .sub 3 (.tmp 87) (.const (.int .i64 1)) 3), (some ((some 75), true))⟩, ⟨(some 89), (.indexAddr 22 (.tmp 86) (.tmp 88)), (some ((some 75), true))⟩, ⟨(some 90), (.load 39 (.tmp 89)), (some ((some 75), true))⟩, ⟨(some 91), (.move (.tmp 5)), (some ((some 75), true))⟩, ⟨(some 92), (.move (.tmp 10)), (some ((some 75), true))⟩, ⟨(some 93), (.indexAddr 22 (.tmp 91) (.tmp 92)), (some ((some 75), true))⟩, ⟨(some 94), (.load 39 (.tmp 93)), (some ((some 75), true))⟩, ⟨(some 95), (.call ⟨.value (.func 20), #[.tmp 90, .tmp 94], #[39, 39]⟩), (some ((some 75), true))⟩, ⟨(some 96), (.binOp .neq 3 (.tmp 85) (.tmp 95) 3), (some ((some 75), true))⟩, ⟨(some 97), (.pick (.tmp 75) (.tmp 96) (.const (.bool false))), (some ((some 72), false))⟩, ⟨(some 98), (.pick (.tmp 72) (.const (.bool true)) (.tmp 97)), none⟩]
instance : Live r_k3_14 := ⟨[1, 3, 4, 5, 10]⟩
def r_k3_15 : List SOp :=
  [⟨(some 2), (.assign (.const (.bool false))), none⟩]
instance : Live r_k3_15 := ⟨[]⟩
def r_k3_16 : List SOp :=
  [⟨(some 59), (.move (.tmp 10)), none⟩, ⟨(some 60), (.binOp .add 3 (.tmp 59) (.const (.int .i64 1)) 3), none⟩, ⟨(some 10), (.assign (.tmp 60)), none⟩]
instance : Live r_k3_16 := ⟨[1, 3, 4, 5, 10]⟩
def r_k3_17 : List SOp :=
  [⟨(some 23), (.move (.tmp 4)), none⟩, ⟨(some 24), (.binOp .add 3 (.tmp 23) (.const (.int .i64 1)) 3), none⟩, ⟨(some 4), (.assign (.tmp 24)), none⟩]
instance : Live r_k3_17 := ⟨[1, 3, 4]⟩
def r_k3_18 : List SOp :=
  [⟨(some 11), (.assign (.const (.int .i64 0))), none⟩]
instance : Live r_k3_18 := ⟨[1]⟩
def r_k3_19 : List SOp :=
  [⟨(some 99), (.move (.tmp 11)), none⟩, ⟨(some 100), (.fieldAddr 29 (.tmp 1) 0), none⟩, ⟨(some 101), (.load 22 (.tmp 100)), none⟩, ⟨(some 102), (.call ⟨.builtin .len, #[.tmp 101], #[22]⟩), none⟩, ⟨(some 103), (.binOp .lss 3 (.tmp 99) (.tmp 102) 3), none⟩, ⟨(some 104), (.move (.tmp 103)), none⟩, ⟨(some 105), (.move (.tmp 11)), (some ((some 104), true))⟩, ⟨(some 106), (.fieldAddr 29 (.tmp 1) 1), (some ((some 104), true))⟩, ⟨(some 107), (.load 22 (.tmp 106)), (some ((some 104), true))⟩, ⟨(some 108), (.call ⟨.builtin .len, #[.tmp 107], #[22]⟩), (some ((some 104), true))⟩, ⟨(some 109), (.binOp .lss 3 (.tmp 105) (.tmp 108) 3), (some ((some 104), true))⟩, ⟨(some 110), (.pick (.tmp 104) (.tmp 109) (.const (.bool false))), none⟩]
instance : Live r_k3_19 := ⟨[1, 11]⟩
def r_k3_20 : List SOp :=
  [⟨(some 113), (.fieldAddr 29 (.tmp 1) 0), none⟩, ⟨(some 114), (.load 22 (.tmp 113)), none⟩, ⟨(some 115), (.move (.tmp 11)), none⟩, ⟨(some 116), (.indexAddr 22 (.tmp 114) (.tmp 115)), none⟩, ⟨(some 117), (.load 39 (.tmp 116)), none⟩, ⟨(some 118), (.fieldAddr 29 (.tmp 1) 1), none⟩, ⟨(some 119), (.load 22 (.tmp 118)), none⟩, ⟨(some 120), (.move (.tmp 11)), none⟩, ⟨(some 121), (.indexAddr 22 (.tmp 119) (.tmp 120)), none⟩, ⟨(some 122), (.load 39 (.tmp 121)), none⟩, ⟨(some 123), (.call ⟨.value (.func 19), #[.tmp 117, .tmp 122], #[39, 39]⟩), none⟩, ⟨(some 124), (.fieldAddr 29 (.tmp 1) 0), none⟩, ⟨(some 125), (.load 22 (.tmp 124)), none⟩, ⟨(some 126), (.move (.tmp 11)), none⟩, ⟨(some 127), (.indexAddr 22 (.tmp 125) (.tmp 126)), none⟩, ⟨(some 128), (.load 39 (.tmp 127)), none⟩, ⟨(some 129), (.fieldAddr 29 (.tmp 1) 1), none⟩, ⟨(some 130), (.load 22 (.tmp 129)), none⟩, ⟨(some 131), (.move (.tmp 11)), none⟩, ⟨(some 132), (.indexAddr 22 (.tmp 130) (.tmp 131)), none⟩, ⟨(some 133), (.load 39 (.tmp 132)), none⟩, ⟨(some 134), (.call ⟨.value (.func 20), #[.tmp 128, .tmp 133], #[39, 39]⟩), none⟩, ⟨(some 135), (.binOp .neq 3 (.tmp 123) (.tmp 134) 3), none⟩]
instance : Live r_k3_20 := ⟨[1, 11]⟩
def r_k3_21 : List SOp :=
  [⟨(some 2), (.assign (.const (.bool false))), none⟩]
instance : Live r_k3_21 := ⟨[]⟩
def r_k3_22 : List SOp :=
  [⟨(some 111), (.move (.tmp 11)), none⟩, ⟨(some 112), (.binOp .add 3 (.tmp 111) (.const (.int .i64 1)) 3), none⟩, ⟨(some 11), (.assign (.tmp 112)), none⟩]
instance : Live r_k3_22 := ⟨[1, 11]⟩
def r_k3_23 : List SOp :=
  [⟨(some 2), (.assign (.const (.bool true))), none⟩]
instance : Live r_k3_23 := ⟨[]⟩
def t_k3_l2 : SC :=
  (.seq (.seq (.ops false r_k3_13) (.cond (.tmp 58) .skip (.exit 2))) (.seq (.block 3 (.seq (.ops true r_k3_14) (.cond (.tmp 98) (.seq (.ops false r_k3_15) .ret) .skip))) (.ops false r_k3_16)))
def t_k3_l1 : SC :=
  (.seq (.seq (.ops false r_k3_6) (.cond (.tmp 22) .skip (.exit 0))) (.seq (.block 1 (.seq (.ops false r_k3_7) (.seq (.ops false r_k3_8) (.seq (.ops false r_k3_9) (.seq (.seq (.ops false r_k3_10) (.cond (.tmp 54) (.seq (.ops false r_k3_11) .ret) .skip)) (.seq (.ops false r_k3_12) (.block 2 (.loop t_k3_l2)))))))) (.ops false r_k3_17)))
def t_k3_l3 : SC :=
  (.seq (.seq (.ops false r_k3_19) (.cond (.tmp 110) .skip (.exit 4))) (.seq (.block 5 (.seq (.ops true r_k3_20) (.cond (.tmp 135) (.seq (.ops false r_k3_21) .ret) .skip))) (.ops false r_k3_22)))
def t_k3 : SC :=
  (.seq (.ops false r_k3_1) (.seq (.seq (.ops false r_k3_2) (.cond (.tmp 13) (.seq (.ops false r_k3_3) .ret) .skip)) (.seq (.ops false r_k3_4) (.seq (.seq (.ops false r_k3_5) (.block 0 (.loop t_k3_l1))) (.seq (.seq (.ops false r_k3_18) (.block 4 (.loop t_k3_l3))) (.seq (.ops false r_k3_23) .ret))))))
theorem it_k3 : FnIs Tryz.prog 3 136 [.tmp 2] t_k3 := ⟨Tryz.f3, _, Tryz.func3, rfl, rfl, rfl, rfl, by kernel_rfl⟩

theorem ev_k3 (x : CasK) (hw : wtKs x.r + wtKs x.q ≤ 10000000) : Ev (En Tryz.prog rfl).P 3 [encX x] (.ret (.bool true)) := by
  refine Ev.of_body it_k3 (by simp) (Run.start ?_)
  unfold t_k3 encX
  have hcs : stbs [AVal.sl 3 (encKs x.r), .sl 3 (encKs x.q), .sl 4 (encEs x.a), .sl 4 (encEs x.b), .sl 1 (encIs x.p.vec), .sl 3 (encSs x.p.cloud), .sl 1 (encIs x.o.vec), .sl 3 (encSs x.o.cloud)] = true := by simp [stbs, AVal.stb, encIs_stb, encSs_stb, encKs_stb, encEs_stb]
  have hS := stbK
  have hlr := wtKs_len x.r
  have hlq := wtKs_len x.q
  have hW : ∀ l : List Rec, (l = x.r ∨ l = x.q) → l.length ≤ 10000000 ∧ ∀ r ∈ l, wt r.past ≤ 10000000 := by
    rintro l (rfl | rfl)
    · exact ⟨by omega, fun r hr => by have := wtK_le hr; unfold wtK at this; omega⟩
    · exact ⟨by omega, fun r hr => by have := wtK_le hr; unfold wtK at this; omega⟩
  (focus (have hF := @hcs; (repeat' (first | with_reducible refine Nx.of ?_ | ((with_reducible apply toV); refine stV (k:=?_)) | ((with_reducible apply toG); refine stG (k:=?_)) | ((with_reducible apply toG0); refine stG0 (k:=?_)) | ((with_reducible apply toC); refine stC (k:=?_)) | ((with_reducible apply toO); refine stO (k:=?_)) | ((with_reducible apply toX); refine stX (k:=?_)) | with_reducible refine Ny.of ?_ ?_ | (refine Hyp.of ?_; intro hc; (try simp only [hc]); (try simp only [Bh] at hc)))); all_goals clear hF))
  refine stCall [] (he := ev_k11) (k:=?_)
  (focus (have hF := @hcs; (repeat' (first | with_reducible refine Nx.of ?_ | ((with_reducible apply toV); refine stV (k:=?_)) | ((with_reducible apply toG); refine stG (k:=?_)) | ((with_reducible apply toG0); refine stG0 (k:=?_)) | ((with_reducible apply toC); refine stC (k:=?_)) | ((with_reducible apply toO); refine stO (k:=?_)) | ((with_reducible apply toX); refine stX (k:=?_)) | with_reducible refine Ny.of ?_ ?_ | (refine Hyp.of ?_; intro hc; (try simp only [hc]); (try simp only [Bh] at hc)))); all_goals clear hF))
  obtain ⟨Ls, hLs⟩ : ∃ Ls, [AVal.sl 3 (encKs x.r), AVal.sl 3 (encKs x.q)] = Ls := ⟨_, rfl⟩
  rw [hLs]
  have hLl : Ls.length = 2 := by rw [← hLs]; rfl
  have hLst : stbs Ls = true := by rw [← hLs]; simp [stbs, AVal.stb, encKs_stb]
  have hLg : ∀ i, i < 2 → ∃ l, Ls[i]? = some (.sl 3 (encKs l)) ∧ (l = x.r ∨ l = x.q) := by
    intro i hi
    rw [← hLs]
    match i, hi with
    | 0, _ => exact ⟨x.r, rfl, .inl rfl⟩
    | 1, _ => exact ⟨x.q, rfl, .inr rfl⟩
  clear hLs
  have eR := encKs_len x.r
  have eQ := encKs_len x.q
  refine Run.while (σ := Nat) (fun i => ⟨tms [(1, .ptr 1 0), (3, .sl 1 Ls), (4, .int .i64 (i : Int))], mms [(1, .cells [.sl 3 (encKs x.r), .sl 3 (encKs x.q), .sl 4 (encEs x.a), .sl 4 (encEs x.b), .sl 1 (encIs x.p.vec), .sl 3 (encSs x.p.cloud), .sl 1 (encIs x.o.vec), .sl 3 (encSs x.o.cloud)])]⟩)
    (fun i => i ≤ 2) (fun i => 2 - i) 0 (have hW := (And.intro @encEs_stb (And.intro @encKs_stb @hLst)); stWk) (Nat.zero_le _) ?_
  · intro i hi
    unfold t_k3_l1
    by_cases hlt : i < 2
    · obtain ⟨l, gl, hl⟩ := hLg i hlt
      obtain ⟨hll, hlw⟩ := hW l hl
      have c1 := ev_k12 l (by omega) (fun r hr => by have := hlw r hr; omega)
      have c2 := ev_k13 l (by omega) (fun r hr => by have := hlw r hr; omega)
      have c3 := ev_keepCheckW l (by omega) (fun r hr => by have := hlw r hr; omega)
      have c4 := ev_ref07CheckW l (by omega) (fun r hr => by have := hlw r hr; omega)
      have hsl : (srtE l).length ≤ l.length := by
        unfold srtE
        split
        · exact Nat.le_trans (ordR_len _) (keptK_len l)
        · simp
      have hsw : ∀ r ∈ srtE l, wt r.past ≤ 20000000 := by
        unfold srtE
        split
        · intro r hr
          have := keptK_wt hlw r (ordR_sub hr)
          omega
        · intro r hr; cases hr
      have c5 := ev_k16 (srtE l) (by omega) (fun r hr => by have := hsw r hr; omega)
      have el := encKs_len l
      generalize srtE l = S at *
      generalize l.all skuOk = bo at *
      generalize formK l = fo at *
      (focus (have hF := (And.intro @hcs (And.intro @hLl @gl)); (repeat' (first | with_reducible refine Nx.of ?_ | ((with_reducible apply toV); refine stV (k:=?_)) | ((with_reducible apply toG); refine stG (k:=?_)) | ((with_reducible apply toG0); refine stG0 (k:=?_)) | ((with_reducible apply toC); refine stC (k:=?_)) | ((with_reducible apply toO); refine stO (k:=?_)) | ((with_reducible apply toX); refine stX (k:=?_)) | with_reducible refine Ny.of ?_ ?_ | (refine Hyp.of ?_; intro hc; (try simp only [hc]); (try simp only [Bh] at hc)))); all_goals clear hF))
      refine stCall [.sl 3 (encKs l)] (he := c1) (k:=?_)
      (focus (have hF := (And.intro @hcs (And.intro @hLl @gl)); (repeat' (first | with_reducible refine Nx.of ?_ | ((with_reducible apply toV); refine stV (k:=?_)) | ((with_reducible apply toG); refine stG (k:=?_)) | ((with_reducible apply toG0); refine stG0 (k:=?_)) | ((with_reducible apply toC); refine stC (k:=?_)) | ((with_reducible apply toO); refine stO (k:=?_)) | ((with_reducible apply toX); refine stX (k:=?_)) | with_reducible refine Ny.of ?_ ?_ | (refine Hyp.of ?_; intro hc; (try simp only [hc]); (try simp only [Bh] at hc)))); all_goals clear hF))
      refine stCall [.sl 3 (encKs l)] (he := c2) (k:=?_)
      (focus (have hF := (And.intro @hcs (And.intro @hLl @gl)); (repeat' (first | with_reducible refine Nx.of ?_ | ((with_reducible apply toV); refine stV (k:=?_)) | ((with_reducible apply toG); refine stG (k:=?_)) | ((with_reducible apply toG0); refine stG0 (k:=?_)) | ((with_reducible apply toC); refine stC (k:=?_)) | ((with_reducible apply toO); refine stO (k:=?_)) | ((with_reducible apply toX); refine stX (k:=?_)) | with_reducible refine Ny.of ?_ ?_ | (refine Hyp.of ?_; intro hc; (try simp only [hc]); (try simp only [Bh] at hc)))); all_goals clear hF))
      refine stCall [.sl 3 (encKs l)] (he := c3) (k:=?_)
      (focus (have hF := (And.intro @hcs (And.intro @hLl @gl)); (repeat' (first | with_reducible refine Nx.of ?_ | ((with_reducible apply toV); refine stV (k:=?_)) | ((with_reducible apply toG); refine stG (k:=?_)) | ((with_reducible apply toG0); refine stG0 (k:=?_)) | ((with_reducible apply toC); refine stC (k:=?_)) | ((with_reducible apply toO); refine stO (k:=?_)) | ((with_reducible apply toX); refine stX (k:=?_)) | with_reducible refine Ny.of ?_ ?_ | (refine Hyp.of ?_; intro hc; (try simp only [hc]); (try simp only [Bh] at hc)))); all_goals clear hF))
      refine stCall [.sl 3 (encKs l)] (he := c4) (k:=?_)
      (focus (have hF := (And.intro @hcs (And.intro @hLl @gl)); (repeat' (first | with_reducible refine Nx.of ?_ | ((with_reducible apply toV); refine stV (k:=?_)) | ((with_reducible apply toG); refine stG (k:=?_)) | ((with_reducible apply toG0); refine stG0 (k:=?_)) | ((with_reducible apply toC); refine stC (k:=?_)) | ((with_reducible apply toO); refine stO (k:=?_)) | ((with_reducible apply toX); refine stX (k:=?_)) | with_reducible refine Ny.of ?_ ?_ | (refine Hyp.of ?_; intro hc; (try simp only [hc]); (try simp only [Bh] at hc)))); all_goals clear hF))
      refine stCall [.sl 3 (encKs S), .sl 3 (encKs S)] (he := c5) (k:=?_)
      (focus (have hF := (And.intro @hcs (And.intro @hLl @gl)); (repeat' (first | with_reducible refine Nx.of ?_ | ((with_reducible apply toV); refine stV (k:=?_)) | ((with_reducible apply toG); refine stG (k:=?_)) | ((with_reducible apply toG0); refine stG0 (k:=?_)) | ((with_reducible apply toC); refine stC (k:=?_)) | ((with_reducible apply toO); refine stO (k:=?_)) | ((with_reducible apply toX); refine stX (k:=?_)) | with_reducible refine Ny.of ?_ ?_ | (refine Hyp.of ?_; intro hc; (try simp only [hc]); (try simp only [Bh] at hc)))); all_goals clear hF))
      refine Run.while (σ := Nat) (fun k => ⟨tms [(1, .ptr 1 0), (3, .sl 1 Ls), (4, .int .i64 (i : Int)), (5, .sl 3 (encKs l)), (10, .int .i64 (k : Int))], mms [(1, .cells [.sl 3 (encKs x.r), .sl 3 (encKs x.q), .sl 4 (encEs x.a), .sl 4 (encEs x.b), .sl 1 (encIs x.p.vec), .sl 3 (encSs x.p.cloud), .sl 1 (encIs x.o.vec), .sl 3 (encSs x.o.cloud)])]⟩)
        (fun k => k ≤ l.length) (fun k => l.length - k) 0 (have hW := (And.intro @encEs_stb (And.intro @encKs_stb @hLst)); stWk) (Nat.zero_le _) ?_
      intro k hk
      unfold t_k3_l2
      by_cases hkl : k < l.length
      · obtain ⟨r, hr⟩ : ∃ r, l[k]? = some r := ⟨l[k], by simp [hkl]⟩
        have g1 := encKs_get hr
        have hwr := hlw r (List.mem_of_getElem? hr)
        have d1 := ev_k17 r (by omega)
        have d2 := ev_k18 r (by omega)
        generalize recErr r = v at d1 d2
        by_cases h0 : k = 0
        · have h0' : (k : Int) = 0 := by omega
          subst h0
          (focus (have hF := (And.intro (And.intro @hcs @hLl) (And.intro @el @g1)); (repeat' (first | with_reducible refine Nx.of ?_ | ((with_reducible apply toV); refine stV (k:=?_)) | ((with_reducible apply toG); refine stG (k:=?_)) | ((with_reducible apply toG0); refine stG0 (k:=?_)) | ((with_reducible apply toC); refine stC (k:=?_)) | ((with_reducible apply toO); refine stO (k:=?_)) | ((with_reducible apply toX); refine stX (k:=?_)) | with_reducible refine Ny.of ?_ ?_ | (refine Hyp.of ?_; intro hc; (try simp only [hc]); (try simp only [Bh] at hc)))); all_goals clear hF))
          refine stCall [encK r] (he := d1) (k:=?_)
          (focus (have hF := (And.intro (And.intro @hcs @hLl) (And.intro @el @g1)); (repeat' (first | with_reducible refine Nx.of ?_ | ((with_reducible apply toV); refine stV (k:=?_)) | ((with_reducible apply toG); refine stG (k:=?_)) | ((with_reducible apply toG0); refine stG0 (k:=?_)) | ((with_reducible apply toC); refine stC (k:=?_)) | ((with_reducible apply toO); refine stO (k:=?_)) | ((with_reducible apply toX); refine stX (k:=?_)) | with_reducible refine Ny.of ?_ ?_ | (refine Hyp.of ?_; intro hc; (try simp only [hc]); (try simp only [Bh] at hc)))); all_goals clear hF))
          refine stCall [encK r] (he := d2) (k:=?_)
          (focus (have hF := (And.intro (And.intro @hcs @hLl) (And.intro @el @g1)); (repeat' (first | with_reducible refine Nx.of ?_ | ((with_reducible apply toV); refine stV (k:=?_)) | ((with_reducible apply toG); refine stG (k:=?_)) | ((with_reducible apply toG0); refine stG0 (k:=?_)) | ((with_reducible apply toC); refine stC (k:=?_)) | ((with_reducible apply toO); refine stO (k:=?_)) | ((with_reducible apply toX); refine stX (k:=?_)) | with_reducible refine Ny.of ?_ ?_ | (refine Hyp.of ?_; intro hc; (try simp only [hc]); (try simp only [Bh] at hc)))); all_goals clear hF))
          have h01 : ((0 : Nat) : Int) + 1 = ((1 : Nat) : Int) := rfl
          (refine Fin.nextW (1) ?_ (have hW := (And.intro (And.intro @encEs_stb @encKs_stb) (And.intro @hLst @h01)); stWk); (try dsimp only))
          omega
        · obtain ⟨q, hq⟩ : ∃ q, l[k - 1]? = some q := ⟨l[k - 1]'(by omega), by simp [show k - 1 < l.length by omega]⟩
          have g2 := encKs_get hq
          have hwq := hlw q (List.mem_of_getElem? hq)
          have hpw : IntKind.i64.wrap ((k : Int) - 1) = ((k - 1 : Nat) : Int) := by rw [wrap_ok (by omega)]; omega
          have d3 := ev_k19 q r (by omega) (by omega)
          have d4 := ev_k20 q r (by omega) (by omega)
          have hkp : ((0 : Int) < (k : Int)) = True := by simp; omega
          generalize cmpR q r = u at d3 d4
          (focus (have hF := (And.intro (And.intro @hcs @hLl) (And.intro @el @g1)); (repeat' (first | with_reducible refine Nx.of ?_ | ((with_reducible apply toV); refine stV (k:=?_)) | ((with_reducible apply toG); refine stG (k:=?_)) | ((with_reducible apply toG0); refine stG0 (k:=?_)) | ((with_reducible apply toC); refine stC (k:=?_)) | ((with_reducible apply toO); refine stO (k:=?_)) | ((with_reducible apply toX); refine stX (k:=?_)) | with_reducible refine Ny.of ?_ ?_ | (refine Hyp.of ?_; intro hc; (try simp only [hc]); (try simp only [Bh] at hc)))); all_goals clear hF))
          refine stCall [encK r] (he := d1) (k:=?_)
          (focus (have hF := (And.intro (And.intro @hcs @hLl) (And.intro @el @g1)); (repeat' (first | with_reducible refine Nx.of ?_ | ((with_reducible apply toV); refine stV (k:=?_)) | ((with_reducible apply toG); refine stG (k:=?_)) | ((with_reducible apply toG0); refine stG0 (k:=?_)) | ((with_reducible apply toC); refine stC (k:=?_)) | ((with_reducible apply toO); refine stO (k:=?_)) | ((with_reducible apply toX); refine stX (k:=?_)) | with_reducible refine Ny.of ?_ ?_ | (refine Hyp.of ?_; intro hc; (try simp only [hc]); (try simp only [Bh] at hc)))); all_goals clear hF))
          refine stCall [encK r] (he := d2) (k:=?_)
          (focus (have hF := (And.intro (And.intro @hcs (And.intro @hLl @el)) (And.intro (And.intro @g1 @g2) (And.intro @hpw @hkp))); (repeat' (first | with_reducible refine Nx.of ?_ | ((with_reducible apply toV); refine stV (k:=?_)) | ((with_reducible apply toG); refine stG (k:=?_)) | ((with_reducible apply toG0); refine stG0 (k:=?_)) | ((with_reducible apply toC); refine stC (k:=?_)) | ((with_reducible apply toO); refine stO (k:=?_)) | ((with_reducible apply toX); refine stX (k:=?_)) | with_reducible refine Ny.of ?_ ?_ | (refine Hyp.of ?_; intro hc; (try simp only [hc]); (try simp only [Bh] at hc)))); all_goals clear hF))
          refine stCall [encK q, encK r] (he := d3) (k:=?_)
          (focus (have hF := (And.intro (And.intro @hcs (And.intro @hLl @el)) (And.intro @g1 (And.intro @g2 @hpw))); (repeat' (first | with_reducible refine Nx.of ?_ | ((with_reducible apply toV); refine stV (k:=?_)) | ((with_reducible apply toG); refine stG (k:=?_)) | ((with_reducible apply toG0); refine stG0 (k:=?_)) | ((with_reducible apply toC); refine stC (k:=?_)) | ((with_reducible apply toO); refine stO (k:=?_)) | ((with_reducible apply toX); refine stX (k:=?_)) | with_reducible refine Ny.of ?_ ?_ | (refine Hyp.of ?_; intro hc; (try simp only [hc]); (try simp only [Bh] at hc)))); all_goals clear hF))
          refine stCall [encK q, encK r] (he := d4) (k:=?_)
          (focus (have hF := (And.intro (And.intro @hcs @hLl) (And.intro @el @g1)); (repeat' (first | with_reducible refine Nx.of ?_ | ((with_reducible apply toV); refine stV (k:=?_)) | ((with_reducible apply toG); refine stG (k:=?_)) | ((with_reducible apply toG0); refine stG0 (k:=?_)) | ((with_reducible apply toC); refine stC (k:=?_)) | ((with_reducible apply toO); refine stO (k:=?_)) | ((with_reducible apply toX); refine stX (k:=?_)) | with_reducible refine Ny.of ?_ ?_ | (refine Hyp.of ?_; intro hc; (try simp only [hc]); (try simp only [Bh] at hc)))); all_goals clear hF))
          (refine Fin.nextW (k + 1) ?_ (have hW := (And.intro @encEs_stb (And.intro @encKs_stb @hLst)); stWk); (try dsimp only))
          omega
      · (focus (have hF := (And.intro @hcs (And.intro @hLl @el)); (repeat' (first | with_reducible refine Nx.of ?_ | ((with_reducible apply toV); refine stV (k:=?_)) | ((with_reducible apply toG); refine stG (k:=?_)) | ((with_reducible apply toG0); refine stG0 (k:=?_)) | ((with_reducible apply toC); refine stC (k:=?_)) | ((with_reducible apply toO); refine stO (k:=?_)) | ((with_reducible apply toX); refine stX (k:=?_)) | with_reducible refine Ny.of ?_ ?_ | (refine Hyp.of ?_; intro hc; (try simp only [hc]); (try simp only [Bh] at hc)))); all_goals clear hF))
        (refine Fin.nextW (i + 1) ?_ (have hW := (And.intro @encEs_stb (And.intro @encKs_stb @hLst)); stWk); (try dsimp only))
        omega
    · (focus (have hF := (And.intro @hcs @hLl); (repeat' (first | with_reducible refine Nx.of ?_ | ((with_reducible apply toV); refine stV (k:=?_)) | ((with_reducible apply toG); refine stG (k:=?_)) | ((with_reducible apply toG0); refine stG0 (k:=?_)) | ((with_reducible apply toC); refine stC (k:=?_)) | ((with_reducible apply toO); refine stO (k:=?_)) | ((with_reducible apply toX); refine stX (k:=?_)) | with_reducible refine Ny.of ?_ ?_ | (refine Hyp.of ?_; intro hc; (try simp only [hc]); (try simp only [Bh] at hc)))); all_goals clear hF))
      refine Run.while (σ := Nat) (fun k => ⟨tms [(1, .ptr 1 0), (11, .int .i64 (k : Int))], mms [(1, .cells [.sl 3 (encKs x.r), .sl 3 (encKs x.q), .sl 4 (encEs x.a), .sl 4 (encEs x.b), .sl 1 (encIs x.p.vec), .sl 3 (encSs x.p.cloud), .sl 1 (encIs x.o.vec), .sl 3 (encSs x.o.cloud)])]⟩)
        (fun k => k ≤ x.r.length ∧ k ≤ x.q.length) (fun k => x.r.length - k) 0 (have hW := (And.intro @encEs_stb @encKs_stb); stWk) ⟨Nat.zero_le _, Nat.zero_le _⟩ ?_
      rintro k ⟨hk1, hk2⟩
      unfold t_k3_l3
      by_cases hkr : k < x.r.length
      · obtain ⟨a, ha⟩ : ∃ a, x.r[k]? = some a := ⟨x.r[k], by simp [hkr]⟩
        have g1 := encKs_get ha
        by_cases hkq : k < x.q.length
        · obtain ⟨b, hb⟩ : ∃ b, x.q[k]? = some b := ⟨x.q[k], by simp [hkq]⟩
          have g2 := encKs_get hb
          have hwa := (hW x.r (.inl rfl)).2 a (List.mem_of_getElem? ha)
          have hwb := (hW x.q (.inr rfl)).2 b (List.mem_of_getElem? hb)
          have d3 := ev_k19 a b (by omega) (by omega)
          have d4 := ev_k20 a b (by omega) (by omega)
          generalize cmpR a b = u at d3 d4
          (focus (have hF := (And.intro (And.intro @hcs @eR) (And.intro @eQ (And.intro @g1 @g2))); (repeat' (first | with_reducible refine Nx.of ?_ | ((with_reducible apply toV); refine stV (k:=?_)) | ((with_reducible apply toG); refine stG (k:=?_)) | ((with_reducible apply toG0); refine stG0 (k:=?_)) | ((with_reducible apply toC); refine stC (k:=?_)) | ((with_reducible apply toO); refine stO (k:=?_)) | ((with_reducible apply toX); refine stX (k:=?_)) | with_reducible refine Ny.of ?_ ?_ | (refine Hyp.of ?_; intro hc; (try simp only [hc]); (try simp only [Bh] at hc)))); all_goals clear hF))
          refine stCall [encK a, encK b] (he := d3) (k:=?_)
          (focus (have hF := (And.intro (And.intro @hcs @eR) (And.intro @eQ (And.intro @g1 @g2))); (repeat' (first | with_reducible refine Nx.of ?_ | ((with_reducible apply toV); refine stV (k:=?_)) | ((with_reducible apply toG); refine stG (k:=?_)) | ((with_reducible apply toG0); refine stG0 (k:=?_)) | ((with_reducible apply toC); refine stC (k:=?_)) | ((with_reducible apply toO); refine stO (k:=?_)) | ((with_reducible apply toX); refine stX (k:=?_)) | with_reducible refine Ny.of ?_ ?_ | (refine Hyp.of ?_; intro hc; (try simp only [hc]); (try simp only [Bh] at hc)))); all_goals clear hF))
          refine stCall [encK a, encK b] (he := d4) (k:=?_)
          (focus (have hF := (And.intro (And.intro @hcs @eR) (And.intro @eQ (And.intro @g1 @g2))); (repeat' (first | with_reducible refine Nx.of ?_ | ((with_reducible apply toV); refine stV (k:=?_)) | ((with_reducible apply toG); refine stG (k:=?_)) | ((with_reducible apply toG0); refine stG0 (k:=?_)) | ((with_reducible apply toC); refine stC (k:=?_)) | ((with_reducible apply toO); refine stO (k:=?_)) | ((with_reducible apply toX); refine stX (k:=?_)) | with_reducible refine Ny.of ?_ ?_ | (refine Hyp.of ?_; intro hc; (try simp only [hc]); (try simp only [Bh] at hc)))); all_goals clear hF))
          (refine Fin.nextW (k + 1) ?_ (have hW := (And.intro @encEs_stb @encKs_stb); stWk); (try dsimp only))
          exact ⟨⟨hkr, hkq⟩, by omega⟩
        · (focus (have hF := (And.intro (And.intro @hcs @eR) (And.intro @eQ @g1)); (repeat' (first | with_reducible refine Nx.of ?_ | ((with_reducible apply toV); refine stV (k:=?_)) | ((with_reducible apply toG); refine stG (k:=?_)) | ((with_reducible apply toG0); refine stG0 (k:=?_)) | ((with_reducible apply toC); refine stC (k:=?_)) | ((with_reducible apply toO); refine stO (k:=?_)) | ((with_reducible apply toX); refine stX (k:=?_)) | with_reducible refine Ny.of ?_ ?_ | (refine Hyp.of ?_; intro hc; (try simp only [hc]); (try simp only [Bh] at hc)))); all_goals clear hF))
          exact Fin.tmp' rfl rfl
      · (focus (have hF := (And.intro @hcs (And.intro @eR @eQ)); (repeat' (first | with_reducible refine Nx.of ?_ | ((with_reducible apply toV); refine stV (k:=?_)) | ((with_reducible apply toG); refine stG (k:=?_)) | ((with_reducible apply toG0); refine stG0 (k:=?_)) | ((with_reducible apply toC); refine stC (k:=?_)) | ((with_reducible apply toO); refine stO (k:=?_)) | ((with_reducible apply toX); refine stX (k:=?_)) | with_reducible refine Ny.of ?_ ?_ | (refine Hyp.of ?_; intro hc; (try simp only [hc]); (try simp only [Bh] at hc)))); all_goals clear hF))
        exact Fin.tmp' rfl rfl

end Go.Proofs.YtpomanleabaafaaGreat.Avm
/-
  The law KeepForms holds: for every case of bulk at most 1048576 the call returns true and the case reads behind it as it read before.
-/
namespace Go.Proofs.YtpomanleabaafaaGreat.Avm
open Go.Proofs
theorem lifted_KeepForms (os : Os) (started : os.Started) (H : Type) (enc : TypeId × Value → H) (F : Stop.Interp) :
    ReturnsInHanded {} Tryz.checked os 3 .any ((Rows.OpenSpec.upto Rows.keepFormsSpec).pre6 enc Tryz.prog Tryz.f3 Rows.keepFormsUptoRow.domain false) (((Rows.OpenSpec.upto Rows.keepFormsSpec).at F).post enc Tryz.prog Tryz.f3 false true false false) := by
  refine returnsInHanded_of_cond (C := Tryz.checked) (s := Rows.OpenSpec.upto Rows.keepFormsSpec) (k := Rows.uptoSmall) rfl own started (by kernel_rfl) Tryz.func3
    (OpenSpec.witness (enc := enc) (C := Tryz.checked) (s := Rows.OpenSpec.upto Rows.keepFormsSpec) (k := Rows.uptoSmall) rfl false ⟨#[], #[.agg #[.slice none 0 0, .slice none 0 0, .slice none 0 0, .slice none 0 0, .slice none 0 0, .slice none 0 0, .slice none 0 0, .slice none 0 0]], []⟩ 8 (by kernel_rfl) (by kernel_rfl) (by kernel_rfl)
      (x := ([.agg [.nil, .nil, .nil, .nil, .agg [.nil, .nil], .agg [.nil, .nil]]], [], [])) (by kernel_rfl) rfl (by kernel_rfl)) ?_
  intro W base args ds gs before hval hW _ hk _
  exact contract_of (s := Rows.keepFormsSpec) Tryz.func3 Tryz.params3 (by kernel_rfl) Tryz.underlying4 Tryz.underlying29 (by kernel_rfl) (by kernel_rfl) (of_decide_eq_true (by kernel_rfl)) rfl (fun _ _ => rfl)
    op_CaseK (fun x _ hx => ev_k3 x (by unfold wtX at hx; omega)) H enc W base args ds gs before hval hW hk
theorem keepForms_holds : Rows.KeepFormsUptoSaid :=
  OpenClaim.holds_of_cond 3 Tryz.f3 rfl rfl rfl rfl rfl rfl rfl ⟨rfl, rfl, rfl, rfl, rfl⟩ rfl rfl rfl rfl rfl (by kernel_rfl) Tryz.func3 (by kernel_rfl)
    (of_decide_eq_true (by kernel_rfl)) (by unfold Func.isWrapper; first | (rw [if_pos (by decide +kernel)]; kernel_rfl) | (rw [if_neg (by decide +kernel)]; exact ⟨rfl, rfl⟩))
    (fun os started H enc _ F => lifted_KeepForms os started H enc F)
#print axioms keepForms_holds

end Go.Proofs.YtpomanleabaafaaGreat.Avm
