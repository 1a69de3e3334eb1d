/-
  The law KeepBars holds: for every case of bulk at most 1048576 the call returns true and the case reads behind it as it read before.
-/
import Derived.Test.YtpomanleabaafaaGreatK5
import Derived.Test.YtpomanleabaafaaGreatProg
import Derived.KernelRfl
set_option maxRecDepth 100000
set_option maxHeartbeats 4000000
set_option linter.unusedVariables false
set_option linter.unusedSimpArgs false
set_option linter.unusedSectionVars false
set_option linter.defProp false
namespace Go.Proofs.YtpomanleabaafaaGreat.Avm
open Go.Proofs
def keptK (l : List Rec) : List Rec := (l.filter fun r => !decide (sizeP r.past = 0)).map fun r => ⟨r.sku, normP r.past⟩
theorem keptK_take {l : List Rec} {i : Nat} {r : Rec} (h : l[i]? = some r) : keptK (l.take (i + 1)) = keptK (l.take i) ++ if sizeP r.past = 0 then [] else [⟨r.sku, normP r.past⟩] := by
  unfold keptK
  rw [List.take_add_one, h, List.filter_append, List.map_append]
  by_cases hc : sizeP r.past = 0 <;> simp [hc]
theorem keptK_len (l : List Rec) : (keptK l).length ≤ l.length := by
  unfold keptK
  rw [List.length_map]
  exact List.length_filter_le _ _
theorem ev_keepSort1 (l : List Rec) (hl : l.length ≤ 1000) (hw : ∀ r ∈ l, wt r.past ≤ 40000000) (hg : ∀ r ∈ l, r.sku.size = 0 ∨ goodS r.sku = true) (h1 : (keptK l).length ≤ 1) : Ev (En Tryz.prog rfl).P 12 [.sl 3 (encKs l)] (.ret (.tup [.sl 3 (encKs (keptK l)), .int .i64 0])) := by
  refine Ev.of_body it_keepSort (by simp) (Run.start ?_)
  unfold t_keepSort
  have e1 := encKs_len l
  have hS := stbK
  (focus (have hF := @e1; (repeat' (first | (with_reducible refine Nx.of ?_) | ((with_reducible apply toV); refine stV (k := ?_)) | ((with_reducible apply toG); refine stG (k := ?_)) | ((with_reducible apply toG0); refine stG0 (k := ?_)) | ((with_reducible apply toC); refine stC (k := ?_)) | ((with_reducible apply toO); refine stO (k := ?_)) | ((with_reducible apply toX); refine stX (k := ?_)) | (with_reducible refine Ny.of ?_ ?_) | (refine Hyp.of ?_; intro hc; (try simp only [hc]); (try simp only [Bh] at hc)) | fail)); (all_goals clear hF)))
  refine Run.wk (Wk.own_nil 4 30 3 rfl rfl) ?_
  refine Run.while (σ := Nat) (fun i => ⟨tms [(4, .os 30 (keptK (l.take i)).length), (7, .sl 3 (encKs l)), (8, .int .i64 l.length), (9, .int .i64 (i : Int))], mms [(30, .arr (keptK (l.take i)).length 3 (encKs (keptK (l.take i))))]⟩)
    (fun i => i ≤ l.length) (fun i => l.length - i) 0 (have hW := @encKs_stb; stWk) (Nat.zero_le _) ?_
  intro i hi
  unfold t_keepSort_l1
  by_cases hlt : i < l.length
  · obtain ⟨r, hr⟩ : ∃ r, l[i]? = some r := ⟨l[i], by simp [hlt]⟩
    have g1 := encKs_get hr
    have hst := keptK_take hr
    have hle := keptK_len (l.take i)
    have hle2 : (l.take i).length ≤ l.length := by rw [List.length_take]; omega
    generalize keptK (l.take i) = out at hst hle ⊢
    have e2 := encKs_len out
    have hwr := hw r (List.mem_of_getElem? hr)
    have c1 := ev_goodsGood r.sku
    have c2 := ev_pastEmpty r.past (by omega)
    have c3 := ev_keepclone r (by omega)
    have es := str_nil r.sku
    by_cases hz : r.sku.size = 0
    case' pos =>
      rw [eq_true hz] at es
      (focus (have hF := (And.intro (And.intro @e1 @e2) (And.intro @g1 @es)); (repeat' (first | (with_reducible refine Nx.of ?_) | ((with_reducible apply toV); refine stV (k := ?_)) | ((with_reducible apply toG); refine stG (k := ?_)) | ((with_reducible apply toG0); refine stG0 (k := ?_)) | ((with_reducible apply toC); refine stC (k := ?_)) | ((with_reducible apply toO); refine stO (k := ?_)) | ((with_reducible apply toX); refine stX (k := ?_)) | (with_reducible refine Ny.of ?_ ?_) | (refine Hyp.of ?_; intro hc; (try simp only [hc]); (try simp only [Bh] at hc)) | fail)); (all_goals clear hF)))
    case' neg =>
      rw [eq_false hz] at es
      rw [(hg r (List.mem_of_getElem? hr)).resolve_left hz] at c1
      (focus (have hF := (And.intro (And.intro @e1 @e2) (And.intro @g1 @es)); (repeat' (first | (with_reducible refine Nx.of ?_) | ((with_reducible apply toV); refine stV (k := ?_)) | ((with_reducible apply toG); refine stG (k := ?_)) | ((with_reducible apply toG0); refine stG0 (k := ?_)) | ((with_reducible apply toC); refine stC (k := ?_)) | ((with_reducible apply toO); refine stO (k := ?_)) | ((with_reducible apply toX); refine stX (k := ?_)) | (with_reducible refine Ny.of ?_ ?_) | (refine Hyp.of ?_; intro hc; (try simp only [hc]); (try simp only [Bh] at hc)) | fail)); (all_goals clear hF)))
      refine stCall [.str r.sku] (he := c1) (k := ?_)
      (focus (have hF := (And.intro (And.intro @e1 @e2) (And.intro @g1 @es)); (repeat' (first | (with_reducible refine Nx.of ?_) | ((with_reducible apply toV); refine stV (k := ?_)) | ((with_reducible apply toG); refine stG (k := ?_)) | ((with_reducible apply toG0); refine stG0 (k := ?_)) | ((with_reducible apply toC); refine stC (k := ?_)) | ((with_reducible apply toO); refine stO (k := ?_)) | ((with_reducible apply toX); refine stX (k := ?_)) | (with_reducible refine Ny.of ?_ ?_) | (refine Hyp.of ?_; intro hc; (try simp only [hc]); (try simp only [Bh] at hc)) | fail)); (all_goals clear hF)))
    all_goals
      refine stCall [encP r.past] (he := c2) (k := ?_)
      by_cases hs : sizeP r.past = 0
      · rw [if_pos hs, List.append_nil] at hst
        rw [decide_eq_true hs]
        (focus (have hF := (And.intro @e1 (And.intro @e2 @g1)); (repeat' (first | (with_reducible refine Nx.of ?_) | ((with_reducible apply toV); refine stV (k := ?_)) | ((with_reducible apply toG); refine stG (k := ?_)) | ((with_reducible apply toG0); refine stG0 (k := ?_)) | ((with_reducible apply toC); refine stC (k := ?_)) | ((with_reducible apply toO); refine stO (k := ?_)) | ((with_reducible apply toX); refine stX (k := ?_)) | (with_reducible refine Ny.of ?_ ?_) | (refine Hyp.of ?_; intro hc; (try simp only [hc]); (try simp only [Bh] at hc)) | fail)); (all_goals clear hF)))
        (refine Fin.nextW (i + 1) ?_ (have hW := (And.intro @encKs_stb @hst); stWk); (try dsimp only))
        omega
      · rw [if_neg hs] at hst
        rw [decide_eq_false hs]
        (focus (have hF := (And.intro @e1 (And.intro @e2 @g1)); (repeat' (first | (with_reducible refine Nx.of ?_) | ((with_reducible apply toV); refine stV (k := ?_)) | ((with_reducible apply toG); refine stG (k := ?_)) | ((with_reducible apply toG0); refine stG0 (k := ?_)) | ((with_reducible apply toC); refine stC (k := ?_)) | ((with_reducible apply toO); refine stO (k := ?_)) | ((with_reducible apply toX); refine stX (k := ?_)) | (with_reducible refine Ny.of ?_ ?_) | (refine Hyp.of ?_; intro hc; (try simp only [hc]); (try simp only [Bh] at hc)) | fail)); (all_goals clear hF)))
        refine stCall [encK r] (he := c3) (k := ?_)
        unfold encK
        (focus (have hF := (And.intro @e1 (And.intro @e2 @g1)); (repeat' (first | (with_reducible refine Nx.of ?_) | ((with_reducible apply toV); refine stV (k := ?_)) | ((with_reducible apply toG); refine stG (k := ?_)) | ((with_reducible apply toG0); refine stG0 (k := ?_)) | ((with_reducible apply toC); refine stC (k := ?_)) | ((with_reducible apply toO); refine stO (k := ?_)) | ((with_reducible apply toX); refine stX (k := ?_)) | (with_reducible refine Ny.of ?_ ?_) | (refine Hyp.of ?_; intro hc; (try simp only [hc]); (try simp only [Bh] at hc)) | fail)); (all_goals clear hF)))
        (refine Fin.nextW (i + 1) ?_ (have hW := (And.intro @encKs_stb (And.intro @hst @encKs_snoc)); stWk); (try dsimp only))
        omega
  · rw [List.take_of_length_le (show l.length ≤ i by omega)]
    refine Run.wk (Wk.give ⟨no_of_stb (encKs_stb l), rfl, rfl, trivial⟩ trivial rfl (encKs_stb _)) ?_
    have hk := encKs_len (keptK l)
    have c1 := ev_sort1 (encKs (keptK l)) (by omega) 19 (encKs_stb _)
    have c2 := ev_compact1 (encKs (keptK l)) (by omega) 59 (encKs_stb _)
    generalize keptK l = out at *
    (focus (have hF := (And.intro @e1 @hk); (repeat' (first | (with_reducible refine Nx.of ?_) | ((with_reducible apply toV); refine stV (k := ?_)) | ((with_reducible apply toG); refine stG (k := ?_)) | ((with_reducible apply toG0); refine stG0 (k := ?_)) | ((with_reducible apply toC); refine stC (k := ?_)) | ((with_reducible apply toO); refine stO (k := ?_)) | ((with_reducible apply toX); refine stX (k := ?_)) | (with_reducible refine Ny.of ?_ ?_) | (refine Hyp.of ?_; intro hc; (try simp only [hc]); (try simp only [Bh] at hc)) | fail)); (all_goals clear hF)))
    refine stCall [.sl 3 (encKs out), .fn 19 []] (he := c1) (k := ?_)
    (focus (have hF := (And.intro @e1 @hk); (repeat' (first | (with_reducible refine Nx.of ?_) | ((with_reducible apply toV); refine stV (k := ?_)) | ((with_reducible apply toG); refine stG (k := ?_)) | ((with_reducible apply toG0); refine stG0 (k := ?_)) | ((with_reducible apply toC); refine stC (k := ?_)) | ((with_reducible apply toO); refine stO (k := ?_)) | ((with_reducible apply toX); refine stX (k := ?_)) | (with_reducible refine Ny.of ?_ ?_) | (refine Hyp.of ?_; intro hc; (try simp only [hc]); (try simp only [Bh] at hc)) | fail)); (all_goals clear hF)))
    refine stCall [.sl 3 (encKs out), .fn 59 []] (he := c2) (k := ?_)
    (focus (have hF := (And.intro @e1 @hk); (repeat' (first | (with_reducible refine Nx.of ?_) | ((with_reducible apply toV); refine stV (k := ?_)) | ((with_reducible apply toG); refine stG (k := ?_)) | ((with_reducible apply toG0); refine stG0 (k := ?_)) | ((with_reducible apply toC); refine stC (k := ?_)) | ((with_reducible apply toO); refine stO (k := ?_)) | ((with_reducible apply toX); refine stX (k := ?_)) | (with_reducible refine Ny.of ?_ ?_) | (refine Hyp.of ?_; intro hc; (try simp only [hc]); (try simp only [Bh] at hc)) | fail)); (all_goals clear hF)))
    exact Fin.two rfl (encKs_stb _) rfl rfl (.inl rfl) (.inl rfl)
theorem sameP_self (p : Pst) : sameP p p = true := sameP_true ⟨rfl, rfl⟩
theorem ev_ref04SameRecords (l : List Rec) (hl : l.length ≤ 1000000000) (hw : ∀ r ∈ l, wt r.past ≤ 900000000) : Ev (En Tryz.prog rfl).P 16 [.sl 3 (encKs l), .sl 3 (encKs l)] (.ret (.bool true)) := by
  refine Ev.of_body it_ref04SameRecords (by simp) (Run.start ?_)
  unfold t_ref04SameRecords
  have e1 := encKs_len l
  have hS := stbK
  (focus (have hF := @e1; (repeat' (first | (with_reducible refine Nx.of ?_) | ((with_reducible apply toV); refine stV (k := ?_)) | ((with_reducible apply toG); refine stG (k := ?_)) | ((with_reducible apply toG0); refine stG0 (k := ?_)) | ((with_reducible apply toC); refine stC (k := ?_)) | ((with_reducible apply toO); refine stO (k := ?_)) | ((with_reducible apply toX); refine stX (k := ?_)) | (with_reducible refine Ny.of ?_ ?_) | (refine Hyp.of ?_; intro hc; (try simp only [hc]); (try simp only [Bh] at hc)) | fail)); (all_goals clear hF)))
  refine Run.while (σ := Nat) (fun i => ⟨tms [(0, .sl 3 (encKs l)), (1, .sl 3 (encKs l)), (5, .int .i64 (i : Int))], mms []⟩)
    (fun i => i ≤ l.length) (fun i => l.length - i) 0 (have hW := @encKs_stb; stWk) (Nat.zero_le _) ?_
  intro i hi
  unfold t_ref04SameRecords_l1
  by_cases hlt : i < l.length
  · obtain ⟨r, hr⟩ : ∃ r, l[i]? = some r := ⟨l[i], by simp [hlt]⟩
    have g1 := encKs_get hr
    have hwr := hw r (List.mem_of_getElem? hr)
    unfold wt at hwr
    have c1 := ev_ref04Same r.past r.past (by omega) (by omega)
    rw [sameP_self] at c1
    (focus (have hF := (And.intro @e1 @g1); (repeat' (first | (with_reducible refine Nx.of ?_) | ((with_reducible apply toV); refine stV (k := ?_)) | ((with_reducible apply toG); refine stG (k := ?_)) | ((with_reducible apply toG0); refine stG0 (k := ?_)) | ((with_reducible apply toC); refine stC (k := ?_)) | ((with_reducible apply toO); refine stO (k := ?_)) | ((with_reducible apply toX); refine stX (k := ?_)) | (with_reducible refine Ny.of ?_ ?_) | (refine Hyp.of ?_; intro hc; (try simp only [hc]); (try simp only [Bh] at hc)) | fail)); (all_goals clear hF)))
    refine stCall [encP r.past, encP r.past] (he := c1) (k := ?_)
    (focus (have hF := (And.intro @e1 @g1); (repeat' (first | (with_reducible refine Nx.of ?_) | ((with_reducible apply toV); refine stV (k := ?_)) | ((with_reducible apply toG); refine stG (k := ?_)) | ((with_reducible apply toG0); refine stG0 (k := ?_)) | ((with_reducible apply toC); refine stC (k := ?_)) | ((with_reducible apply toO); refine stO (k := ?_)) | ((with_reducible apply toX); refine stX (k := ?_)) | (with_reducible refine Ny.of ?_ ?_) | (refine Hyp.of ?_; intro hc; (try simp only [hc]); (try simp only [Bh] at hc)) | fail)); (all_goals clear hF)))
    (refine Fin.nextW (i + 1) ?_ (have hW := @encKs_stb; stWk); (try dsimp only))
    omega
  · (focus (have hF := @e1; (repeat' (first | (with_reducible refine Nx.of ?_) | ((with_reducible apply toV); refine stV (k := ?_)) | ((with_reducible apply toG); refine stG (k := ?_)) | ((with_reducible apply toG0); refine stG0 (k := ?_)) | ((with_reducible apply toC); refine stC (k := ?_)) | ((with_reducible apply toO); refine stO (k := ?_)) | ((with_reducible apply toX); refine stX (k := ?_)) | (with_reducible refine Ny.of ?_ ?_) | (refine Hyp.of ?_; intro hc; (try simp only [hc]); (try simp only [Bh] at hc)) | fail)); (all_goals clear hF)))
    exact Fin.tmp' rfl rfl
theorem ev_ref04SameEntries (l : List Ent) (hl : l.length ≤ 1000000000) : Ev (En Tryz.prog rfl).P 23 [.sl 4 (encEs l), .sl 4 (encEs l)] (.ret (.bool true)) := by
  refine Ev.of_body it_ref04SameEntries (by simp) (Run.start ?_)
  unfold t_ref04SameEntries
  have e1 := encEs_len l
  have hS := stbK
  (focus (have hF := @e1; (repeat' (first | (with_reducible refine Nx.of ?_) | ((with_reducible apply toV); refine stV (k := ?_)) | ((with_reducible apply toG); refine stG (k := ?_)) | ((with_reducible apply toG0); refine stG0 (k := ?_)) | ((with_reducible apply toC); refine stC (k := ?_)) | ((with_reducible apply toO); refine stO (k := ?_)) | ((with_reducible apply toX); refine stX (k := ?_)) | (with_reducible refine Ny.of ?_ ?_) | (refine Hyp.of ?_; intro hc; (try simp only [hc]); (try simp only [Bh] at hc)) | fail)); (all_goals clear hF)))
  refine Run.while (σ := Nat) (fun i => ⟨tms [(0, .sl 4 (encEs l)), (1, .sl 4 (encEs l)), (5, .int .i64 (i : Int))], mms []⟩)
    (fun i => i ≤ l.length) (fun i => l.length - i) 0 (have hW := @encEs_stb; stWk) (Nat.zero_le _) ?_
  intro i hi
  unfold t_ref04SameEntries_l1
  by_cases hlt : i < l.length
  · obtain ⟨r, hr⟩ : ∃ r, l[i]? = some r := ⟨l[i], by simp [hlt]⟩
    have g1 := encEs_get hr
    (focus (have hF := (And.intro @e1 @g1); (repeat' (first | (with_reducible refine Nx.of ?_) | ((with_reducible apply toV); refine stV (k := ?_)) | ((with_reducible apply toG); refine stG (k := ?_)) | ((with_reducible apply toG0); refine stG0 (k := ?_)) | ((with_reducible apply toC); refine stC (k := ?_)) | ((with_reducible apply toO); refine stO (k := ?_)) | ((with_reducible apply toX); refine stX (k := ?_)) | (with_reducible refine Ny.of ?_ ?_) | (refine Hyp.of ?_; intro hc; (try simp only [hc]); (try simp only [Bh] at hc)) | fail)); (all_goals clear hF)))
    (refine Fin.nextW (i + 1) ?_ (have hW := @encEs_stb; stWk); (try dsimp only))
    omega
  · (focus (have hF := @e1; (repeat' (first | (with_reducible refine Nx.of ?_) | ((with_reducible apply toV); refine stV (k := ?_)) | ((with_reducible apply toG); refine stG (k := ?_)) | ((with_reducible apply toG0); refine stG0 (k := ?_)) | ((with_reducible apply toC); refine stC (k := ?_)) | ((with_reducible apply toO); refine stO (k := ?_)) | ((with_reducible apply toX); refine stX (k := ?_)) | (with_reducible refine Ny.of ?_ ?_) | (refine Hyp.of ?_; intro hc; (try simp only [hc]); (try simp only [Bh] at hc)) | fail)); (all_goals clear hF)))
    exact Fin.tmp' rfl rfl

def Wkn (x y : AVal) : Prop := ∀ (D : Nat → Nat → Prop) (G : Gh) (B : Nat → Prop) (w : World) (v : Value), VR D G B w x v → VR D G B w y v
theorem Wkn.refl (x : AVal) : Wkn x x := fun _ _ _ _ _ h => h
theorem Wkn.nil (sz : Nat) : Wkn .nil (.sl sz []) := fun D G B w v h => by
  cases h
  exact .slnil sz
def Wkns : List AVal → List AVal → Prop
  | [], [] => True
  | a :: l, b :: m => Wkn a b ∧ Wkns l m
  | _, _ => False
theorem Wkns.len : ∀ {l m : List AVal}, Wkns l m → l.length = m.length
  | [], [], _ => rfl
  | a :: l, b :: m, h => by rw [List.length_cons, List.length_cons, Wkns.len h.2]
  | [], _ :: _, h => h.elim
  | _ :: _, [], h => h.elim
theorem Wkns.get : ∀ {l m : List AVal}, Wkns l m → ∀ (i : Nat) (y : AVal), m[i]? = some y → ∃ x, l[i]? = some x ∧ Wkn x y
  | [], [], _, i, y, h => by simp at h
  | a :: l, b :: m, hw, 0, y, h => by
    simp only [List.getElem?_cons_zero, Option.some.injEq] at h
    subst h
    exact ⟨a, rfl, hw.1⟩
  | a :: l, b :: m, hw, i + 1, y, h => by
    obtain ⟨x, hx, hxy⟩ := Wkns.get hw.2 i y (by simpa using h)
    exact ⟨x, by simpa using hx, hxy⟩
  | [], _ :: _, h, _, _, _ => h.elim
  | _ :: _, [], h, _, _, _ => h.elim
theorem Wkns.refl : ∀ l : List AVal, Wkns l l
  | [] => trivial
  | a :: l => ⟨Wkn.refl a, Wkns.refl l⟩
theorem Wkn.agg {l m : List AVal} (h : Wkns l m) : Wkn (.agg l) (.agg m) := fun D G B w v hv => by
  cases hv with
  | agg cs vs hl hh =>
    refine .agg m vs (by rw [hl, h.len]) fun n x u hx hu => ?_
    obtain ⟨y, hy, hyx⟩ := h.get n x hx
    exact hyx D G B w u (hh n y u hy hu)
theorem Ev.wks {P : Program} {f : FuncId} {l m : List AVal} {out : Out} (he : Ev P f m out) (h : Wkns l m) : Ev P f l out :=
  ⟨he.1, fun B w vs G ho hs hv hb => he.2 B w vs G ho (by rw [hs, h.len]) (fun i y v hy hvv => by
    obtain ⟨x, hx, hxy⟩ := h.get i y hy
    exact hxy _ G B w v (hv i x v hx hvv)) hb⟩

def r_law07fixed_1 : List SOp :=
  [⟨(some 0), (.assign (.const (.bool false))), none⟩]
instance : Live r_law07fixed_1 := ⟨[]⟩
def r_law07fixed_2 : List SOp :=
  [⟨(some 6), (.buildSlice 24 3 #[(0, .const (.int .i64 0)), (1, .const (.int .i64 0)), (2, .const (.int .i64 0))]), none⟩, ⟨(some 7), (.build 89 #[(0, .const (.int .i64 0)), (1, .const (.int .i64 1)), (2, .const (.int .i64 2))]), none⟩, ⟨(some 8), (.buildSlice 25 1 #[(0, .tmp 7)]), none⟩, ⟨(some 9), (.build 27 #[(0, .tmp 6), (1, .tmp 8)]), none⟩, ⟨(some 10), (.build 39 #[(0, .const (.string ⟨#[66]⟩)), (1, .tmp 9)]), none⟩, ⟨(some 11), (.build 27 #[]), none⟩, ⟨(some 12), (.build 39 #[(0, .const (.string ⟨#[65]⟩)), (1, .tmp 11)]), none⟩, ⟨(some 13), (.buildSlice 22 2 #[(0, .tmp 10), (1, .tmp 12)]), none⟩, ⟨(some 1), (.assign (.tmp 13)), none⟩]
instance : Live r_law07fixed_2 := ⟨[]⟩
def r_law07fixed_3 : List SOp :=
  [⟨(some 15), (.move (.tmp 1)), none⟩, ⟨(some 16), (.call ⟨.value (.func 12), #[.tmp 15], #[22]⟩), none⟩, ⟨(some 14), (.move (.tmp 16)), none⟩, ⟨(some 17), (.extract (.tmp 14) 0), none⟩, ⟨(some 18), (.extract (.tmp 14) 1), none⟩, ⟨(some 2), (.assign (.tmp 17)), none⟩, ⟨(some 3), (.assign (.tmp 18)), none⟩]
instance : Live r_law07fixed_3 := ⟨[1]⟩
def r_law07fixed_4 : List SOp :=
  [⟨(some 19), (.move (.tmp 3)), none⟩, ⟨(some 20), (.binOp .neq 32 (.tmp 19) (.const (.int .i64 0)) 32), none⟩, ⟨(some 21), (.move (.tmp 20)), none⟩, ⟨(some 22), (.move (.tmp 2)), (some ((some 21), false))⟩, ⟨(some 23), (.buildSlice 24 1 #[(0, .const (.int .i64 2))]), (some ((some 21), false))⟩, ⟨(some 24), (.build 27 #[(0, .tmp 23)]), (some ((some 21), false))⟩, ⟨(some 25), (.build 39 #[(0, .const (.string ⟨#[66]⟩)), (1, .tmp 24)]), (some ((some 21), false))⟩, ⟨(some 26), (.buildSlice 22 1 #[(0, .tmp 25)]), (some ((some 21), false))⟩, ⟨(some 27), (.call ⟨.value (.func 16), #[.tmp 22, .tmp 26], #[22, 22]⟩), (some ((some 21), false))⟩, ⟨(some 28), (.unOp .not 4 (.tmp 27)), (some ((some 21), false))⟩, ⟨(some 29), (.pick (.tmp 21) (.const (.bool true)) (.tmp 28)), none⟩]
instance : Live r_law07fixed_4 := ⟨[2, 3]⟩
def r_law07fixed_5 : List SOp :=
  [⟨(some 0), (.assign (.const (.bool false))), none⟩]
instance : Live r_law07fixed_5 := ⟨[]⟩
def r_law07fixed_6 : List SOp :=
  [⟨(some 30), (.build 47 #[(0, .const (.int .i64 0)), (1, .const (.int .i64 2))]), none⟩, ⟨(some 31), (.build 49 #[(0, .tmp 30), (1, .const (.string ⟨#[65]⟩)), (2, .const (.int .i64 5))]), none⟩, ⟨(some 32), (.build 47 #[(0, .const (.int .i64 0)), (1, .const (.int .i64 3))]), none⟩, ⟨(some 33), (.build 49 #[(0, .tmp 32), (1, .const (.string ⟨#[66]⟩)), (2, .const (.int .i64 1))]), none⟩, ⟨(some 34), (.buildSlice 23 2 #[(0, .tmp 31), (1, .tmp 33)]), none⟩, ⟨(some 4), (.assign (.tmp 34)), none⟩]
instance : Live r_law07fixed_6 := ⟨[]⟩
def r_law07fixed_7 : List SOp :=
  [⟨(some 36), (.move (.tmp 4)), none⟩, ⟨(some 37), (.buildSlice 24 1 #[(0, .const (.int .i64 2))]), none⟩, ⟨(some 38), (.build 27 #[(0, .tmp 37)]), none⟩, ⟨(some 39), (.build 39 #[(0, .const (.string ⟨#[65]⟩)), (1, .tmp 38)]), none⟩, ⟨(some 40), (.buildSlice 22 1 #[(0, .tmp 39)]), none⟩, ⟨(some 41), (.call ⟨.value (.func 21), #[.tmp 36, .tmp 40], #[23, 22]⟩), none⟩, ⟨(some 35), (.move (.tmp 41)), none⟩, ⟨(some 42), (.extract (.tmp 35) 0), none⟩, ⟨(some 43), (.extract (.tmp 35) 1), none⟩, ⟨(some 5), (.assign (.tmp 42)), none⟩, ⟨(some 3), (.assign (.tmp 43)), none⟩]
instance : Live r_law07fixed_7 := ⟨[4]⟩
def r_law07fixed_8 : List SOp :=
  [⟨(some 44), (.move (.tmp 3)), none⟩, ⟨(some 45), (.binOp .eql 32 (.tmp 44) (.const (.int .i64 0)) 32), none⟩, ⟨(some 46), (.move (.tmp 45)), none⟩, ⟨(some 47), (.move (.tmp 5)), (some ((some 46), true))⟩, ⟨(some 48), (.move (.tmp 4)), (some ((some 46), true))⟩, ⟨(some 49), (.slice 23 (.tmp 48) (some (.const (.int .i64 1))) none none), (some ((some 46), true))⟩, ⟨(some 50), (.call ⟨.value (.func 23), #[.tmp 47, .tmp 49], #[23, 23]⟩), (some ((some 46), true))⟩, ⟨(some 51), (.pick (.tmp 46) (.tmp 50) (.const (.bool false))), none⟩, ⟨(some 52), (.move (.tmp 51)), none⟩, ⟨(some 53), (.build 39 #[(0, .const (.string ⟨#[97]⟩))]), (some ((some 52), true))⟩, ⟨(some 54), (.buildSlice 22 1 #[(0, .tmp 53)]), (some ((some 52), true))⟩, ⟨(some 55), (.call ⟨.value (.func 14), #[.tmp 54], #[22]⟩), (some ((some 52), true))⟩, ⟨(some 56), (.binOp .eql 32 (.tmp 55) (.const (.int .i64 1)) 32), (some ((some 52), true))⟩, ⟨(some 57), (.pick (.tmp 52) (.tmp 56) (.const (.bool false))), none⟩, ⟨(some 0), (.assign (.tmp 57)), none⟩]
instance : Live r_law07fixed_8 := ⟨[3, 4, 5]⟩
def t_law07fixed : SC :=
  (.seq (.ops false r_law07fixed_1) (.seq (.ops false r_law07fixed_2) (.seq (.ops false r_law07fixed_3) (.seq (.seq (.ops false r_law07fixed_4) (.cond (.tmp 29) (.seq (.ops false r_law07fixed_5) .ret) .skip)) (.seq (.ops false r_law07fixed_6) (.seq (.ops false r_law07fixed_7) (.seq (.ops false r_law07fixed_8) .ret)))))))
theorem it_law07fixed : FnIs Tryz.prog 11 58 [.tmp 0] t_law07fixed := ⟨Tryz.f11, _, Tryz.func11, rfl, rfl, rfl, rfl, by kernel_rfl⟩

theorem Wkn.sl {sz : Nat} {xs ys : List AVal} (hl : xs.length = ys.length) (hf : Wkns (flat xs) (flat ys)) (h1 : ∀ x ∈ flat ys, x.one = true) (h2 : ∀ x ∈ ys, x.cells.length = sz) : Wkn (.sl sz xs) (.sl sz ys) := fun D G B w v h => by
  cases h with
  | slnil =>
    have : ys = [] := List.length_eq_zero_iff.1 hl.symm
    subst this
    exact .slnil sz
  | slemp _ a cap =>
    have : ys = [] := List.length_eq_zero_iff.1 hl.symm
    subst this
    exact .slemp sz a cap
  | sl _ _ b off cap f hcap hB hone hsz hc hv =>
    have hne : flat ys ≠ [] → flat xs ≠ [] := fun h h' => h (List.length_eq_zero_iff.1 (by rw [← hf.len, h']; rfl))
    have hg := fun n y (hy : (flat ys)[n]? = some y) => hf.get n y hy
    rw [hl]
    refine .sl sz ys b off cap f (by omega) (fun h => hB (hne h)) h1 h2 (fun n y hy => ?_) (fun n y hy => ?_)
    · obtain ⟨x, hx, _⟩ := hg n y hy
      exact hc n x hx
    · obtain ⟨x, hx, hxy⟩ := hg n y hy
      exact hxy D G B w _ (hv n x hx)
def sB : ByteArray := ⟨#[66]⟩
def sA : ByteArray := ⟨#[65]⟩
def sa : ByteArray := ⟨#[97]⟩
def kp0 : Pst := ⟨[0, 0, 0], [(0, 1, 2)]⟩
def kp1 : Pst := ⟨[2], []⟩
theorem rows0 : (openT [⟨[], []⟩]).map normR = [[], [], [], [], [], [], [], [], [], [], [], [], [], [], [], []] := by
  have h : openT [⟨[], []⟩] = [[], [], [], [], [], [], [], [], [], [], [], [], [], [], [], []] := by decide
  rw [h]
  have n0 : normR [] = [] := normR_of_can Can.nil
  simp only [List.map_cons, List.map_nil, n0]
theorem rows1 : (openT [kp0]).map normR = [[(1, 2)], [], [], [], [], [], [], [], [], [], [], [], [], [], [], []] := by
  have h : openT [kp0] = [[(1, 0), (1, 2)], [(1, 0)], [(1, 0)], [], [], [], [], [], [], [], [], [], [], [], [], []] := by decide
  rw [h]
  have n0 : normR [] = [] := normR_of_can Can.nil
  have n1 : normR [(1, 0), (1, 2)] = [(1, 2)] := (normR_sorted (c := [(1, 2)]) (by decide) (by simp)).trans (by decide)
  have n2 : normR [(1, 0)] = [] := (normR_sorted (c := []) (by decide) (by simp)).trans (by decide)
  simp only [List.map_cons, List.map_nil, n0, n1, n2]
theorem rows2 : (openT [kp1]).map normR = [[(1, 2)], [], [], [], [], [], [], [], [], [], [], [], [], [], [], []] := by
  have h : openT [kp1] = [[(1, 2)], [], [], [], [], [], [], [], [], [], [], [], [], [], [], []] := by decide
  rw [h]
  have n0 : normR [] = [] := normR_of_can Can.nil
  have n1 : normR [(1, 2)] = [(1, 2)] := (normR_sorted (c := [(1, 2)]) (by decide) (by simp)).trans (by decide)
  simp only [List.map_cons, List.map_nil, n0, n1]
theorem kp0_norm : normP kp0 = kp1 := by unfold normP; rw [pastT_N, rows1]; rfl
theorem kp1_norm : normP kp1 = kp1 := by unfold normP; rw [pastT_N, rows2]; rfl
theorem kp0_size : sizeP kp0 = 2 := by
  unfold sizeP sizeTab
  simp only [getD_norm, rows1]
  rfl
theorem kp1_size : sizeP kp1 = 2 := by
  unfold sizeP sizeTab
  simp only [getD_norm, rows2]
  rfl
theorem kpe_size : sizeP ⟨[], []⟩ = 0 := by
  unfold sizeP sizeTab
  simp only [getD_norm, rows0]
  rfl
theorem kp1_can : isNormP kp1 = true := isNormP_iff.2 kp1_norm
theorem good_B : goodS sB = true := by decide +kernel
theorem good_A : goodS sA = true := by decide +kernel
theorem good_a : goodS sa = false := by decide +kernel
def rs0 : List Rec := [⟨sB, kp0⟩, ⟨sA, ⟨[], []⟩⟩]
def rs1 : List Rec := [⟨sB, kp1⟩]
def rs2 : List Rec := [⟨sA, kp1⟩]
def rs3 : List Rec := [⟨sa, ⟨[], []⟩⟩]
def en1 : Ent := ⟨0, 2, sA, 5⟩
def en2 : Ent := ⟨0, 3, sB, 1⟩
theorem kept0 : keptK rs0 = rs1 := by
  unfold keptK rs0 rs1
  simp [kp0_size, kpe_size, kp0_norm]
theorem ent1 : entErr en1 = 0 := by unfold entErr; simp [en1, good_A]
theorem ent2 : entErr en2 = 0 := by unfold entErr; simp [en2, good_B]
theorem form_es : formE [en1, en2] = true := formE_true ⟨fun i e h => by
    match i with
    | 0 => simp at h; subst h; exact ent1
    | 1 => simp at h; subst h; exact ent2
    | i + 2 => simp at h, fun i a b h h' => by
    match i with
    | 0 => simp at h h'; subst h; subst h'; decide
    | i + 1 => simp at h'⟩
theorem form_rs2 : formK rs2 = true := formK_true ⟨fun i r h => by
    match i with
    | 0 => simp [rs2] at h; subst h; unfold recErr; simp [good_A, kp1_can, kp1_size]
    | i + 1 => simp [rs2] at h, fun i a b h h' => by simp [rs2] at h'⟩
theorem form_rs3 : formK rs3 = false := formK_false fun h => by
  have := h.1 0 _ rfl
  unfold recErr at this
  rw [good_a] at this
  revert this
  decide
theorem left_es : leftE rs2 [en1, en2] = [en2] := by
  have h1 : barsK rs2 en1 = 1 := by decide +kernel
  have h2 : barsK rs2 en2 = 0 := by decide +kernel
  unfold leftE
  simp [h1, h2]
theorem ev_law07fixed : Ev (En Tryz.prog rfl).P 11 [] (.ret (.bool true)) := by
  refine Ev.of_body it_law07fixed (by simp) (Run.start ?_)
  unfold t_law07fixed
  have hS := stbK
  have c1 := ev_keepSort1 rs0 (by decide) (by decide) (fun r hr => by simp [rs0] at hr; rcases hr with rfl | rfl; exact .inr good_B; exact .inr good_A) (by rw [kept0]; decide)
  rw [kept0] at c1
  replace c1 : Ev (En Tryz.prog rfl).P 12 [.sl 3 [.agg [.str sB, .sl 1 (encIs [0, 0, 0]), .sl 3 (encSs [(0, 1, 2)])], .agg [.str sA, .nil, .nil]]] _ := c1.wks ⟨Wkn.sl rfl ⟨Wkn.refl _, Wkn.refl _, Wkn.refl _, Wkn.refl _, Wkn.nil 1, Wkn.nil 3, trivial⟩ (by decide) (by decide), trivial⟩
  have c2 := ev_ref04SameRecords rs1 (by decide) (by decide)
  replace c2 : Ev (En Tryz.prog rfl).P 16 [.sl 3 (encKs rs1), .sl 3 [.agg [.str sB, .sl 1 (encIs [2]), .nil]]] _ := c2.wks ⟨Wkn.refl _, Wkn.sl rfl ⟨Wkn.refl _, Wkn.refl _, Wkn.nil 3, trivial⟩ (by decide) (by decide), trivial⟩
  have c3 := ev_keepApply [en1, en2] rs2 (by decide) (by decide)
  rw [if_pos ⟨form_es, form_rs2⟩, if_pos ⟨form_es, form_rs2⟩, left_es] at c3
  replace c3 : Ev (En Tryz.prog rfl).P 21 [.sl 4 (encEs [en1, en2]), .sl 3 [.agg [.str sA, .sl 1 (encIs [2]), .nil]]] _ := c3.wks ⟨Wkn.refl _, Wkn.sl rfl ⟨Wkn.refl _, Wkn.refl _, Wkn.nil 3, trivial⟩ (by decide) (by decide), trivial⟩
  have c4 := ev_ref04SameEntries [en2] (by decide)
  have c5 := ev_keepCheck rs3 (by decide)
  rw [form_rs3] at c5
  replace c5 : Ev (En Tryz.prog rfl).P 14 [.sl 3 [.agg [.str sa, .nil, .nil]]] _ := c5.wks ⟨Wkn.sl rfl ⟨Wkn.refl _, Wkn.nil 1, Wkn.nil 3, trivial⟩ (by decide) (by decide), trivial⟩
  (focus (have hF := True.intro; (repeat' (first | (with_reducible refine Nx.of ?_) | ((with_reducible apply toV); refine stV (k := ?_)) | ((with_reducible apply toG); refine stG (k := ?_)) | ((with_reducible apply toG0); refine stG0 (k := ?_)) | ((with_reducible apply toC); refine stC (k := ?_)) | ((with_reducible apply toO); refine stO (k := ?_)) | ((with_reducible apply toX); refine stX (k := ?_)) | (with_reducible refine Ny.of ?_ ?_) | (refine Hyp.of ?_; intro hc; (try simp only [hc]); (try simp only [Bh] at hc)) | fail)); (all_goals clear hF)))
  refine stCall [.sl 3 [.agg [.str sB, .sl 1 (encIs [0, 0, 0]), .sl 3 (encSs [(0, 1, 2)])], .agg [.str sA, .nil, .nil]]] (he := c1) (k := ?_)
  (focus (have hF := True.intro; (repeat' (first | (with_reducible refine Nx.of ?_) | ((with_reducible apply toV); refine stV (k := ?_)) | ((with_reducible apply toG); refine stG (k := ?_)) | ((with_reducible apply toG0); refine stG0 (k := ?_)) | ((with_reducible apply toC); refine stC (k := ?_)) | ((with_reducible apply toO); refine stO (k := ?_)) | ((with_reducible apply toX); refine stX (k := ?_)) | (with_reducible refine Ny.of ?_ ?_) | (refine Hyp.of ?_; intro hc; (try simp only [hc]); (try simp only [Bh] at hc)) | fail)); (all_goals clear hF)))
  refine stCall [.sl 3 (encKs rs1), .sl 3 [.agg [.str sB, .sl 1 (encIs [2]), .nil]]] (he := c2) (k := ?_)
  (focus (have hF := True.intro; (repeat' (first | (with_reducible refine Nx.of ?_) | ((with_reducible apply toV); refine stV (k := ?_)) | ((with_reducible apply toG); refine stG (k := ?_)) | ((with_reducible apply toG0); refine stG0 (k := ?_)) | ((with_reducible apply toC); refine stC (k := ?_)) | ((with_reducible apply toO); refine stO (k := ?_)) | ((with_reducible apply toX); refine stX (k := ?_)) | (with_reducible refine Ny.of ?_ ?_) | (refine Hyp.of ?_; intro hc; (try simp only [hc]); (try simp only [Bh] at hc)) | fail)); (all_goals clear hF)))
  refine stCall [.sl 4 (encEs [en1, en2]), .sl 3 [.agg [.str sA, .sl 1 (encIs [2]), .nil]]] (he := c3) (k := ?_)
  (focus (have hF := True.intro; (repeat' (first | (with_reducible refine Nx.of ?_) | ((with_reducible apply toV); refine stV (k := ?_)) | ((with_reducible apply toG); refine stG (k := ?_)) | ((with_reducible apply toG0); refine stG0 (k := ?_)) | ((with_reducible apply toC); refine stC (k := ?_)) | ((with_reducible apply toO); refine stO (k := ?_)) | ((with_reducible apply toX); refine stX (k := ?_)) | (with_reducible refine Ny.of ?_ ?_) | (refine Hyp.of ?_; intro hc; (try simp only [hc]); (try simp only [Bh] at hc)) | fail)); (all_goals clear hF)))
  refine stCall [.sl 4 (encEs [en2]), .sl 4 (encEs [en2])] (he := c4) (k := ?_)
  (focus (have hF := True.intro; (repeat' (first | (with_reducible refine Nx.of ?_) | ((with_reducible apply toV); refine stV (k := ?_)) | ((with_reducible apply toG); refine stG (k := ?_)) | ((with_reducible apply toG0); refine stG0 (k := ?_)) | ((with_reducible apply toC); refine stC (k := ?_)) | ((with_reducible apply toO); refine stO (k := ?_)) | ((with_reducible apply toX); refine stX (k := ?_)) | (with_reducible refine Ny.of ?_ ?_) | (refine Hyp.of ?_; intro hc; (try simp only [hc]); (try simp only [Bh] at hc)) | fail)); (all_goals clear hF)))
  refine stCall [.sl 3 [.agg [.str sa, .nil, .nil]]] (he := c5) (k := ?_)
  (focus (have hF := True.intro; (repeat' (first | (with_reducible refine Nx.of ?_) | ((with_reducible apply toV); refine stV (k := ?_)) | ((with_reducible apply toG); refine stG (k := ?_)) | ((with_reducible apply toG0); refine stG0 (k := ?_)) | ((with_reducible apply toC); refine stC (k := ?_)) | ((with_reducible apply toO); refine stO (k := ?_)) | ((with_reducible apply toX); refine stX (k := ?_)) | (with_reducible refine Ny.of ?_ ?_) | (refine Hyp.of ?_; intro hc; (try simp only [hc]); (try simp only [Bh] at hc)) | fail)); (all_goals clear hF)))
  exact Fin.tmp' rfl rfl

theorem cells_str : Tryz.prog.cellsOf 9 = 1 := by kernel_rfl
theorem cells_Rec : Tryz.prog.cellsOf 39 = 3 := by kernel_rfl
theorem cells_Ent : Tryz.prog.cellsOf 49 = 4 := by kernel_rfl
theorem cells_recs : Tryz.prog.cellsOf 22 = 1 := by kernel_rfl
theorem cells_ents : Tryz.prog.cellsOf 23 = 1 := by kernel_rfl
theorem op_str : Opens Tryz.prog 9 ByteArray (fun _ => True) (fun s => [.str s]) (fun s => s.size + 1) := Opens.string Tryz.underlying9
def okK (r : Rec) : Prop := okP r.past
def cellsK (r : Rec) : List AVal := [.str r.sku, .sl 1 (encIs r.past.vec), .sl 3 (encSs r.past.cloud)]
theorem op_Rec : Opens Tryz.prog 39 Rec okK cellsK wtK :=
  (Opens.struct Tryz.underlying39 cells_Rec (OpensF.cons (k := 1) op_str (fun _ => rfl) cells_str rfl (OpensF.cons (k := 2) op_Past (fun _ => rfl) cells_Past rfl (OpensF.nil _)))).map
    (fun x => ⟨x.1, x.2.1⟩) (fun x h => h.2.1) (fun _ => rfl) (fun x => by show wt x.2.1 + 1 ≤ x.1.size + 1 + (wt x.2.1 + 0) + 1; omega)
theorem op_recs : Opens Tryz.prog 22 (List Rec) (fun l => ∀ x ∈ l, okK x) (fun l => [.sl 3 (encKs l)]) (wtL wtK) :=
  Opens.slice (mk := encK) Tryz.underlying22 op_Rec cells_Rec (by decide) (fun _ => rfl) (fun _ => rfl) (fun x y hy => by simp [cellsK] at hy; rcases hy with rfl | rfl | rfl <;> rfl)
def okE (e : Ent) : Prop := True
def cellsE (e : Ent) : List AVal := [.int .i64 e.rep, .int .i64 e.num, .str e.sku, .int .i64 e.qty]
theorem op_Ent : Opens Tryz.prog 49 Ent okE cellsE (fun _ => 1) :=
  (Opens.struct Tryz.underlying49 cells_Ent (OpensF.cons (k := 2) op_Dot (fun _ => rfl) cells_Dot rfl (OpensF.cons (k := 1) op_str (fun _ => rfl) cells_str rfl (OpensF.cons (k := 1) op_int (fun _ => rfl) cells_int rfl (OpensF.nil _))))).map
    (fun x => ⟨x.1.1, x.1.2, x.2.1, x.2.2.1⟩) (fun x h => trivial) (fun _ => rfl) (fun _ => Nat.le_add_left _ _)
theorem op_ents : Opens Tryz.prog 23 (List Ent) (fun l => ∀ x ∈ l, okE x) (fun l => [.sl 4 (encEs l)]) (wtL fun _ => 1) :=
  Opens.slice (mk := encE) Tryz.underlying23 op_Ent cells_Ent (by decide) (fun _ => rfl) (fun _ => rfl) (fun x y hy => by simp [cellsE] at hy; rcases hy with rfl | rfl | rfl | rfl <;> rfl)
structure CasK where
  r : List Rec
  q : List Rec
  a : List Ent
  b : List Ent
  p : Pst
  o : Pst
def cellsX (x : CasK) : List AVal := [.sl 3 (encKs x.r), .sl 3 (encKs x.q), .sl 4 (encEs x.a), .sl 4 (encEs x.b), .sl 1 (encIs x.p.vec), .sl 3 (encSs x.p.cloud), .sl 1 (encIs x.o.vec), .sl 3 (encSs x.o.cloud)]
def encX (x : CasK) : AVal := .agg [.sl 3 (encKs x.r), .sl 3 (encKs x.q), .sl 4 (encEs x.a), .sl 4 (encEs x.b), .sl 1 (encIs x.p.vec), .sl 3 (encSs x.p.cloud), .sl 1 (encIs x.o.vec), .sl 3 (encSs x.o.cloud)]
def okX (x : CasK) : Prop := okP x.p ∧ okP x.o
def wtX (x : CasK) : Nat := wtKs x.r + wtKs x.q + x.a.length + x.b.length + wt x.p + wt x.o
theorem cells_CaseK : Tryz.prog.cellsOf 29 = 8 := by kernel_rfl
theorem op_CaseK : Opens Tryz.prog 29 CasK okX cellsX wtX :=
  (Opens.struct Tryz.underlying29 cells_CaseK (OpensF.cons (k := 1) op_recs (fun _ => rfl) cells_recs rfl (OpensF.cons (k := 1) op_recs (fun _ => rfl) cells_recs rfl
    (OpensF.cons (k := 1) op_ents (fun _ => rfl) cells_ents rfl (OpensF.cons (k := 1) op_ents (fun _ => rfl) cells_ents rfl (OpensF.cons (k := 2) op_Past (fun _ => rfl) cells_Past rfl (OpensF.cons (k := 2) op_Past (fun _ => rfl) cells_Past rfl (OpensF.nil _)))))))).map
    (fun x => ⟨x.1, x.2.1, x.2.2.1, x.2.2.2.1, x.2.2.2.2.1, x.2.2.2.2.2.1⟩) (fun x h => ⟨h.2.2.2.2.1, h.2.2.2.2.2.1⟩) (fun _ => rfl)
    (fun x => by
      show wtKs x.1 + wtKs x.2.1 + x.2.2.1.length + x.2.2.2.1.length + wt x.2.2.2.2.1 + wt x.2.2.2.2.2.1 ≤ (wtKs x.1 + 1) + ((wtKs x.2.1 + 1) + (wtL (fun _ => 1) x.2.2.1 + (wtL (fun _ => 1) x.2.2.2.1 + (wt x.2.2.2.2.1 + (wt x.2.2.2.2.2.1 + 0))))) + 1
      rw [wtL_one, wtL_one]; omega)

def r_law07KeepBars_1 : List SOp :=
  [⟨(some 1), (.box 29 (.tmp 0)), none⟩, ⟨(some 2), (.assign (.const (.bool false))), none⟩]
instance : Live r_law07KeepBars_1 := ⟨[0]⟩
def r_law07KeepBars_2 : List SOp :=
  [⟨(some 8), (.call ⟨.value (.func 11), #[], #[]⟩), none⟩, ⟨(some 9), (.unOp .not 4 (.tmp 8)), none⟩]
instance : Live r_law07KeepBars_2 := ⟨[1]⟩
def r_law07KeepBars_3 : List SOp :=
  [⟨(some 2), (.assign (.const (.bool false))), none⟩]
instance : Live r_law07KeepBars_3 := ⟨[]⟩
def r_law07KeepBars_4 : List SOp :=
  [⟨(some 11), (.fieldAddr 29 (.tmp 1) 2), none⟩, ⟨(some 12), (.load 23 (.tmp 11)), none⟩, ⟨(some 13), (.fieldAddr 29 (.tmp 1) 0), none⟩, ⟨(some 14), (.load 22 (.tmp 13)), none⟩, ⟨(some 15), (.call ⟨.value (.func 21), #[.tmp 12, .tmp 14], #[23, 22]⟩), none⟩, ⟨(some 10), (.move (.tmp 15)), none⟩, ⟨(some 16), (.extract (.tmp 10) 0), none⟩, ⟨(some 17), (.extract (.tmp 10) 1), none⟩, ⟨(some 3), (.assign (.tmp 16)), none⟩, ⟨(some 4), (.assign (.tmp 17)), none⟩]
instance : Live r_law07KeepBars_4 := ⟨[1]⟩
def r_law07KeepBars_5 : List SOp :=
  [⟨(some 19), (.fieldAddr 29 (.tmp 1) 2), none⟩, ⟨(some 20), (.load 23 (.tmp 19)), none⟩, ⟨(some 21), (.fieldAddr 29 (.tmp 1) 0), none⟩, ⟨(some 22), (.load 22 (.tmp 21)), none⟩, ⟨(some 23), (.call ⟨.value (.func 22), #[.tmp 20, .tmp 22], #[23, 22]⟩), none⟩, ⟨(some 18), (.move (.tmp 23)), none⟩, ⟨(some 24), (.extract (.tmp 18) 0), none⟩, ⟨(some 25), (.extract (.tmp 18) 1), none⟩, ⟨(some 5), (.assign (.tmp 24)), none⟩, ⟨(some 6), (.assign (.tmp 25)), none⟩]
instance : Live r_law07KeepBars_5 := ⟨[1, 3, 4]⟩
def r_law07KeepBars_6 : List SOp :=
  [⟨(some 26), (.move (.tmp 4)), none⟩, ⟨(some 27), (.move (.tmp 6)), none⟩, ⟨(some 28), (.binOp .neq 32 (.tmp 26) (.tmp 27) 32), none⟩, ⟨(some 29), (.move (.tmp 28)), none⟩, ⟨(some 30), (.move (.tmp 3)), (some ((some 29), false))⟩, ⟨(some 31), (.move (.tmp 5)), (some ((some 29), false))⟩, ⟨(some 32), (.call ⟨.value (.func 23), #[.tmp 30, .tmp 31], #[23, 23]⟩), (some ((some 29), false))⟩, ⟨(some 33), (.unOp .not 4 (.tmp 32)), (some ((some 29), false))⟩, ⟨(some 34), (.pick (.tmp 29) (.const (.bool true)) (.tmp 33)), none⟩]
instance : Live r_law07KeepBars_6 := ⟨[1, 3, 4, 5, 6]⟩
def r_law07KeepBars_7 : List SOp :=
  [⟨(some 2), (.assign (.const (.bool false))), none⟩]
instance : Live r_law07KeepBars_7 := ⟨[]⟩
def r_law07KeepBars_8 : List SOp :=
  [⟨(some 7), (.assign (.const (.int .i64 0))), none⟩]
instance : Live r_law07KeepBars_8 := ⟨[1]⟩
def r_law07KeepBars_9 : List SOp :=
  [⟨(some 35), (.move (.tmp 7)), none⟩, ⟨(some 36), (.fieldAddr 29 (.tmp 1) 2), none⟩, ⟨(some 37), (.load 23 (.tmp 36)), none⟩, ⟨(some 38), (.call ⟨.builtin .len, #[.tmp 37], #[23]⟩), none⟩, ⟨(some 39), (.binOp .lss 3 (.tmp 35) (.tmp 38) 3), none⟩]
instance : Live r_law07KeepBars_9 := ⟨[1, 7]⟩
def r_law07KeepBars_10 : List SOp :=
  [⟨(some 42), (.fieldAddr 29 (.tmp 1) 0), none⟩, ⟨(some 43), (.load 22 (.tmp 42)), none⟩, ⟨(some 44), (.fieldAddr 29 (.tmp 1) 2), none⟩, ⟨(some 45), (.load 23 (.tmp 44)), none⟩, ⟨(some 46), (.move (.tmp 7)), none⟩, ⟨(some 47), (.indexAddr 23 (.tmp 45) (.tmp 46)), none⟩, ⟨(some 48), (.load 49 (.tmp 47)), none⟩, ⟨(some 49), (.call ⟨.value (.func 24), #[.tmp 43, .tmp 48], #[22, 49]⟩), none⟩, ⟨(some 50), (.fieldAddr 29 (.tmp 1) 0), none⟩, ⟨(some 51), (.load 22 (.tmp 50)), none⟩, ⟨(some 52), (.fieldAddr 29 (.tmp 1) 2), none⟩, ⟨(some 53), (.load 23 (.tmp 52)), none⟩, ⟨(some 54), (.move (.tmp 7)), none⟩, ⟨(some 55), (.indexAddr 23 (.tmp 53) (.tmp 54)), none⟩, ⟨(some 56), (.load 49 (.tmp 55)), none⟩, ⟨(some 57), (.call ⟨.value (.func 25), #[.tmp 51, .tmp 56], #[22, 49]⟩), none⟩, ⟨(some 58), (.binOp .neq 3 (.tmp 49) (.tmp 57) 3), none⟩, ⟨(some 59), (.move (.tmp 58)), none⟩, ⟨(some 60), (.fieldAddr 29 (.tmp 1) 1), (some ((some 59), false))⟩, ⟨(some 61), (.load 22 (.tmp 60)), (some ((some 59), false))⟩, ⟨(some 62), (.fieldAddr 29 (.tmp 1) 2), (some ((some 59), false))⟩, ⟨(some 63), (.load 23 (.tmp 62)), (some ((some 59), false))⟩, ⟨(some 64), (.move (.tmp 7)), (some ((some 59), false))⟩, ⟨(some 65), (.indexAddr 23 (.tmp 63) (.tmp 64)), (some ((some 59), false))⟩, ⟨(some 66), (.load 49 (.tmp 65)), (some ((some 59), false))⟩, ⟨(some 67), (.call ⟨.value (.func 24), #[.tmp 61, .tmp 66], #[22, 49]⟩), (some ((some 59), false))⟩, ⟨(some 68), (.fieldAddr 29 (.tmp 1) 1), (some ((some 59), false))⟩, ⟨(some 69), (.load 22 (.tmp 68)), (some ((some 59), false))⟩, ⟨(some 70), (.fieldAddr 29 (.tmp 1) 2), (some ((some 59), false))⟩, ⟨(some 71), (.load 23 (.tmp 70)), (some ((some 59), false))⟩, ⟨(some 72), (.move (.tmp 7)), (some ((some 59), false))⟩, ⟨(some 73), (.indexAddr 23 (.tmp 71) (.tmp 72)), (some ((some 59), false))⟩, ⟨(some 74), (.load 49 (.tmp 73)), (some ((some 59), false))⟩, ⟨(some 75), (.call ⟨.value (.func 25), #[.tmp 69, .tmp 74], #[22, 49]⟩), (some ((some 59), false))⟩, ⟨(some 76), (.binOp .neq 3 (.tmp 67) (.tmp 75) 3), (some ((some 59), false))⟩, ⟨(some 77), (.pick (.tmp 59) (.const (.bool true)) (.tmp 76)), none⟩]
instance : Live r_law07KeepBars_10 := ⟨[1, 7]⟩
def r_law07KeepBars_11 : List SOp :=
  [⟨(some 2), (.assign (.const (.bool false))), none⟩]
instance : Live r_law07KeepBars_11 := ⟨[]⟩
def r_law07KeepBars_12 : List SOp :=
  [⟨(some 78), (.move (.tmp 7)), none⟩, ⟨(some 79), (.fieldAddr 29 (.tmp 1) 0), none⟩, ⟨(some 80), (.load 22 (.tmp 79)), none⟩, ⟨(some 81), (.call ⟨.builtin .len, #[.tmp 80], #[22]⟩), none⟩, ⟨(some 82), (.binOp .lss 3 (.tmp 78) (.tmp 81) 3), none⟩, ⟨(some 83), (.move (.tmp 82)), none⟩, ⟨(some 84), (.fieldAddr 29 (.tmp 1) 0), (some ((some 83), true))⟩, ⟨(some 85), (.load 22 (.tmp 84)), (some ((some 83), true))⟩, ⟨(some 86), (.move (.tmp 7)), (some ((some 83), true))⟩, ⟨(some 87), (.indexAddr 22 (.tmp 85) (.tmp 86)), (some ((some 83), true))⟩, ⟨(some 88), (.load 39 (.tmp 87)), (some ((some 83), true))⟩, ⟨(some 89), (.fieldAddr 29 (.tmp 1) 2), (some ((some 83), true))⟩, ⟨(some 90), (.load 23 (.tmp 89)), (some ((some 83), true))⟩, ⟨(some 91), (.move (.tmp 7)), (some ((some 83), true))⟩, ⟨(some 92), (.indexAddr 23 (.tmp 90) (.tmp 91)), (some ((some 83), true))⟩, ⟨(some 93), (.load 49 (.tmp 92)), (some ((some 83), true))⟩, ⟨(some 94), (.call ⟨.value (.func 26), #[.tmp 88, .tmp 93], #[39, 49]⟩), (some ((some 83), true))⟩, ⟨(some 95), (.fieldAddr 29 (.tmp 1) 0), (some ((some 83), true))⟩, ⟨(some 96), (.load 22 (.tmp 95)), (some ((some 83), true))⟩, ⟨(some 97), (.move (.tmp 7)), (some ((some 83), true))⟩, ⟨(some 98), (.indexAddr 22 (.tmp 96) (.tmp 97)), (some ((some 83), true))⟩, ⟨(some 99), (.load 39 (.tmp 98)), (some ((some 83), true))⟩, ⟨(some 100), (.fieldAddr 29 (.tmp 1) 2), (some ((some 83), true))⟩, ⟨(some 101), (.load 23 (.tmp 100)), (some ((some 83), true))⟩, ⟨(some 102), (.move (.tmp 7)), (some ((some 83), true))⟩, ⟨(some 103), (.indexAddr 23 (.tmp 101) (.tmp 102)), (some ((some 83), true))⟩, ⟨(some 104), (.load 49 (.tmp 103)), (some ((some 83), true))⟩, ⟨(some 105), (.call ⟨.value (.func 27), #[.tmp 99, .tmp 104], #[39, 49]⟩), (some ((some 83), true))⟩, ⟨(some 106), (.binOp .neq 4 (.tmp 94) (.tmp 105) 4), (some ((some 83), true))⟩, ⟨(some 107), (.pick (.tmp 83) (.tmp 106) (.const (.bool false))), none⟩]
instance : Live r_law07KeepBars_12 := ⟨[1, 7]⟩
def r_law07KeepBars_13 : List SOp :=
  [⟨(some 2), (.assign (.const (.bool false))), none⟩]
instance : Live r_law07KeepBars_13 := ⟨[]⟩
def r_law07KeepBars_14 : List SOp :=
  [⟨(some 40), (.move (.tmp 7)), none⟩, ⟨(some 41), (.binOp .add 3 (.tmp 40) (.const (.int .i64 1)) 3), none⟩, ⟨(some 7), (.assign (.tmp 41)), none⟩]
instance : Live r_law07KeepBars_14 := ⟨[1, 7]⟩
def r_law07KeepBars_15 : List SOp :=
  [⟨(some 2), (.assign (.const (.bool true))), none⟩]
instance : Live r_law07KeepBars_15 := ⟨[]⟩
def t_law07KeepBars_l1 : SC :=
  (.seq (.seq (.ops false r_law07KeepBars_9) (.cond (.tmp 39) .skip (.exit 0))) (.seq (.block 1 (.seq (.seq (.ops true r_law07KeepBars_10) (.cond (.tmp 77) (.seq (.ops false r_law07KeepBars_11) .ret) .skip)) (.seq (.ops true r_law07KeepBars_12) (.cond (.tmp 107) (.seq (.ops false r_law07KeepBars_13) .ret) .skip)))) (.ops false r_law07KeepBars_14)))
def t_law07KeepBars : SC :=
  (.seq (.ops false r_law07KeepBars_1) (.seq (.seq (.ops false r_law07KeepBars_2) (.cond (.tmp 9) (.seq (.ops false r_law07KeepBars_3) .ret) .skip)) (.seq (.ops false r_law07KeepBars_4) (.seq (.ops false r_law07KeepBars_5) (.seq (.seq (.ops false r_law07KeepBars_6) (.cond (.tmp 34) (.seq (.ops false r_law07KeepBars_7) .ret) .skip)) (.seq (.seq (.ops false r_law07KeepBars_8) (.block 0 (.loop t_law07KeepBars_l1))) (.seq (.ops false r_law07KeepBars_15) .ret)))))))
theorem it_law07KeepBars : FnIs Tryz.prog 4 108 [.tmp 2] t_law07KeepBars := ⟨Tryz.f4, _, Tryz.func4, rfl, rfl, rfl, rfl, by kernel_rfl⟩

theorem ev_law07KeepBars (x : CasK) (hw : wtKs x.r + wtKs x.q + x.a.length + x.b.length ≤ 1100000) : Ev (En Tryz.prog rfl).P 4 [encX x] (.ret (.bool true)) := by
  refine Ev.of_body it_law07KeepBars (by simp) (Run.start ?_)
  unfold t_law07KeepBars encX
  have hS := stbK
  have hcs : stbs [AVal.sl 3 (encKs x.r), .sl 3 (encKs x.q), .sl 4 (encEs x.a), .sl 4 (encEs x.b), .sl 1 (encIs x.p.vec), .sl 3 (encSs x.p.cloud), .sl 1 (encIs x.o.vec), .sl 3 (encSs x.o.cloud)] = true := by simp [stbs, AVal.stb, encIs_stb, encSs_stb, encKs_stb, encEs_stb]
  have c1 := ev_keepApply x.a x.r (by omega) (by omega)
  have c2 := ev_ref07Apply x.a x.r (by omega) (by omega)
  have hll := leftE_len x.r x.a
  have hlx : (if formE x.a = true ∧ formK x.r = true then leftE x.r x.a else []).length ≤ 1100000 := by split; omega; simp
  generalize (if formE x.a = true ∧ formK x.r = true then leftE x.r x.a else []) = L at c1 c2 hlx
  generalize (if formE x.a = true ∧ formK x.r = true then (0 : Int) else 1) = v at c1 c2
  have c3 := ev_ref04SameEntries L (by omega)
  have eA := encEs_len x.a
  have eR := encKs_len x.r
  have hlr := wtKs_len x.r
  have hlq := wtKs_len x.q
  have wr : ∀ r ∈ x.r, wt r.past ≤ 900000000 := fun r hr => by have := wtK_le hr; unfold wtK at this; omega
  have wq : ∀ r ∈ x.q, wt r.past ≤ 900000000 := fun r hr => by have := wtK_le hr; unfold wtK at this; omega
  (focus (have hF := @hcs; (repeat' (first | (with_reducible refine Nx.of ?_) | ((with_reducible apply toV); refine stV (k := ?_)) | ((with_reducible apply toG); refine stG (k := ?_)) | ((with_reducible apply toG0); refine stG0 (k := ?_)) | ((with_reducible apply toC); refine stC (k := ?_)) | ((with_reducible apply toO); refine stO (k := ?_)) | ((with_reducible apply toX); refine stX (k := ?_)) | (with_reducible refine Ny.of ?_ ?_) | (refine Hyp.of ?_; intro hc; (try simp only [hc]); (try simp only [Bh] at hc)) | fail)); (all_goals clear hF)))
  refine stCall [] (he := ev_law07fixed) (k := ?_)
  (focus (have hF := @hcs; (repeat' (first | (with_reducible refine Nx.of ?_) | ((with_reducible apply toV); refine stV (k := ?_)) | ((with_reducible apply toG); refine stG (k := ?_)) | ((with_reducible apply toG0); refine stG0 (k := ?_)) | ((with_reducible apply toC); refine stC (k := ?_)) | ((with_reducible apply toO); refine stO (k := ?_)) | ((with_reducible apply toX); refine stX (k := ?_)) | (with_reducible refine Ny.of ?_ ?_) | (refine Hyp.of ?_; intro hc; (try simp only [hc]); (try simp only [Bh] at hc)) | fail)); (all_goals clear hF)))
  refine stCall [.sl 4 (encEs x.a), .sl 3 (encKs x.r)] (he := c1) (k := ?_)
  (focus (have hF := @hcs; (repeat' (first | (with_reducible refine Nx.of ?_) | ((with_reducible apply toV); refine stV (k := ?_)) | ((with_reducible apply toG); refine stG (k := ?_)) | ((with_reducible apply toG0); refine stG0 (k := ?_)) | ((with_reducible apply toC); refine stC (k := ?_)) | ((with_reducible apply toO); refine stO (k := ?_)) | ((with_reducible apply toX); refine stX (k := ?_)) | (with_reducible refine Ny.of ?_ ?_) | (refine Hyp.of ?_; intro hc; (try simp only [hc]); (try simp only [Bh] at hc)) | fail)); (all_goals clear hF)))
  refine stCall [.sl 4 (encEs x.a), .sl 3 (encKs x.r)] (he := c2) (k := ?_)
  (focus (have hF := @hcs; (repeat' (first | (with_reducible refine Nx.of ?_) | ((with_reducible apply toV); refine stV (k := ?_)) | ((with_reducible apply toG); refine stG (k := ?_)) | ((with_reducible apply toG0); refine stG0 (k := ?_)) | ((with_reducible apply toC); refine stC (k := ?_)) | ((with_reducible apply toO); refine stO (k := ?_)) | ((with_reducible apply toX); refine stX (k := ?_)) | (with_reducible refine Ny.of ?_ ?_) | (refine Hyp.of ?_; intro hc; (try simp only [hc]); (try simp only [Bh] at hc)) | fail)); (all_goals clear hF)))
  refine stCall [.sl 4 (encEs L), .sl 4 (encEs L)] (he := c3) (k := ?_)
  (focus (have hF := @hcs; (repeat' (first | (with_reducible refine Nx.of ?_) | ((with_reducible apply toV); refine stV (k := ?_)) | ((with_reducible apply toG); refine stG (k := ?_)) | ((with_reducible apply toG0); refine stG0 (k := ?_)) | ((with_reducible apply toC); refine stC (k := ?_)) | ((with_reducible apply toO); refine stO (k := ?_)) | ((with_reducible apply toX); refine stX (k := ?_)) | (with_reducible refine Ny.of ?_ ?_) | (refine Hyp.of ?_; intro hc; (try simp only [hc]); (try simp only [Bh] at hc)) | fail)); (all_goals clear hF)))
  refine Run.while (σ := Nat) (fun i => ⟨tms [(1, .ptr 1 0), (7, .int .i64 (i : Int))], mms [(1, .cells [.sl 3 (encKs x.r), .sl 3 (encKs x.q), .sl 4 (encEs x.a), .sl 4 (encEs x.b), .sl 1 (encIs x.p.vec), .sl 3 (encSs x.p.cloud), .sl 1 (encIs x.o.vec), .sl 3 (encSs x.o.cloud)])]⟩) (fun i => i ≤ x.a.length) (fun i => x.a.length - i) 0 (have hW := (And.intro @encKs_stb @encEs_stb); stWk) (Nat.zero_le _) ?_
  intro i hi
  unfold t_law07KeepBars_l1
  by_cases hlt : i < x.a.length
  · obtain ⟨e, he⟩ : ∃ e, x.a[i]? = some e := ⟨x.a[i], by simp [hlt]⟩
    have g1 := encEs_get he
    have k1 := ev_keepBars x.r e (by omega) wr
    have k2 := ev_ref07Bars x.r e (by omega) wr
    have k3 := ev_keepBars x.q e (by omega) wq
    have k4 := ev_ref07Bars x.q e (by omega) wq
    (focus (have hF := (And.intro (And.intro @hcs @eA) (And.intro @eR @g1)); (repeat' (first | (with_reducible refine Nx.of ?_) | ((with_reducible apply toV); refine stV (k := ?_)) | ((with_reducible apply toG); refine stG (k := ?_)) | ((with_reducible apply toG0); refine stG0 (k := ?_)) | ((with_reducible apply toC); refine stC (k := ?_)) | ((with_reducible apply toO); refine stO (k := ?_)) | ((with_reducible apply toX); refine stX (k := ?_)) | (with_reducible refine Ny.of ?_ ?_) | (refine Hyp.of ?_; intro hc; (try simp only [hc]); (try simp only [Bh] at hc)) | fail)); (all_goals clear hF)))
    refine stCall [.sl 3 (encKs x.r), encE e] (he := k1) (k := ?_)
    (focus (have hF := (And.intro (And.intro @hcs @eA) (And.intro @eR @g1)); (repeat' (first | (with_reducible refine Nx.of ?_) | ((with_reducible apply toV); refine stV (k := ?_)) | ((with_reducible apply toG); refine stG (k := ?_)) | ((with_reducible apply toG0); refine stG0 (k := ?_)) | ((with_reducible apply toC); refine stC (k := ?_)) | ((with_reducible apply toO); refine stO (k := ?_)) | ((with_reducible apply toX); refine stX (k := ?_)) | (with_reducible refine Ny.of ?_ ?_) | (refine Hyp.of ?_; intro hc; (try simp only [hc]); (try simp only [Bh] at hc)) | fail)); (all_goals clear hF)))
    refine stCall [.sl 3 (encKs x.r), encE e] (he := k2) (k := ?_)
    (focus (have hF := (And.intro (And.intro @hcs @eA) (And.intro @eR @g1)); (repeat' (first | (with_reducible refine Nx.of ?_) | ((with_reducible apply toV); refine stV (k := ?_)) | ((with_reducible apply toG); refine stG (k := ?_)) | ((with_reducible apply toG0); refine stG0 (k := ?_)) | ((with_reducible apply toC); refine stC (k := ?_)) | ((with_reducible apply toO); refine stO (k := ?_)) | ((with_reducible apply toX); refine stX (k := ?_)) | (with_reducible refine Ny.of ?_ ?_) | (refine Hyp.of ?_; intro hc; (try simp only [hc]); (try simp only [Bh] at hc)) | fail)); (all_goals clear hF)))
    refine stCall [.sl 3 (encKs x.q), encE e] (he := k3) (k := ?_)
    (focus (have hF := (And.intro (And.intro @hcs @eA) (And.intro @eR @g1)); (repeat' (first | (with_reducible refine Nx.of ?_) | ((with_reducible apply toV); refine stV (k := ?_)) | ((with_reducible apply toG); refine stG (k := ?_)) | ((with_reducible apply toG0); refine stG0 (k := ?_)) | ((with_reducible apply toC); refine stC (k := ?_)) | ((with_reducible apply toO); refine stO (k := ?_)) | ((with_reducible apply toX); refine stX (k := ?_)) | (with_reducible refine Ny.of ?_ ?_) | (refine Hyp.of ?_; intro hc; (try simp only [hc]); (try simp only [Bh] at hc)) | fail)); (all_goals clear hF)))
    refine stCall [.sl 3 (encKs x.q), encE e] (he := k4) (k := ?_)
    by_cases hir : i < x.r.length
    · obtain ⟨r, hr⟩ : ∃ r, x.r[i]? = some r := ⟨x.r[i], by simp [hir]⟩
      have g2 := encKs_get hr
      have k5 := ev_keepCovers r e (wr r (List.mem_of_getElem? hr))
      have k6 := ev_ref07Covers r e (wr r (List.mem_of_getElem? hr))
      (focus (have hF := (And.intro (And.intro @hcs @eA) (And.intro @eR (And.intro @g1 @g2))); (repeat' (first | (with_reducible refine Nx.of ?_) | ((with_reducible apply toV); refine stV (k := ?_)) | ((with_reducible apply toG); refine stG (k := ?_)) | ((with_reducible apply toG0); refine stG0 (k := ?_)) | ((with_reducible apply toC); refine stC (k := ?_)) | ((with_reducible apply toO); refine stO (k := ?_)) | ((with_reducible apply toX); refine stX (k := ?_)) | (with_reducible refine Ny.of ?_ ?_) | (refine Hyp.of ?_; intro hc; (try simp only [hc]); (try simp only [Bh] at hc)) | fail)); (all_goals clear hF)))
      refine stCall [encK r, encE e] (he := k5) (k := ?_)
      (focus (have hF := (And.intro (And.intro @hcs @eA) (And.intro @eR (And.intro @g1 @g2))); (repeat' (first | (with_reducible refine Nx.of ?_) | ((with_reducible apply toV); refine stV (k := ?_)) | ((with_reducible apply toG); refine stG (k := ?_)) | ((with_reducible apply toG0); refine stG0 (k := ?_)) | ((with_reducible apply toC); refine stC (k := ?_)) | ((with_reducible apply toO); refine stO (k := ?_)) | ((with_reducible apply toX); refine stX (k := ?_)) | (with_reducible refine Ny.of ?_ ?_) | (refine Hyp.of ?_; intro hc; (try simp only [hc]); (try simp only [Bh] at hc)) | fail)); (all_goals clear hF)))
      refine stCall [encK r, encE e] (he := k6) (k := ?_)
      (focus (have hF := (And.intro (And.intro @hcs @eA) (And.intro @eR (And.intro @g1 @g2))); (repeat' (first | (with_reducible refine Nx.of ?_) | ((with_reducible apply toV); refine stV (k := ?_)) | ((with_reducible apply toG); refine stG (k := ?_)) | ((with_reducible apply toG0); refine stG0 (k := ?_)) | ((with_reducible apply toC); refine stC (k := ?_)) | ((with_reducible apply toO); refine stO (k := ?_)) | ((with_reducible apply toX); refine stX (k := ?_)) | (with_reducible refine Ny.of ?_ ?_) | (refine Hyp.of ?_; intro hc; (try simp only [hc]); (try simp only [Bh] at hc)) | fail)); (all_goals clear hF)))
      (refine Fin.nextW (i + 1) ?_ (have hW := (And.intro @encKs_stb @encEs_stb); stWk); (try dsimp only))
      omega
    · (focus (have hF := (And.intro (And.intro @hcs @eA) (And.intro @eR @g1)); (repeat' (first | (with_reducible refine Nx.of ?_) | ((with_reducible apply toV); refine stV (k := ?_)) | ((with_reducible apply toG); refine stG (k := ?_)) | ((with_reducible apply toG0); refine stG0 (k := ?_)) | ((with_reducible apply toC); refine stC (k := ?_)) | ((with_reducible apply toO); refine stO (k := ?_)) | ((with_reducible apply toX); refine stX (k := ?_)) | (with_reducible refine Ny.of ?_ ?_) | (refine Hyp.of ?_; intro hc; (try simp only [hc]); (try simp only [Bh] at hc)) | fail)); (all_goals clear hF)))
      (refine Fin.nextW (i + 1) ?_ (have hW := (And.intro @encKs_stb @encEs_stb); stWk); (try dsimp only))
      omega
  · (focus (have hF := (And.intro @hcs @eA); (repeat' (first | (with_reducible refine Nx.of ?_) | ((with_reducible apply toV); refine stV (k := ?_)) | ((with_reducible apply toG); refine stG (k := ?_)) | ((with_reducible apply toG0); refine stG0 (k := ?_)) | ((with_reducible apply toC); refine stC (k := ?_)) | ((with_reducible apply toO); refine stO (k := ?_)) | ((with_reducible apply toX); refine stX (k := ?_)) | (with_reducible refine Ny.of ?_ ?_) | (refine Hyp.of ?_; intro hc; (try simp only [hc]); (try simp only [Bh] at hc)) | fail)); (all_goals clear hF)))
    exact Fin.tmp' rfl rfl

end Go.Proofs.YtpomanleabaafaaGreat.Avm
/-
  The law KeepBars holds: for every case of bulk at most 1048576 the call returns true and the case reads behind it as it read before.
-/
namespace Go.Proofs.YtpomanleabaafaaGreat.Avm
open Go.Proofs
theorem lifted_KeepBars (os : Os) (started : os.Started) (H : Type) (enc : TypeId × Value → H) (F : Stop.Interp) :
    ReturnsInHanded {} Tryz.checked os 4 .any ((Rows.OpenSpec.upto Rows.keepBarsSpec).pre6 enc Tryz.prog Tryz.f4 Rows.keepBarsUptoRow.domain false) (((Rows.OpenSpec.upto Rows.keepBarsSpec).at F).post enc Tryz.prog Tryz.f4 false true false false) := by
  refine returnsInHanded_of_cond (C := Tryz.checked) (s := Rows.OpenSpec.upto Rows.keepBarsSpec) (k := Rows.uptoSmall) rfl own started (by kernel_rfl) Tryz.func4
    (OpenSpec.witness (enc := enc) (C := Tryz.checked) (s := Rows.OpenSpec.upto Rows.keepBarsSpec) (k := Rows.uptoSmall) rfl false ⟨#[], #[.agg #[.slice none 0 0, .slice none 0 0, .slice none 0 0, .slice none 0 0, .slice none 0 0, .slice none 0 0, .slice none 0 0, .slice none 0 0]], []⟩ 8 (by kernel_rfl) (by kernel_rfl) (by kernel_rfl)
      (x := ([.agg [.nil, .nil, .nil, .nil, .agg [.nil, .nil], .agg [.nil, .nil]]], [], [])) (by kernel_rfl) rfl (by kernel_rfl)) ?_
  intro W base args ds gs before hval hW _ hk _
  exact contract_of (s := Rows.keepBarsSpec) Tryz.func4 Tryz.params4 (by kernel_rfl) Tryz.underlying4 Tryz.underlying29 (by kernel_rfl) (by kernel_rfl) (of_decide_eq_true (by kernel_rfl)) rfl (fun _ _ => rfl)
    op_CaseK (fun x _ hx => ev_law07KeepBars x (by unfold wtX at hx; omega)) H enc W base args ds gs before hval hW hk
theorem keepBars_holds : Rows.KeepBarsUptoSaid :=
  OpenClaim.holds_of_cond 4 Tryz.f4 rfl rfl rfl rfl rfl rfl rfl ⟨rfl, rfl, rfl, rfl, rfl⟩ rfl rfl rfl rfl rfl (by kernel_rfl) Tryz.func4 (by kernel_rfl)
    (of_decide_eq_true (by kernel_rfl)) (by unfold Func.isWrapper; first | (rw [if_pos (by decide +kernel)]; kernel_rfl) | (rw [if_neg (by decide +kernel)]; exact ⟨rfl, rfl⟩))
    (fun os started H enc _ F => lifted_KeepBars os started H enc F)
#print axioms keepBars_holds

end Go.Proofs.YtpomanleabaafaaGreat.Avm
