/- Part 5 of the proof: lemmas. -/
import Derived.Test.YtkionmommpgcmaaGreatN4
import Derived.Test.YtkionmommpgcmaaGreatRows
import Derived.WalkKit
import Derived.ProofKit
import Derived.OpenShut
import Derived.JoinedCond
import Derived.Carry
import Derived.Test.YtkionmommpgcmaaGreatProg
import Derived.KernelRfl
import Derived.Recover
set_option maxRecDepth 100000
set_option maxHeartbeats 4000000
set_option linter.unusedVariables false
set_option linter.unusedSimpArgs false
set_option linter.unusedSectionVars false
set_option linter.defProp false
namespace Go.Proofs.YtkionmommpgcmaaGreat.Avm
open Go.Proofs
def ql3 (t : Tab) (r c : Nat) : List Sn := q1c t r ++ ((q1p ((q12 (t.getD r [])).take c)).2).map (q3n r)
theorem z1c (t : Tab) (r : Nat) : ql3 t r 0 = q1c t r := by simp [ql3, q1p]
theorem rowF_all (t : Tab) (r : Nat) : ql3 t r (q12 (t.getD r [])).length = q1c t (r + 1) := by
 unfold ql3
 rw [q4a, List.take_length]
 rfl
theorem qzh {t : Tab} {r : Nat} {x : Rn} (hx : (q12 (t.getD r []))[0]? = some x) (h : x.1 = 1) : ql3 t r 1 = ql3 t r 0 := by
 unfold ql3
 rw [List.take_add_one, hx]
 simp [q1p, h]
theorem z1d {t : Tab} {r c : Nat} {x : Rn} (hx : (q12 (t.getD r []))[c]? = some x) (h : x.1 ≠ 1) : ql3 t r (c + 1) = ql3 t r c ++ [((r : Int), x.1, x.2)] := by
 unfold ql3
 rw [List.take_add_one, hx, List.append_assoc]
 congr 1
 cases c with
 | zero => simp [q1p, h, q3n]
 | succ c =>
  cases hm : q12 (t.getD r []) with
  | nil => rw [hm] at hx; simp at hx
  | cons y l =>
   rw [hm] at hx
   simp only [List.take_succ_cons, List.cons_append, q1p]
   simp only [Option.toList]
   split <;> simp [q3n]
theorem rowF_len (t : Tab) (r c : Nat) : (ql3 t r c).length ≤ (q1c t r).length + (q12 (t.getD r [])).length := by
 have h1 := q8u ((q12 (t.getD r [])).take c)
 unfold ql3
 rw [List.length_append, List.length_map]
 rw [List.length_take] at h1
 omega
theorem qna {m : List Rn} {c : Nat} {x : Rn} (h : m[c]? = some x) : (q2y m)[2 * c]? = some x.1 ∧ (q2y m)[2 * c + 1]? = some (x.2 + 1) := by
 induction m generalizing c with
 | nil => simp at h
 | cons y m ih =>
  rw [q41]
  cases c with
  | zero => simp at h; subst h; exact ⟨rfl, rfl⟩
  | succ c =>
   have := ih (c := c) (by simpa using h)
   exact ⟨by simpa [Nat.mul_add] using this.1, by simpa [Nat.mul_add] using this.2⟩
theorem zca {m : List Rn} (h : Can m) {c : Nat} {x : Rn} (hx : m[c + 1]? = some x) : x.1 ≠ 1 := by
 cases m with
 | nil => simp at hx
 | cons y m =>
  have hy := (Can.cons_iff.1 h)
  have hm : x ∈ m := List.mem_of_getElem? (by simpa using hx)
  have h1 := hy.2.1 x hm
  have h2 := hy.1
  unfold qlk at h1
  unfold okR at h2
  omega
theorem z0t {t : Tab} {r : Nat} (hr : r < 16) (h : q5g t r = 0) : q9a t (r + 1) = q9a t r := by
 unfold q9a
 rw [qbe, h, List.append_assoc, show 16 - r = (16 - (r + 1)) + 1 by omega, List.replicate_succ]
 rfl
def szF (t : Tab) (r : Nat) : Nat → Nat
 | 0 => q2x t r
 | _ + 1 => q2x t (r + 1)
def vcF (t : Tab) (r : Nat) : Nat → List Int
 | 0 => q9a t r
 | _ + 1 => q9a t (r + 1)
theorem ev_k43 (t : Tab) {n : Nat} (ht : TabLe t n) (hn : n ≤ 50000000) : Ev (En Tryz.prog rfl).P 43 [.agg (q11 (t.map q1d))] (.ret (q1k (q64 t))) := by
 refine Ev.of_body it_k43 (by simp) (Run.start ?_)
 unfold t_k43
 have h16 : (q11 (t.map q1d)).length = 16 := by simp [q11, ht.1]
 have hone := q6r (t.map q1d)
 have hst := q3z (t.map q1d)
 (focus (have hF := (aI @h16 @hone); (repeat' (first | refine go1 (k:=?_) | with_reducible refine Ny.of ?_ ?_ | (refine Hyp.of ?_; intro hc; (try simp only [hc]); (try simp only [Bh] at hc)))); all_goals clear hF))
 refine Run.wk (Wk.own_cells (k := 3) (cs' := [.nil, .own 3 []]) rfl rfl ?_) ?_
 ·intro i x y hx hy
  match i with
  | 0 => simp at hx hy; subst hx; subst hy; exact .inl rfl
  | 1 => simp at hx hy; subst hx; subst hy; exact .inr ⟨rfl, 3, rfl⟩
  | i + 2 => simp at hx
 refine Run.while (σ := Nat) (fun r => ⟨tms [(1, .ptr 1 0), (2, .ptr 2 0), (3, .ptr 3 0), (4, .os 8 0), (5, .int .i64 (q2x t r)), (6, .int .i64 r)], mms [(1, .cells (q11 (t.map q1d))), (2, .cells [.nil, .nil]), (3, .cells [.nil, .own 3 (q0e (q1c t r))]), (8, .arr 0 1 (q04 (q9a t r)))]⟩)
  (fun r => r ≤ 16) (fun r => 16 - r) 0 (have hW := @hst; q0v) (Nat.zero_le _) ?_
 intro r hr
 have g0 : (q04 (q9a t r)).length = 16 := by rw [q0b, q9s t hr]
 have hsz := q9w t r
 unfold qnz
 by_cases hlt : r < 16
 ·have hrt : r < t.length := by rw [ht.1]; exact hlt
  have hq := ht.2 r
  have g1 : (q11 (t.map q1d))[r]? = some (.sl 1 (q04 (q2y (q12 (t.getD r []))))) := by
   rw [qd5 (by rw [List.length_map]; exact hrt)]
   simp [List.getD_eq_getElem?_getD, hrt, q1d]
  have hml := q44 (t.getD r [])
  have hcan := q2k (t.getD r [])
  have hcl := q94 ht r
  have hcl2 : r * n ≤ 16 * n := Nat.mul_le_mul_right n hr
  have f1 := z1c t r
  have f2 := rowF_all t r
  have f3 := fun c x => @z1d t r c x
  have f4 := fun x => @qzh t r x
  have f5 := rowF_len t r
  have hlead : q5g t r = (q1p (q12 (t.getD r []))).1 := rfl
  have hs1 := q6k t r
  have hv1 := qn6 t hlt
  have hv2 := qn7 t hlt
  have hl0 := qzr hcan
  generalize hmr : q12 (t.getD r []) = m at g1 hml hcan f2 f3 f4 f5 hlead hl0
  have g2 : (q04 (q2y m)).length = 2 * m.length := by rw [q0b, qck]
  have hz0 : (q1p m).1 = 0 → q2x t (r + 1) = q2x t r ∧ q9a t (r + 1) = q9a t r := fun h => ⟨by rw [hs1, hlead, h]; rfl, z0t hlt (by rw [hlead, h])⟩
  (focus (have hF := (aI @h16 (aI @hone @g0)); (repeat' (first | refine go1 (k:=?_) | with_reducible refine Ny.of ?_ ?_ | (refine Hyp.of ?_; intro hc; (try simp only [hc]); (try simp only [Bh] at hc)))); all_goals clear hF))
  refine Run.while (σ := Nat) (fun c => ⟨tms [(1, .ptr 1 0), (2, .ptr 2 0), (3, .ptr 3 0), (4, .os 8 0), (5, .int .i64 (szF t r c)), (6, .int .i64 r), (7, .int .i64 (2 * c : Nat))], mms [(1, .cells (q11 (t.map q1d))), (2, .cells [.nil, .nil]), (3, .cells [.nil, .own 3 (q0e (ql3 t r c))]), (8, .arr 0 1 (q04 (vcF t r c)))]⟩)
   (fun c => c ≤ m.length) (fun c => m.length - c) 0 (have hW := (aI @hst @f1); q0v) (Nat.zero_le _) ?_
  intro c hc
  have gv : (q04 (vcF t r c)).length = 16 := by
   rw [q0b]
   cases c with
   | zero => exact q9s t hr
   | succ c => exact q9s t hlt
  have hsz2 : szF t r c ≤ r + 1 := by
   cases c with
   | zero => show q2x t r ≤ _; omega
   | succ c => exact q9w t (r + 1)
  unfold qny
  by_cases hcl3 : c < m.length
  ·obtain ⟨x, hx⟩ : ∃ x, m[c]? = some x := ⟨m[c], by simp [hcl3]⟩
   have ⟨k1, k2⟩ := qna hx
   have k1' : (q04 (q2y m))[2 * c]? = some (.int .i64 x.1) := q0q k1
   have k2' : (q04 (q2y m))[2 * c + 1]? = some (.int .i64 (x.2 + 1)) := q0q k2
   have hxr := hcan.2 x (List.mem_of_getElem? hx)
   unfold okR at hxr
   have hfl := f5 c
   have e8 : ((2 * c : Nat) : Int) + 1 = ((2 * c + 1 : Nat) : Int) := by omega
   have e9 : ((2 * c : Nat) : Int) + 2 = ((2 * (c + 1) : Nat) : Int) := by omega
   have e7 : IntKind.i64.wrap (x.2 + 1 - 1) = x.2 := by rw [q0a (by omega)]; omega
   by_cases h1 : x.1 = 1
   ·have hc0 : c = 0 := by
     cases c with
     | zero => rfl
     | succ c => exact absurd h1 (zca hcan hx)
    have h5 : q5g t r = x.2 := by
     subst hc0
     rw [hlead]
     cases m with
     | nil => simp at hx
     | cons y m => simp at hx; subst hx; rw [qa1 h1]
    have h6 : ql3 t r (c + 1) = ql3 t r c := by subst hc0; exact f4 x hx h1
    have h8 : szF t r (c + 1) = r + 1 := by show q2x t (r + 1) = r + 1; rw [hs1, if_pos (by omega)]
    rw [h5] at hv1
    have h9 : (q04 (vcF t r c)).set r (.int .i64 x.2) = q04 (vcF t r (c + 1)) := by subst hc0; exact hv1
    have h10 : (q04 (vcF t r c))[r]? = some (.int .i64 0) := by subst hc0; exact hv2
    generalize szF t r c = sz at hsz2 ⊢
    (focus (have hF := (aI (aI (aI @h16 (aI @hone @gv)) (aI @g1 (aI @g2 @k1'))) (aI (aI @k2' (aI @h9 @h10)) (aI (aI @e7 @e8) (aI @e9 @h1)))); (repeat' (first | refine go1 (k:=?_) | with_reducible refine Ny.of ?_ ?_ | (refine Hyp.of ?_; intro hc; (try simp only [hc]); (try simp only [Bh] at hc)))); all_goals clear hF))
    (refine Fin.nextW (c + 1) ?_ (have hW := (aI (aI @hst @h6) (aI @h8 @h9)); q0v); (try dsimp only))
    omega
   ·have h6 := f3 c x hx h1
    have h8 : szF t r (c + 1) = szF t r c ∧ vcF t r (c + 1) = vcF t r c := by
     cases c with
     | zero =>
      refine hz0 ?_
      cases m with
      | nil => simp at hx
      | cons y m => simp at hx; subst hx; rw [qa0 h1]
     | succ c => exact ⟨rfl, rfl⟩
    obtain ⟨h8, h9⟩ := h8
    generalize ql3 t r c = cl at h6 hfl ⊢
    have k3 := q16 cl
    (focus (have hF := (aI (aI (aI @h16 (aI @hone @gv)) (aI @g1 (aI @g2 @k1'))) (aI (aI @k2' (aI @e7 @e8)) (aI @e9 (aI @k3 @q6q)))); (repeat' (first | refine go1 (k:=?_) | with_reducible refine Ny.of ?_ ?_ | (refine Hyp.of ?_; intro hc; (try simp only [hc]); (try simp only [Bh] at hc)))); all_goals clear hF))
    ((with_reducible apply toW); refine stW (fun j => j == 1) (k:=?_))
    (focus (have hF := (aI (aI (aI @h16 (aI @hone @gv)) (aI @g1 (aI @g2 @k1'))) (aI (aI @k2' (aI @e7 @e8)) (aI @e9 (aI @k3 @q6q)))); (repeat' (first | refine go1 (k:=?_) | with_reducible refine Ny.of ?_ ?_ | (refine Hyp.of ?_; intro hc; (try simp only [hc]); (try simp only [Bh] at hc)))); all_goals clear hF))
    (refine Fin.nextW (c + 1) ?_ (have hW := (aI (aI @hst @h6) (aI @h8 @h9)); q0v); (try dsimp only))
    omega
  ·have hce : c = m.length := by omega
   subst hce
   rw [f2]
   have h8 : szF t r m.length = q2x t (r + 1) ∧ vcF t r m.length = q9a t (r + 1) := by
    cases m with
    | nil => have := hz0 rfl; exact ⟨this.1.symm, this.2.symm⟩
    | cons y m => exact ⟨rfl, rfl⟩
   rw [h8.1, h8.2] at *
   (focus (have hF := (aI (aI @h16 @hone) (aI @gv (aI @g1 @g2))); (repeat' (first | refine go1 (k:=?_) | with_reducible refine Ny.of ?_ ?_ | (refine Hyp.of ?_; intro hc; (try simp only [hc]); (try simp only [Bh] at hc)))); all_goals clear hF))
   (refine Fin.nextW (r + 1) ?_ (have hW := @hst; q0v); (try dsimp only))
   omega
 ·have hre : r = 16 := by omega
  subst hre
  have hv : q9a t 16 = q26 t 16 := by simp [q9a]
  rw [hv] at g0 ⊢
  have hll := q2e t 16
  have hlz : ((q26 t 16).take (q2x t 16)).length ≤ 16 := by rw [List.length_take]; omega
  have hres : q64 t = ⟨(q26 t 16).take (q2x t 16), q1c t 16⟩ := rfl
  rw [hres]
  refine Run.wk (Wk.freeze (k := 3) (cs := [.nil, .own 3 (q0e (q1c t 16))]) rfl) ?_
  refine Run.wk (s' := ⟨tms [(2, .ptr 2 0), (3, .ptr 3 0), (4, .os 8 0), (5, .int .i64 (q2x t 16)), (6, .int .i64 16)], mms [(2, .cells [.nil, .nil]), (3, .cells [.nil, .sl 3 (q0e (q1c t 16))]), (8, .arr 0 1 (q04 (q26 t 16)))]⟩) (have hW := @hst; q0v) ?_
  (focus (have hF := (aI @g0 @q52); (repeat' (first | refine go1 (k:=?_) | with_reducible refine Ny.of ?_ ?_ | (refine Hyp.of ?_; intro hc; (try simp only [hc]); (try simp only [Bh] at hc)))); all_goals clear hF))
  exact Fin.all rfl (by simp [q0m, AVal.stb, q02, q03, fzc, q70]) rfl

section
open Go.ChangeShapes Go.WideShapes Go.ChangeAt Go.RowKit
def VR0 (w : World) (x : AVal) (v : Value) : Prop := ∀ G : Gh, (∀ b, G.ow b = none) → VR (Dm NoM) G (fun _ => False) w x v
structure Opens (P : Program) (t : TypeId) (α : Type) (ok : α → Prop) (c : α → List AVal) (wt : α → Nat) : Prop where
 run : ∀ {H : Type} (enc : TypeId × Value → H) (w : World) (fuel : Nat) (cs : List Value) (d : DataW H) (ps : List MemPlace),
  DataW.trod enc P w 0 (fun _ => true) true fuel t cs = some (d, ps) →
  ∃ x : α, ok x ∧ wt x ≤ Rows.uptoBulk d ∧ cs.length = (c x).length ∧ ∀ (n : Nat) (y : AVal) (v : Value), (c x)[n]? = some y → cs[n]? = some v → VR0 w y v
section
variable {P : Program} {t : TypeId}
def qem (n : Int) : Prop := -9223372036854775808 ≤ n ∧ n ≤ 9223372036854775807
theorem Opens.int (ht : P.underlying t = some (.int .i64)) : Opens P t Int qem (fun n => [.int .i64 n]) (fun _ => 1) := by
 refine ⟨fun {H} enc w fuel cs d ps h => ?_⟩
 obtain ⟨n, rfl, hx, hw⟩ := DataW.trod_int ht h
 have hd : d = .lit (.int .i64 n) := congrArg Prod.fst hx
 subst hd
 refine ⟨n, bounds_i64 hw, by simp [Rows.uptoBulk], rfl, fun i y v hy hv G hG => ?_⟩
 match i with
 | 0 => simp at hy hv; subst hy; subst hv; exact .int _ _
 | i + 1 => simp at hy
theorem Opens.bool (ht : P.underlying t = some .bool) : Opens P t Bool (fun _ => True) (fun n => [.bool n]) (fun _ => 1) := by
 refine ⟨fun {H} enc w fuel cs d ps h => ?_⟩
 obtain ⟨n, rfl, hx⟩ := DataW.trod_bool ht h
 have hd : d = .lit (.bool n) := congrArg Prod.fst hx
 subst hd
 refine ⟨n, trivial, by simp [Rows.uptoBulk], rfl, fun i y v hy hv G hG => ?_⟩
 match i with
 | 0 => simp at hy hv; subst hy; subst hv; exact .bool _
 | i + 1 => simp at hy
theorem Opens.string (ht : P.underlying t = some .string) : Opens P t ByteArray (fun _ => True) (fun s => [.str s]) (fun s => s.size + 1) := by
 refine ⟨fun {H} enc w fuel cs d ps h => ?_⟩
 obtain ⟨n, rfl, hx, hs⟩ := DataW.trod_string ht h
 have hd : d = .lit (.string n.data.toList) := congrArg Prod.fst hx
 subst hd
 refine ⟨n, trivial, ?_, rfl, fun i y v hy hv G hG => ?_⟩
 ·simp only [Rows.uptoBulk, Array.length_toList]
  exact Nat.le_refl _
 ·match i with
  | 0 => simp at hy hv; subst hy; subst hv; exact .str _
  | i + 1 => simp at hy
theorem qyx {H : Type} {α : Type} {wt : α → Nat} : ∀ (es : List (DataW H × List MemPlace)) (l : List α), l.length = es.length → (∀ (i : Nat) x e, l[i]? = some x → es[i]? = some e → wt x ≤ Rows.uptoBulk e.1) → (l.map wt).sum ≤ Rows.uptoBulkAll (es.map (·.1))
 | [], [], _, _ => Nat.le_refl _
 | e :: es, x :: l, hl, h => by
  have h1 := h 0 x e rfl rfl
  have h2 := qyx es l (by simpa using hl) fun i y u hy hu => h (i + 1) y u (by simpa using hy) (by simpa using hu)
  simp only [List.map_cons, List.sum_cons, Rows.uptoBulkAll]
  omega
 | [], _ :: _, hl, _ => by simp at hl
 | _ :: _, [], hl, _ => by simp at hl
theorem addr_add (b off i j : Nat) : ((⟨b, off, none⟩ : Addr).add i).add j = ⟨b, off + i + j, none⟩ := by
 unfold Addr.add
 split <;> split <;> simp_all
def wtL {α : Type} (wt : α → Nat) (l : List α) : Nat := (l.map wt).sum + 1
theorem Opens.slice {e : TypeId} {α : Type} {ok : α → Prop} {c : α → List AVal} {wt : α → Nat} {k : Nat} {mk : α → AVal} (ht : P.underlying t = some (.slice e)) (he : Opens P e α ok c wt) (hcell : P.cellsOf e = k) (hk0 : 0 < k)
 (hmk : ∀ x, (mk x).cells = c x) (hk : ∀ x, (c x).length = k) (hone : ∀ x, ∀ y ∈ c x, y.one = true) : Opens P t (List α) (fun l => ∀ x ∈ l, ok x) (fun l => [.sl k (l.map mk)]) (wtL wt) := by
 refine ⟨fun {H} enc w fuel cs d ps h => ?_⟩
 rcases DataW.trod_slice ht h with ⟨rfl, hx⟩ | ⟨a, len, cap, elems, rest, m, _, rfl, hx, hb, hl, hm, hlen, hel, _, _⟩
 ·have hd : d = .nil := congrArg Prod.fst hx
  subst hd
  refine ⟨[], by simp, by simp [wtL, Rows.uptoBulk], rfl, fun i y v hy hv G hG => ?_⟩
  match i with
  | 0 => simp at hy hv; subst hy; subst hv; exact .slnil k
  | i + 1 => simp at hy
 ·have hd : d = .slice (elems.map (·.1)) (rest.map (·.1)) := congrArg Prod.fst hx
  subst hd
  obtain ⟨b, off, sp⟩ := a
  rcases Nat.eq_zero_or_pos len with h0 | h0
  ·subst h0
   refine ⟨[], by simp, by simp [wtL, Rows.uptoBulk], rfl, fun i y v hy hv G hG => ?_⟩
   match i with
   | 0 => simp at hy hv; subst hy; subst hv; exact .slemp k _ cap
   | i + 1 => simp at hy
  have hspot : sp = none := by
   have h1 := hel 0 h0
   rw [List.getElem?_eq_getElem (by omega), Option.bind_eq_some_iff] at h1
   obtain ⟨cs', h2, h3⟩ := h1
   rw [hcell] at h2
   obtain ⟨_, h4, h5⟩ := World.cells?_some h2
   have h6 := h5 0 hk0
   rw [List.getElem?_eq_getElem (by omega)] at h6
   simp only [Nat.zero_mul, Addr.add, if_true, World.cell?] at h6
   cases sp with
   | none => rfl
   | some q => split at h6 <;> simp at h6
  subst hspot
  rw [hcell] at hel
  have each : ∀ i : _root_.Fin len, ∃ x : α, ok x ∧ (∀ e, elems[i.1]? = some e → wt x ≤ Rows.uptoBulk e.1) ∧ ∀ (j : Nat) (y : AVal), (c x)[j]? = some y → ∃ v, w.cell? ⟨b, off + i.1 * k + j, none⟩ = some v ∧ VR0 w y v := by
   intro i
   have h1 := hel i.1 i.2
   have hi : i.1 < elems.length := by rw [hlen]; exact i.2
   rw [List.getElem?_eq_getElem hi, Option.bind_eq_some_iff] at h1
   obtain ⟨cs', h2, h3⟩ := h1
   obtain ⟨_, h4, h5⟩ := World.cells?_some h2
   obtain ⟨x, ho, hw, hlx, hv⟩ := he.run enc w m cs' elems[i.1].1 elems[i.1].2 h3
   refine ⟨x, ho, fun e he => ?_, fun j y hy => ?_⟩
   ·rw [List.getElem?_eq_getElem hi] at he
    cases he
    exact hw
   ·have hj : j < k := by
     rw [← hk x]
     rcases Nat.lt_or_ge j (c x).length with h | h
     ·exact h
     ·rw [List.getElem?_eq_none h] at hy; cases hy
    have h6 := h5 j hj
    rw [addr_add] at h6
    have hjl : j < cs'.length := by omega
    rw [List.getElem?_eq_getElem hjl] at h6
    exact ⟨_, h6, hv j y _ hy (List.getElem?_eq_getElem hjl)⟩
  let l : List α := List.ofFn fun i : _root_.Fin len => (each i).choose
  have hll : l.length = len := by simp [l]
  have hget : ∀ (i : Nat) (hi : i < len), l[i]? = some (each ⟨i, hi⟩).choose := fun i hi => by simp [l, hi]
  refine ⟨l, fun x hx => ?_, ?_, rfl, fun i y v hy hv G hG => ?_⟩
  ·obtain ⟨i, rfl⟩ := (List.mem_ofFn).1 hx
   exact (each i).choose_spec.1
  ·have := qyx (wt := wt) elems l (by omega) fun i x e hx he => by
    have hi : i < len := by
     rcases Nat.lt_or_ge i len with h | h
     ·exact h
     ·rw [List.getElem?_eq_none (by omega)] at hx; cases hx
    rw [hget i hi] at hx
    cases hx
    exact (each ⟨i, hi⟩).choose_spec.2.1 e he
   simp only [wtL, Rows.uptoBulk]
   omega
  ·match i with
   | i + 1 => simp at hy
   | 0 =>
    simp only [List.getElem?_cons_zero, Option.some.injEq] at hy hv
    subst hy; subst hv
    have hsz : ∀ x ∈ l.map mk, x.cells.length = k := by
     intro x hx
     obtain ⟨z, _, rfl⟩ := List.mem_map.1 hx
     rw [hmk, hk]
    have cellv : ∀ (n : Nat) (x : AVal), (flat (l.map mk))[n]? = some x → ∃ v, w.cell? ⟨b, off + n, none⟩ = some v ∧ VR0 w x v := by
     intro n x hx
     have hn : n < len * k := by
      have h1 := q0o hsz
      rw [List.length_map, hll] at h1
      rcases Nat.lt_or_ge n (len * k) with h | h
      ·exact h
      ·rw [List.getElem?_eq_none (by omega)] at hx; cases hx
     have h1 : n / k < len := Nat.div_lt_of_lt_mul (by rw [Nat.mul_comm]; exact hn)
     have h2 : n % k < k := Nat.mod_lt _ hk0
     have h3 := q91 (sz := k) (xs := l.map mk) (i := n / k) (j := n % k) (x := mk (each ⟨n / k, h1⟩).choose) hsz (by rw [List.getElem?_map, hget _ h1]; rfl) h2
     have e : n / k * k + n % k = n := by rw [Nat.mul_comm]; exact Nat.div_add_mod n k
     rw [e, hmk] at h3
     rw [hx] at h3
     obtain ⟨v, hv, hr⟩ := (each ⟨n / k, h1⟩).choose_spec.2.2 (n % k) x h3.symm
     refine ⟨v, ?_, hr⟩
     rw [← hv]
     congr 2
     simp only
     omega
    have e0 : (l.map mk).length = len := by simp [hll]
    have hsl : VR (Dm NoM) G (fun _ => False) w (.sl k (l.map mk)) (.slice (some ⟨b, off, none⟩) (l.map mk).length cap) := by
     refine .sl k (l.map mk) b off cap (fun n => (w.cell? ⟨b, off + n, none⟩).getD undef) (by omega) (fun _ => ⟨fun h => h, hG b⟩) (fun x hx => ?_) hsz (fun n x hx => ?_) (fun n x hx => ?_)
     ·obtain ⟨z, hz, hx⟩ := List.mem_flatMap.1 hx
      obtain ⟨q, _, rfl⟩ := List.mem_map.1 hz
      rw [hmk] at hx
      exact hone q x hx
     ·obtain ⟨v, hv, _⟩ := cellv n x hx
      rw [hv]; rfl
     ·obtain ⟨v, hv, hr⟩ := cellv n x hx
      simp only [hv, Option.getD_some]
      exact hr G hG
    rw [e0] at hsl
    exact hsl
def OpensF (P : Program) (fs : List Field) (off tot : Nat) (α : Type) (ok : α → Prop) (c : α → List AVal) (wt : α → Nat) : Prop :=
 (∀ x, (c x).length = tot) ∧
 ∀ {H : Type} (enc : TypeId × Value → H) (w : World) (m : Nat) (cs : List Value) (xs : List (DataW H × List MemPlace)), xs.length = fs.length → off + tot ≤ cs.length →
  (∀ (i : Nat) (f : Field), fs[i]? = some f → DataW.trod enc P w 0 (fun _ => true) true m f.type ((cs.drop f.offset).take (P.cellsOf f.type)) = xs[i]?) →
  ∃ x : α, ok x ∧ wt x ≤ Rows.uptoBulkAll (xs.map (·.1)) ∧ ∀ (n : Nat) (y : AVal) (v : Value), (c x)[n]? = some y → cs[off + n]? = some v → VR0 w y v
theorem OpensF.nil (off : Nat) : OpensF P [] off 0 Unit (fun _ => True) (fun _ => []) (fun _ => 0) :=
 ⟨fun _ => rfl, fun enc w m cs xs hl _ _ => ⟨(), trivial, Nat.zero_le _, fun n y v hy => by simp at hy⟩⟩
theorem OpensF.cons {f : Field} {fs : List Field} {off k tot : Nat} {α β : Type} {ok : α → Prop} {ok' : β → Prop} {c : α → List AVal} {c' : β → List AVal} {wt : α → Nat} {wt' : β → Nat}
 (h1 : Opens P f.type α ok c wt) (hk : ∀ x, (c x).length = k) (hc : P.cellsOf f.type = k) (ho : f.offset = off) (h2 : OpensF P fs (off + k) tot β ok' c' wt') :
 OpensF P (f :: fs) off (k + tot) (α × β) (fun x => ok x.1 ∧ ok' x.2) (fun x => c x.1 ++ c' x.2) (fun x => wt x.1 + wt' x.2) := by
 refine ⟨fun x => by rw [List.length_append, hk, h2.1], fun {H} enc w m cs xs hl hlen hx => ?_⟩
 cases xs with
 | nil => simp at hl
 | cons x0 xs =>
  have hx0 := hx 0 f rfl
  simp only [List.getElem?_cons_zero] at hx0
  rw [ho, hc] at hx0
  obtain ⟨x, a1, a2, a3, a4⟩ := h1.run enc w m _ x0.1 x0.2 hx0
  obtain ⟨y, b1, b2, b3⟩ := h2.2 enc w m cs xs (by simpa using hl) (by omega) (fun i g hg => by simpa using hx (i + 1) g (by simpa using hg))
  refine ⟨(x, y), ⟨a1, b1⟩, ?_, fun n z v hz hv => ?_⟩
  ·simp only [List.map_cons, Rows.uptoBulkAll]
   omega
  ·rcases Nat.lt_or_ge n k with hn | hn
   ·rw [List.getElem?_append_left (by rw [hk]; exact hn)] at hz
    refine a4 n z v hz ?_
    rw [List.getElem?_take, if_pos hn, List.getElem?_drop]
    exact hv
   ·rw [List.getElem?_append_right (by rw [hk]; exact hn), hk] at hz
    refine b3 (n - k) z v hz ?_
    rw [show off + k + (n - k) = off + n by omega]
    exact hv
theorem Opens.struct {fs : Array Field} {tot : Nat} {α : Type} {ok : α → Prop} {c : α → List AVal} {wt : α → Nat} (ht : P.underlying t = some (.struct fs)) (hc : P.cellsOf t = tot) (h : OpensF P fs.toList 0 tot α ok c wt) :
 Opens P t α ok c (fun x => wt x + 1) := by
 refine ⟨fun {H} enc w fuel cs d ps hd => ?_⟩
 obtain ⟨xs, n, _, hx, hl, hxl, hf⟩ := DataW.trod_struct ht hd
 have hd : d = .agg (xs.map (·.1)) := congrArg Prod.fst hx
 subst hd
 obtain ⟨x, h1, h2, h3⟩ := h.2 enc w n cs xs (by simpa using hxl) (by omega) (fun i f hi => hf i f (by simpa using hi))
 refine ⟨x, h1, by simp only [Rows.uptoBulk]; omega, by rw [h.1, hl, hc], fun i y v hy hv => h3 i y v hy (by simpa using hv)⟩
theorem Opens.map {α β : Type} {ok : α → Prop} {c : α → List AVal} {wt : α → Nat} {ok' : β → Prop} {c' : β → List AVal} {wt' : β → Nat} (h : Opens P t α ok c wt) (g : α → β) (h1 : ∀ x, ok x → ok' (g x)) (h2 : ∀ x, c' (g x) = c x) (h3 : ∀ x, wt' (g x) ≤ wt x) :
 Opens P t β ok' c' wt' := by
 refine ⟨fun {H} enc w fuel cs d ps hd => ?_⟩
 obtain ⟨x, a1, a2, a3, a4⟩ := h.run enc w fuel cs d ps hd
 exact ⟨g x, h1 x a1, Nat.le_trans (h3 x) a2, by rw [h2]; exact a3, by rw [h2]; exact a4⟩
end
section
variable {P : Program} {t : TypeId}
def zcf (P : Program) (t : TypeId) (α : Type) (ok : α → Prop) (mk : α → AVal) (wt : α → Nat) : Prop :=
 ∀ {H : Type} (enc : TypeId × Value → H) (w : World) (base fuel : Nat) (v : Value) (d : DataW H) (ps : List MemPlace), Value.okWide P w .any base t v →
  DataW.trod enc P w 0 (fun _ => true) true fuel t v.cells.toList = some (d, ps) → ∃ x : α, ok x ∧ wt x ≤ Rows.uptoBulk d ∧ VR0 w (mk x) v
theorem Opens.agg {α : Type} {ok : α → Prop} {c : α → List AVal} {wt : α → Nat} {fs : Array Field} (h : Opens P t α ok c wt) (ht : P.underlying t = some (.struct fs)) : zcf P t α ok (fun x => .agg (c x)) wt := by
 intro H enc w base fuel v d ps hok hd
 unfold Value.okWide at hok
 rw [ht] at hok
 obtain ⟨cs, rfl, hsz, _⟩ := hok
 obtain ⟨x, x1, x2, x3, x4⟩ := h.run enc w fuel cs.toList d ps (by simpa [Value.cells] using hd)
 exact ⟨x, x1, x2, fun G hG => .agg _ _ (by simpa using x3) fun n z u hz hu => x4 n z u hz (by simpa using hu) G hG⟩
theorem Opens.one {α : Type} {ok : α → Prop} {mk : α → AVal} {wt : α → Nat} {u : TypeDesc} (h : Opens P t α ok (fun x => [mk x]) wt) (ht : P.underlying t = some u) (hu : (match u with | .struct _ | .array _ _ => False | _ => True)) : zcf P t α ok mk wt := by
 intro H enc w base fuel v d ps hok hd
 have hv : v.cells.toList = [v] := by
  cases v <;> first | rfl | skip
  unfold Value.okWide at hok
  rw [ht] at hok
  cases u <;> first | exact hu.elim | (simp [Cell.okWide, Cell.ok, ht] at hok; done)
 rw [hv] at hd
 obtain ⟨x, x1, x2, x3, x4⟩ := h.run enc w fuel [v] d ps hd
 exact ⟨x, x1, x2, x4 0 (mk x) v rfl rfl⟩
def OpensA (P : Program) (ts : List TypeId) (α : Type) (ok : α → Prop) (l : α → List AVal) (wt : α → Nat) : Prop :=
 ∀ {H : Type} (enc : TypeId × Value → H) (w : World) (base : Nat) (vs : List Value) (ds : List (DataW H)) (ps : List MemPlace), (∀ (j : Nat) t v, ts[j]? = some t → vs[j]? = some v → Value.okWide P w .any base t v) →
  DataW.TrodAll enc P w 0 (fun _ => true) true ts vs ds ps → ∃ x : α, ok x ∧ wt x ≤ Rows.uptoBulkAll ds ∧ vs.length = (l x).length ∧ ∀ (n : Nat) (y : AVal) (v : Value), (l x)[n]? = some y → vs[n]? = some v → VR0 w y v
theorem OpensA.nil : OpensA P [] Unit (fun _ => True) (fun _ => []) (fun _ => 0) := by
 intro H enc w base vs ds ps _ h
 obtain ⟨rfl, rfl, rfl⟩ := trodAll_nil h
 exact ⟨(), trivial, Nat.zero_le _, rfl, fun n y v hy => by simp at hy⟩
theorem OpensA.cons {ts : List TypeId} {α β : Type} {ok : α → Prop} {ok' : β → Prop} {mk : α → AVal} {l : β → List AVal} {wt : α → Nat} {wt' : β → Nat} (h1 : zcf P t α ok mk wt) (h2 : OpensA P ts β ok' l wt') :
 OpensA P (t :: ts) (α × β) (fun x => ok x.1 ∧ ok' x.2) (fun x => mk x.1 :: l x.2) (fun x => wt x.1 + wt' x.2) := by
 intro H enc w base vs ds ps hok h
 obtain ⟨v, vs', d, ds', p, q, rfl, rfl, rfl, ⟨fuel, hd⟩, hr⟩ := trodAll_cons h
 obtain ⟨x, x1, x2, x3⟩ := h1 enc w base fuel v d p (hok 0 t v rfl rfl) hd
 obtain ⟨y, y1, y2, y3, y4⟩ := h2 enc w base vs' ds' q (fun j t' v' ht hv => hok (j + 1) t' v' (by simpa using ht) (by simpa using hv)) hr
 refine ⟨(x, y), ⟨x1, y1⟩, ?_, by simpa using y3, fun n z u hz hu => ?_⟩
 ·simp only [Rows.uptoBulkAll]
  omega
 ·match n with
  | 0 => simp at hz hu; subst hz; subst hu; exact x3
  | n + 1 => exact y4 n z u (by simpa using hz) (by simpa using hu)
theorem OpensA.map {ts : List TypeId} {α β : Type} {ok : α → Prop} {ok' : β → Prop} {l : α → List AVal} {l' : β → List AVal} {wt : α → Nat} {wt' : β → Nat} (h : OpensA P ts α ok l wt) (g : α → β) (h1 : ∀ x, ok x → ok' (g x)) (h2 : ∀ x, l' (g x) = l x) (h3 : ∀ x, wt' (g x) ≤ wt x) :
 OpensA P ts β ok' l' wt' := by
 intro H enc w base vs ds ps hok ht
 obtain ⟨x, x1, x2, x3, x4⟩ := h enc w base vs ds ps hok ht
 exact ⟨g x, h1 x x1, Nat.le_trans (h3 x) x2, by rw [h2]; exact x3, by rw [h2]; exact x4⟩
end
theorem qku {H : Type} {enc : TypeId × Value → H} {P : Program} (hl : laidOutB P = true) {W W' : World} (hb : Below W.heap.size W W') : ∀ {ts : List TypeId} {vs : List Value} {ds : List (DataW H)} {ps : List MemPlace}, (∀ t ∈ ts, P.readableRec t = true ∧ t < P.types.size) →
 DataW.TrodAll enc P W 0 (fun _ => true) true ts vs ds ps → (∀ x ∈ ps, x.block < W.heap.size) → DataW.TrodAll enc P W' 0 (fun b => decide (b < W.heap.size)) true ts vs ds ps
 | [], vs, ds, ps, _, h, _ => by
  obtain ⟨rfl, rfl, rfl⟩ := trodAll_nil h
  exact trodAll_mk0
 | t :: ts, vs, ds, ps, hr, h, hlt => by
  obtain ⟨v, vs', d, ds', p, q, rfl, rfl, rfl, hd, hrest⟩ := trodAll_cons h
  have h1 := hr t (by simp)
  exact trodAll_cons_mk (Below.trod hl h1.1 h1.2 hd hb fun x hx => hlt x (by simp [hx])) (qku hl hb (fun t' ht' => hr t' (by simp [ht'])) hrest fun x hx => hlt x (by simp [hx]))
theorem qkf {P : Program} {f : FuncId} {fn : Func} {α : Type} {ok : α → Prop} {l : α → List AVal} {wt : α → Nat} {s : ChangeSpec} (hfn : P.funcs[f]? = some fn) (hr : fn.resultTypes = #[4]) (hb : P.underlying 4 = some .bool)
 (hl : laidOutB P = true) (hre : ∀ t ∈ fn.params.toList, P.readableRec t = true ∧ t < P.types.size) (hvars : s.vars = [])
 (hsfn : ∀ (H : Type) (ds : List (DataW H)), ds.length = fn.params.size → s.fn H ds = { results := [.lit (.bool true)], args := ds })
 (ho : OpensA P fn.params.toList α ok l wt) (hEv : ∀ x, ok x → wt x ≤ 1048576 → Ev P f (l x) (.ret (.bool true)))
 (H : Type) (enc : TypeId × Value → H) (W : World) (base : Nat) (args : Array Value) (ds gs : List (DataW H)) (before : List MemPlace)
 (hval : ∀ (j : Nat) t v, fn.params[j]? = some t → args[j]? = some v → Value.okWide P W .any base t v)
 (hW : DataW.Whole enc P fn.params.toList s.vars false W args.toList ds gs before) (hk : Rows.uptoSmall H (ds ++ gs) = true) :
 Calls P f args W fun e W' => ∃ v, e = .returned v ∧ s.post enc P fn false true false false W args v W' := by
 have hW' := hW
 obtain ⟨p, q, hA, hV, rfl, hfz, hnd⟩ := hW
 rw [hvars] at hV
 obtain ⟨rfl, rfl⟩ := trodVars_none hV
 obtain ⟨x, x1, x2, x3, x4⟩ := ho enc W base args.toList ds p (fun j t v ht hv => hval j t v (by simpa using ht) (by simpa using hv)) hA
 have hlen : ds.length = fn.params.size := by
  have : ∀ (ts : List TypeId) (vs : List Value) (ds : List (DataW H)) (ps : List MemPlace), DataW.TrodAll enc P W 0 (fun _ => true) true ts vs ds ps → ds.length = ts.length := by
   intro ts
   induction ts with
   | nil => intro vs ds ps h; obtain ⟨_, rfl, _⟩ := trodAll_nil h; rfl
   | cons t ts ih =>
    intro vs ds ps h
    obtain ⟨v, vs', d, ds', p, q, rfl, rfl, rfl, _, hr⟩ := trodAll_cons h
    simp [ih _ _ _ hr]
  simpa using this _ _ _ _ hA
 have hsmall : Rows.uptoBulkAll ds ≤ 1048576 := by
  have : Rows.uptoBulkAll (ds ++ []) ≤ 1048576 := of_decide_eq_true hk
  simpa using this
 have hcall := (hEv x x1 (by omega)).2 (fun _ => False) W args ⟨fun _ => 0, fun _ _ => .int .i64 0, fun _ => none, fun _ _ => rfl⟩ (fun _ => rfl) (by simpa using x3) (fun i y v hy hv => x4 i y v hy (by simpa using hv) _ (fun _ => rfl)) (fun _ h => h.elim)
 refine hcall.mono ?_
 rintro e W' ⟨G', v', hG', hAdv, he, hr'⟩
 cases hr'
 subst he
 have hbel : Below W.heap.size W W' := ⟨hAdv.os.1, hAdv.tape, hAdv.output, hAdv.size, fun b hb => (hAdv.keep b hb rfl).1⟩
 have hlt : ∀ z ∈ p, z.block < W.heap.size := fun z hz => by simpa using hW'.lt z (by simpa using hz)
 refine ⟨.bool true, rfl, ds, [], p ++ [], [], p, [], hW', ?_, ?_, ?_, hbel.frame _, fun h => by cases h⟩
 ·rw [hr, List.append_nil, hsfn H ds hlen]
  exact trodAll_cons_mk (p' := []) (shut_bool hb _) trodAll_mk0
 ·rw [List.append_nil, hsfn H ds hlen]
  exact qku hl hbel hre hA hlt
 ·rw [hvars, List.append_nil, hsfn H ds hlen]
  rfl
theorem qmr {P : Program} {f : FuncId} {fn : Func} {t : TypeId} {fs : Array Field} {α : Type} {ok : α → Prop} {c : α → List AVal} {wt : α → Nat} {s : ChangeSpec} (hfn : P.funcs[f]? = some fn) (hp : fn.params = #[t]) (hr : fn.resultTypes = #[4]) (hb : P.underlying 4 = some .bool)
 (ht : P.underlying t = some (.struct fs)) (hl : laidOutB P = true) (hre : P.readableRec t = true) (hrow : t < P.types.size) (hvars : s.vars = [])
 (hsfn : ∀ (H : Type) (d : DataW H), s.fn H [d] = { results := [.lit (.bool true)], args := [d] })
 (ho : Opens P t α ok c wt) (hEv : ∀ x, ok x → wt x ≤ 1048576 → Ev P f [.agg (c x)] (.ret (.bool true)))
 (H : Type) (enc : TypeId × Value → H) (W : World) (base : Nat) (args : Array Value) (ds gs : List (DataW H)) (before : List MemPlace)
 (hval : ∀ (j : Nat) t v, fn.params[j]? = some t → args[j]? = some v → Value.okWide P W .any base t v)
 (hW : DataW.Whole enc P fn.params.toList s.vars false W args.toList ds gs before) (hk : Rows.uptoSmall H (ds ++ gs) = true) :
 Calls P f args W fun e W' => ∃ v, e = .returned v ∧ s.post enc P fn false true false false W args v W' :=
 qkf (α := α × Unit) (l := fun x => [.agg (c x.1)]) (wt := fun x => wt x.1 + 0) hfn hr hb hl (by rw [hp]; intro t' h'; simp at h'; subst h'; exact ⟨hre, hrow⟩) hvars
  (fun H ds h => by
   rw [hp] at h
   match ds, h with
   | [d], _ => exact hsfn H d)
  (by rw [hp]; exact OpensA.cons (ho.agg ht) OpensA.nil) (ok := fun x => ok x.1 ∧ True) (fun (x : α × Unit) (hx : ok x.1 ∧ True) hw => hEv x.1 hx.1 hw) H enc W base args ds gs before hval hW hk
end
theorem q4b : Tryz.prog.cellsOf 3 = 1 := by kernel_rfl
theorem z0a : Tryz.prog.cellsOf 22 = 1 := by kernel_rfl
theorem qmt : Tryz.prog.cellsOf 23 = 1 := by kernel_rfl
theorem qde : Tryz.prog.cellsOf 82 = 3 := by kernel_rfl
theorem qkm : Tryz.prog.cellsOf 43 = 2 := by kernel_rfl
theorem q6y : Tryz.prog.cellsOf 25 = 2 := by kernel_rfl
theorem qb3 : Opens Tryz.prog 3 Int qem (fun n => [.int .i64 n]) (fun _ => 1) := Opens.int Tryz.underlying3
theorem op_ints : Opens Tryz.prog 22 (List Int) (fun l => ∀ x ∈ l, qem x) (fun l => [.sl 1 (q04 l)]) (wtL fun _ => 1) :=
 Opens.slice (mk := encI) Tryz.underlying22 qb3 q4b (by decide) (fun _ => rfl) (fun _ => rfl) (fun x y hy => by simp at hy; subst hy; rfl)
def okS (s : Sn) : Prop := qem s.1 ∧ qem s.2.1 ∧ qem s.2.2
theorem op_Span : Opens Tryz.prog 82 Sn okS (fun s => [.int .i64 s.1, .int .i64 s.2.1, .int .i64 s.2.2]) (fun _ => 1) :=
 (Opens.struct Tryz.underlying82 qde (OpensF.cons (k := 1) qb3 (fun _ => rfl) q4b rfl (OpensF.cons (k := 1) qb3 (fun _ => rfl) q4b rfl (OpensF.cons (k := 1) qb3 (fun _ => rfl) q4b rfl (OpensF.nil _))))).map
  (fun x => (x.1, x.2.1, x.2.2.1)) (fun x h => ⟨h.1, h.2.1, h.2.2.1⟩) (fun _ => rfl) (fun _ => Nat.le_add_left _ _)
theorem op_spans : Opens Tryz.prog 23 (List Sn) (fun l => ∀ x ∈ l, okS x) (fun l => [.sl 3 (q0e l)]) (wtL fun _ => 1) :=
 Opens.slice (mk := encS) Tryz.underlying23 op_Span
  qde (by decide) (fun _ => rfl) (fun _ => rfl) (fun x y hy => by simp at hy; rcases hy with rfl | rfl | rfl <;> rfl)
def okD (s : Rn) : Prop := qem s.1 ∧ qem s.2
theorem op_Dot : Opens Tryz.prog 43 Rn okD (fun x => [.int .i64 x.1, .int .i64 x.2]) (fun _ => 1) :=
 (Opens.struct Tryz.underlying43 qkm (OpensF.cons (k := 1) qb3 (fun _ => rfl) q4b rfl (OpensF.cons (k := 1) qb3 (fun _ => rfl) q4b rfl (OpensF.nil _)))).map
  (fun x => (x.1, x.2.1)) (fun x h => ⟨h.1, h.2.1⟩) (fun _ => rfl) (fun _ => Nat.le_add_left _ _)
def okP (p : Pst) : Prop := (∀ x ∈ p.vec, qem x) ∧ ∀ s ∈ p.cloud, okS s
theorem q7a {α : Type} (l : List α) : wtL (fun _ => 1) l = l.length + 1 := by
 unfold wtL
 induction l with
 | nil => rfl
 | cons x l ih => simp only [List.map_cons, List.sum_cons, List.length_cons]; omega
theorem qm3 : Opens Tryz.prog 25 Pst okP (fun p => [.sl 1 (q04 p.vec), .sl 3 (q0e p.cloud)]) wt :=
 (Opens.struct Tryz.underlying25 q6y (OpensF.cons (k := 1) op_ints (fun _ => rfl) z0a rfl (OpensF.cons (k := 1) op_spans (fun _ => rfl) qmt rfl (OpensF.nil _)))).map (fun x => ⟨x.1, x.2.1⟩) (fun x h => ⟨h.1, h.2.1⟩) (fun _ => rfl)
  (fun x => by show x.1.length + x.2.1.length ≤ wtL (fun _ => 1) x.1 + (wtL (fun _ => 1) x.2.1 + 0) + 1; rw [q7a, q7a]; omega)
structure Cas where
 a : Pst
 b : Pst
 c : Pst
 ds : List Rn
 rep : Int
 most : Int
theorem own : ownKnob Tryz.prog.godebug = none := by kernel_rfl


def bothR (x y : Rn) : Rn := (max x.1 y.1, min x.2 y.2)
def one0 (r : Rn) : List Rn := if r.1 ≤ r.2 then [r] else []
def meetR : List Rn → List Rn → List Rn
 | [], _ => []
 | _ :: _, [] => []
 | x :: l, y :: m => one0 (bothR x y) ++ if x.2 < y.2 then meetR l (y :: m) else meetR (x :: l) m
termination_by l m => l.length + m.length
structure MtS where
 i : Nat
 j : Nat
 o : List Rn
def qcu : Int → List Rn → List Rn
 | k, [] => one0 (k, 1000000000)
 | k, r :: l => (if k < r.1 then [(k, r.1 - 1)] else []) ++ qcu (r.2 + 1) l
def othersR (l : List Rn) : List Rn := qcu 1 l
structure OtS where
 i : Nat
 k : Int
 o : List Rn

def minusR (a b : List Rn) : List Rn := meetR (q12 a) (q12 (othersR (q12 b)))

def qvb : List SOp := [zO 1 (.box 25 (.tmp 0)),zO 2 (.assign (.const (.bool false)))]
instance : Live qvb := ⟨[0]⟩
def qva : List SOp := [zL 3 25 1,zO 4 (.call ⟨.value (.func 144),#[.tmp 3],#[25]⟩),zO 5 (.binOp .eql 3 (.tmp 4) (.const (.int .i64 0)) 3),zG 2 5]
instance : Live qva := ⟨[1]⟩
def t_k127 : SC :=
 (.seq (.ops false qvb) (.seq (.ops false qva) .ret))
theorem it_k127 : FnIs Tryz.prog 127 6 [.tmp 2] t_k127 := ⟨Tryz.f127, _, Tryz.func127, rfl, rfl, rfl, rfl, by kernel_rfl⟩

def WithP (t u : Tab) : Prop := ∀ r, r < 16 → minusR (t.getD r []) (u.getD r []) = []
open Classical in
noncomputable def withinP (p q : Pst) : Bool := decide (WithP (q27 [p]) (q27 [q]))
theorem ev_k127 (p : Pst) (hp : wt p ≤ 50000000) : Ev (En Tryz.prog rfl).P 127 [q1k p] (.ret (.bool (decide (q7s p = 0)))) := by
 refine Ev.of_body it_k127 (by simp) (Run.start ?_)
 unfold t_k127 q1k
 (focus (have hF := True.intro; (repeat' (first | refine go1 (k:=?_) | with_reducible refine Ny.of ?_ ?_ | (refine Hyp.of ?_; intro hc; (try simp only [hc]); (try simp only [Bh] at hc)))); all_goals clear hF))
 refine q05 [q1k p] (he := ev_k144 p hp) (k:=?_)
 (focus (have hF := True.intro; (repeat' (first | refine go1 (k:=?_) | with_reducible refine Ny.of ?_ ?_ | (refine Hyp.of ?_; intro hc; (try simp only [hc]); (try simp only [Bh] at hc)))); all_goals clear hF))
 exact Fin.tmp' rfl rfl



def za5 : List SOp := [zO 1 (.box 25 (.tmp 0)),zO 2 (.alloc 25)]
instance : Live za5 := ⟨[0]⟩
def za4 : List SOp := [zL 3 25 1,zO 4 (.call ⟨.value (.func 44),#[.tmp 3],#[25]⟩),zO 5 (.call ⟨.value (.func 43),#[.tmp 4],#[88]⟩),⟨none,.store 25 (.tmp 2) (.tmp 5),none⟩]
instance : Live za4 := ⟨[1,2]⟩
def t_k11 : SC :=
 (.seq (.ops false za5) (.seq (.ops false za4) .ret))
theorem it_k11 : FnIs Tryz.prog 11 6 [.cell 2 25] t_k11 := ⟨Tryz.f11, _, Tryz.func11, rfl, rfl, rfl, rfl, by kernel_rfl⟩

theorem ev_k44 (p : Pst) (hw : wt p ≤ 800000000) : Ev (En Tryz.prog rfl).P 44 [q1k p] (.ret (.agg (q11 (qjm [p])))) :=
 zbj p (qjm [p]) (zap [p]) (ev_k88 [p] (by simp) (by simpa using hw))
theorem z06 (K : Nat → Bool) (M : Mem) (t : List (List Int)) : (q11 t).map (fzc K M) = q11 t := by
 unfold q11
 rw [List.map_map]
 rfl
theorem zbs (p : Pst) (hw : wt p ≤ 40000000) : Ev (En Tryz.prog rfl).P 11 [q1k p] (.ret (q1k (q29 p))) := by
 have c1 := ev_k44 p (by omega)
 have c2 := ev_k43 (q27 [p]) (n := wt p) (by simpa using q3s [p]) (by omega)
 refine Ev.of_body it_k11 (by simp) (Run.start ?_)
 unfold t_k11 q1k
 have hS := q3z
 have hL := z06
 (focus (have hF := True.intro; (repeat' (first | refine go1 (k:=?_) | with_reducible refine Ny.of ?_ ?_ | (refine Hyp.of ?_; intro hc; (try simp only [hc]); (try simp only [Bh] at hc)))); all_goals clear hF))
 refine q05 [q1k p] (he := c1) (k:=?_)
 (focus (have hF := True.intro; (repeat' (first | refine go1 (k:=?_) | with_reducible refine Ny.of ?_ ?_ | (refine Hyp.of ?_; intro hc; (try simp only [hc]); (try simp only [Bh] at hc)))); all_goals clear hF))
 refine q05 [.agg (q11 (qjm [p]))] (he := c2) (k:=?_)
 unfold q29 q1k
 (focus (have hF := True.intro; (repeat' (first | refine go1 (k:=?_) | with_reducible refine Ny.of ?_ ?_ | (refine Hyp.of ?_; intro hc; (try simp only [hc]); (try simp only [Bh] at hc)))); all_goals clear hF))
 exact Fin.all rfl (by simp [q0m, AVal.stb, q02, q03, fzc, q70]) rfl

def qv7 : List SOp := [zO 2 (.box 25 (.tmp 0)),zO 3 (.box 25 (.tmp 1)),zO 4 (.assign (.const (.int .i64 0)))]
instance : Live qv7 := ⟨[0,1]⟩
def qv6 : List SOp := [zL 10 25 2,zO 11 (.call ⟨.value (.func 89),#[.tmp 10],#[25]⟩),zL 12 25 3,zO 13 (.call ⟨.value (.func 89),#[.tmp 12],#[25]⟩),zO 5 (.alloc 25),zO 6 (.alloc 25),⟨none,.store 25 (.tmp 5) (.tmp 11),none⟩,⟨none,.store 25 (.tmp 6) (.tmp 13),none⟩]
instance : Live qv6 := ⟨[2,3]⟩
def qv5 : List SOp := [zO 14 (.move (.const (.int .i64 0)))]
instance : Live qv5 := ⟨[5,6]⟩
def qv4 : List SOp := [zO 15 (.binOp .lss 3 (.tmp 14) (.const (.int .i64 16)) 3)]
instance : Live qv4 := ⟨[5,6,14]⟩
def qv3 : List SOp := [zM 16 14,zG 7 16]
instance : Live qv3 := ⟨[5,6,14]⟩
def qv2 : List SOp := [zO 8 (.assign (.const (.int .i64 0))),zO 9 (.assign (.const (.int .i64 0)))]
instance : Live qv2 := ⟨[5,6,7,14]⟩
def qv1 : List SOp := [zM 17 7,zF 18 25 5 0,zL 19 22 18,zO 20 (.call ⟨.builtin .len,#[.tmp 19],#[22]⟩),zO 21 (.binOp .lss 3 (.tmp 17) (.tmp 20) 3)]
instance : Live qv1 := ⟨[5,6,7,8,9,14]⟩
def qv0 : List SOp := [zF 22 25 5 0,zL 23 22 22,zM 24 7,zI 25 22 23 24,zL 26 3 25,zG 8 26]
instance : Live qv0 := ⟨[5,6,7,9,14]⟩
def quz : List SOp := [zM 27 7,zF 28 25 6 0,zL 29 22 28,zO 30 (.call ⟨.builtin .len,#[.tmp 29],#[22]⟩),zO 31 (.binOp .lss 3 (.tmp 27) (.tmp 30) 3)]
instance : Live quz := ⟨[5,6,7,8,9,14]⟩
def qhp : List SOp := [zF 32 25 6 0,zL 33 22 32,zM 34 7,zI 35 22 33 34,zL 36 3 35,zG 9 36]
instance : Live qhp := ⟨[5,6,7,8,14]⟩
def qho : List SOp := [zM 37 8,zM 38 9,zO 39 (.binOp .neq 3 (.tmp 37) (.tmp 38) 3)]
instance : Live qho := ⟨[5,6,8,9,14]⟩
def qhn : List SOp := [zM 40 8,zM 41 9,zO 42 (.call ⟨.value (.func 146),#[.tmp 40,.tmp 41],#[3,3]⟩),zG 4 42]
instance : Live qhn := ⟨[8,9]⟩
def qhm : List SOp := [zO 43 (.binOp .add 3 (.tmp 14) (.const (.int .i64 1)) 3),zM 14 43]
instance : Live qhm := ⟨[5,6,14]⟩
def qhl : List SOp := [zF 44 25 5 1,zL 45 23 44,zF 46 25 6 1,zL 47 23 46,zO 48 (.call ⟨.value (.func 147),#[.tmp 45,.tmp 47,.func 148],#[23,23,185]⟩),zG 4 48]
instance : Live qhl := ⟨[5,6]⟩
def qfy : SC :=
 (.seq (.ops false qv4) (.seq (.cond (.tmp 15) .skip (.exit 0)) (.seq (.block 1 (.seq (.ops false qv3) (.seq (.ops false qv2) (.seq (.seq (.ops false qv1) (.cond (.tmp 21) (.ops false qv0) .skip)) (.seq (.seq (.ops false quz) (.cond (.tmp 31) (.ops false qhp) .skip)) (.seq (.ops false qho) (.cond (.tmp 39) (.seq (.ops false qhn) .ret) .skip))))))) (.ops false qhm))))
def t_k129 : SC :=
 (.seq (.ops false qv7) (.seq (.ops true qv6) (.seq (.seq (.ops false qv5) (.block 0 (.loop qfy))) (.seq (.ops false qhl) .ret))))
theorem it_k129 : FnIs Tryz.prog 129 49 [.tmp 4] t_k129 := ⟨Tryz.f129, _, Tryz.func129, rfl, rfl, rfl, rfl, by kernel_rfl⟩

theorem ev_k129 (p q : Pst) (hp : wt p ≤ 50000000) (hq : wt q ≤ 50000000) : Ev (En Tryz.prog rfl).P 129 [q1k p, q1k q] (.ret (.int .i64 (cmpP p q))) := by
 refine Ev.of_body it_k129 (by simp) (Run.start ?_)
 unfold t_k129 q1k
 have c1 := zbi p (by omega)
 have c2 := zbi q (by omega)
 have h1 := q6n p
 have h2 := q6n q
 have hr : cmpP p q = q72 (ql5 (q29 p)) (ql5 (q29 q)) := rfl
 rw [hr]
 (focus (have hF := True.intro; (repeat' (first | refine go1 (k:=?_) | with_reducible refine Ny.of ?_ ?_ | (refine Hyp.of ?_; intro hc; (try simp only [hc]); (try simp only [Bh] at hc)))); all_goals clear hF))
 refine q05 [q1k p] (he := c1) (k:=?_)
 (focus (have hF := True.intro; (repeat' (first | refine go1 (k:=?_) | with_reducible refine Ny.of ?_ ?_ | (refine Hyp.of ?_; intro hc; (try simp only [hc]); (try simp only [Bh] at hc)))); all_goals clear hF))
 refine q05 [q1k q] (he := c2) (k:=?_)
 clear c1 c2 hr
 generalize q29 p = x at h1 ⊢
 generalize q29 q = y at h2 ⊢
 unfold q1k
 have hw1 : x.vec.length + x.cloud.length = wt x := rfl
 have hw2 : y.vec.length + y.cloud.length = wt y := rfl
 have e1 := q0b x.vec
 have e2 := q0b y.vec
 (focus (have hF := (aI @e1 @e2); (repeat' (first | refine go1 (k:=?_) | with_reducible refine Ny.of ?_ ?_ | (refine Hyp.of ?_; intro hc; (try simp only [hc]); (try simp only [Bh] at hc)))); all_goals clear hF))
 refine Run.while (σ := Nat) (fun i => ⟨tms [(5, .ptr 5 0), (6, .ptr 6 0), (14, .int .i64 (i : Int))], mms [(5, .cells [.sl 1 (q04 x.vec), .sl 3 (q0e x.cloud)]), (6, .cells [.sl 1 (q04 y.vec), .sl 3 (q0e y.cloud)])]⟩) (fun i => i ≤ 16 ∧ ∀ j, j < i → vv x j = vv y j) (fun i => 16 - i) 0 (have hW := (aI @q02 @q03); q0v) ⟨Nat.zero_le _, fun j hj => absurd hj (Nat.not_lt_zero _)⟩ ?_
 rintro i ⟨hi, hp⟩
 unfold qfy
 by_cases hlt : i < 16
 ·have hne : vv x i ≠ vv y i → q72 (ql5 x) (ql5 y) = q5y (vv x i) (vv y i) := fun hn =>
   qmb (qza x) (qza y) i _ _ _ _ (q4d x hlt) (q4d y hlt) (fun j hj => by rw [q4d x (by omega), q4d y (by omega), hp j hj]) hn
  have heq : vv x i = vv y i → ∀ j, j < i + 1 → vv x j = vv y j := fun he j hj => by
   by_cases e : j = i
   ·rw [e]; exact he
   ·exact hp j (by omega)
  have k1 := qev (vv x i) (vv y i)
  unfold vv at hne heq k1
  by_cases hx : i < x.vec.length
  ·have g1 : (q04 x.vec)[i]? = some (.int .i64 (q2d x.vec i)) := q0q (by unfold q2d; rw [List.getD_eq_getElem?_getD, List.getElem?_eq_getElem hx]; rfl)
   simp only [if_pos hx] at hne heq k1
   by_cases hy : i < y.vec.length
   ·have g2 : (q04 y.vec)[i]? = some (.int .i64 (q2d y.vec i)) := q0q (by unfold q2d; rw [List.getD_eq_getElem?_getD, List.getElem?_eq_getElem hy]; rfl)
    simp only [if_pos hy] at hne heq k1
    (focus (have hF := (aI (aI @e1 @e2) (aI @g1 @g2)); (repeat' (first | refine go1 (k:=?_) | with_reducible refine Ny.of ?_ ?_ | (refine Hyp.of ?_; intro hc; (try simp only [hc]); (try simp only [Bh] at hc)))); all_goals clear hF))
    ·rw [hne hc]
     refine q05 [.int .i64 (q2d x.vec i), .int .i64 (q2d y.vec i)] (he := k1) (k:=?_)
     (focus (have hF := True.intro; (repeat' (first | refine go1 (k:=?_) | with_reducible refine Ny.of ?_ ?_ | (refine Hyp.of ?_; intro hc; (try simp only [hc]); (try simp only [Bh] at hc)))); all_goals clear hF))
     exact Fin.tmp' rfl rfl
    ·have h := heq hc
     (refine Fin.nextW (i + 1) ?_ (have hW := (aI @q02 @q03); q0v); (try dsimp only))
     exact ⟨⟨hlt, h⟩, by omega⟩
   ·simp only [if_neg hy] at hne heq k1
    (focus (have hF := (aI @e1 (aI @e2 @g1)); (repeat' (first | refine go1 (k:=?_) | with_reducible refine Ny.of ?_ ?_ | (refine Hyp.of ?_; intro hc; (try simp only [hc]); (try simp only [Bh] at hc)))); all_goals clear hF))
    ·rw [hne hc]
     refine q05 [.int .i64 (q2d x.vec i), .int .i64 0] (he := k1) (k:=?_)
     (focus (have hF := True.intro; (repeat' (first | refine go1 (k:=?_) | with_reducible refine Ny.of ?_ ?_ | (refine Hyp.of ?_; intro hc; (try simp only [hc]); (try simp only [Bh] at hc)))); all_goals clear hF))
     exact Fin.tmp' rfl rfl
    ·have h := heq hc
     (refine Fin.nextW (i + 1) ?_ (have hW := (aI @q02 @q03); q0v); (try dsimp only))
     exact ⟨⟨hlt, h⟩, by omega⟩
  ·simp only [if_neg hx] at hne heq k1
   by_cases hy : i < y.vec.length
   ·have g2 : (q04 y.vec)[i]? = some (.int .i64 (q2d y.vec i)) := q0q (by unfold q2d; rw [List.getD_eq_getElem?_getD, List.getElem?_eq_getElem hy]; rfl)
    simp only [if_pos hy] at hne heq k1
    (focus (have hF := (aI @e1 (aI @e2 @g2)); (repeat' (first | refine go1 (k:=?_) | with_reducible refine Ny.of ?_ ?_ | (refine Hyp.of ?_; intro hc; (try simp only [hc]); (try simp only [Bh] at hc)))); all_goals clear hF))
    ·rw [hne hc]
     refine q05 [.int .i64 0, .int .i64 (q2d y.vec i)] (he := k1) (k:=?_)
     (focus (have hF := True.intro; (repeat' (first | refine go1 (k:=?_) | with_reducible refine Ny.of ?_ ?_ | (refine Hyp.of ?_; intro hc; (try simp only [hc]); (try simp only [Bh] at hc)))); all_goals clear hF))
     exact Fin.tmp' rfl rfl
    ·have h := heq hc
     (refine Fin.nextW (i + 1) ?_ (have hW := (aI @q02 @q03); q0v); (try dsimp only))
     exact ⟨⟨hlt, h⟩, by omega⟩
   ·simp only [if_neg hy] at hne heq k1
    (focus (have hF := (aI @e1 @e2); (repeat' (first | refine go1 (k:=?_) | with_reducible refine Ny.of ?_ ?_ | (refine Hyp.of ?_; intro hc; (try simp only [hc]); (try simp only [Bh] at hc)))); all_goals clear hF))
    have h := heq trivial
    (refine Fin.nextW (i + 1) ?_ (have hW := (aI @q02 @q03); q0v); (try dsimp only))
    exact ⟨⟨hlt, h⟩, by omega⟩
 ·have hv : qza x = qza y := by
   unfold qza
   exact List.map_congr_left fun j hj => hp j (by rw [List.mem_range] at hj; omega)
  have k2 := q73 x.cloud y.cloud (by omega) (by omega)
  have hk : q72 (ql5 x) (ql5 y) = qf9 x.cloud y.cloud := by
   unfold ql5
   rw [hv, qej, qbu]
  rw [hk]
  (focus (have hF := (aI @e1 @e2); (repeat' (first | refine go1 (k:=?_) | with_reducible refine Ny.of ?_ ?_ | (refine Hyp.of ?_; intro hc; (try simp only [hc]); (try simp only [Bh] at hc)))); all_goals clear hF))
  refine q05 [.sl 3 (q0e x.cloud), .sl 3 (q0e y.cloud), .fn 148 []] (he := k2) (k:=?_)
  (focus (have hF := (aI @e1 @e2); (repeat' (first | refine go1 (k:=?_) | with_reducible refine Ny.of ?_ ?_ | (refine Hyp.of ?_; intro hc; (try simp only [hc]); (try simp only [Bh] at hc)))); all_goals clear hF))
  exact Fin.tmp' rfl rfl


theorem bool_eq {a b : Bool} (h : a = true ↔ b = true) : a = b := by cases a <;> cases b <;> simp_all


def qu2 : List SOp := [zO 1 (.box 25 (.tmp 0)),zO 2 (.assign (.const (.int .i64 0)))]
instance : Live qu2 := ⟨[0]⟩
def qu1 : List SOp := [zL 7 25 1,zO 8 (.call ⟨.value (.func 44),#[.tmp 7],#[25]⟩),zO 3 (.alloc 88),⟨none,.store 88 (.tmp 3) (.tmp 8),none⟩]
instance : Live qu1 := ⟨[1]⟩
def qu0 : List SOp := [zO 4 (.assign (.const (.int .i64 0)))]
instance : Live qu0 := ⟨[3]⟩
def qtz : List SOp := [zO 5 (.assign (.const (.int .i64 0)))]
instance : Live qtz := ⟨[3,4]⟩
def qtx : List SOp := [zM 9 5,zO 10 (.binOp .lss 3 (.tmp 9) (.const (.int .i64 16)) 3)]
instance : Live qtx := ⟨[3,4,5]⟩
def qtw : List SOp := [zO 6 (.assign (.const (.int .i64 0)))]
instance : Live qtw := ⟨[3,4,5]⟩
def qtv : List SOp := [zM 13 6,zO 14 (.binOp .add 3 (.tmp 13) (.const (.int .i64 1)) 3),zM 15 5,zF 16 88 3 0,zI 17 86 16 15,zL 18 22 17,zO 19 (.call ⟨.builtin .len,#[.tmp 18],#[22]⟩),zO 20 (.binOp .lss 3 (.tmp 14) (.tmp 19) 3)]
instance : Live qtv := ⟨[3,4,5,6]⟩
def qtu : List SOp := [zM 23 4,zM 24 5,zF 25 88 3 0,zI 26 86 25 24,zL 27 22 26,zM 28 6,zO 29 (.binOp .add 3 (.tmp 28) (.const (.int .i64 1)) 3),zI 30 22 27 29,zL 31 3 30,zM 32 5,zF 33 88 3 0,zI 34 86 33 32,zL 35 22 34,zM 36 6,zI 37 22 35 36,zL 38 3 37,zO 39 (.binOp .sub 3 (.tmp 31) (.tmp 38) 3),zO 40 (.binOp .add 3 (.tmp 23) (.tmp 39) 3),zG 4 40]
instance : Live qtu := ⟨[3,4,5,6]⟩
def qtt : List SOp := [zM 21 6,zO 22 (.binOp .add 3 (.tmp 21) (.const (.int .i64 2)) 3),zG 6 22]
instance : Live qtt := ⟨[3,4,5,6]⟩
def qhb : List SOp := [zM 11 5,zO 12 (.binOp .add 3 (.tmp 11) (.const (.int .i64 1)) 3),zG 5 12]
instance : Live qhb := ⟨[3,4,5]⟩
def qha : List SOp := [zM 41 4,zG 2 41]
instance : Live qha := ⟨[4]⟩
def qfv : SC :=
 (.seq (.seq (.ops false qtv) (.cond (.tmp 20) .skip (.exit 2))) (.seq (.block 3 (.ops true qtu)) (.ops false qtt)))
def qfw : SC :=
 (.seq (.seq (.ops false qtx) (.cond (.tmp 10) .skip (.exit 0))) (.seq (.block 1 (.seq (.ops false qtw) (.block 2 (.loop qfv)))) (.ops false qhb)))
def t_k135 : SC :=
 (.seq (.ops false qu2) (.seq (.ops false qu1) (.seq (.ops false qu0) (.seq (.seq (.ops false qtz) (.block 0 (.loop qfw))) (.seq (.ops false qha) .ret)))))
theorem it_k135 : FnIs Tryz.prog 135 42 [.tmp 2] t_k135 := ⟨Tryz.f135, _, Tryz.func135, rfl, rfl, rfl, rfl, by kernel_rfl⟩

def qww : List SOp := [zO 1 (.box 25 (.tmp 0)),zO 2 (.assign (.const (.bool false)))]
instance : Live qww := ⟨[0]⟩
def qwv : List SOp := [zL 3 25 1,zO 4 (.call ⟨.value (.func 135),#[.tmp 3],#[25]⟩),zO 5 (.binOp .eql 3 (.tmp 4) (.const (.int .i64 0)) 3),zG 2 5]
instance : Live qwv := ⟨[1]⟩
def t_k109 : SC :=
 (.seq (.ops false qww) (.seq (.ops false qwv) .ret))
theorem it_k109 : FnIs Tryz.prog 109 6 [.tmp 2] t_k109 := ⟨Tryz.f109, _, Tryz.func109, rfl, rfl, rfl, rfl, by kernel_rfl⟩

def qts : List SOp := [zO 4 (.assign (.const (.int .i64 0)))]
instance : Live qts := ⟨[0,1]⟩
def qtr : List SOp := [zM 5 0,zM 6 1,zO 7 (.binOp .lss 3 (.tmp 5) (.tmp 6) 3)]
instance : Live qtr := ⟨[0,1]⟩
def qtq : List SOp := [zO 4 (.assign (.const (.int .i64 (-1))))]
instance : Live qtq := ⟨[]⟩
def qtp : List SOp := [zM 8 0,zM 9 1,zO 10 (.binOp .gtr 3 (.tmp 8) (.tmp 9) 3)]
instance : Live qtp := ⟨[0,1]⟩
def qto : List SOp := [zO 4 (.assign (.const (.int .i64 1)))]
instance : Live qto := ⟨[]⟩
def qtn : List SOp := [zO 4 (.assign (.const (.int .i64 0)))]
instance : Live qtn := ⟨[]⟩
def t_k136 : SC :=
 (.seq (.ops false qts) (.seq (.seq (.ops false qtr) (.cond (.tmp 7) (.seq (.ops false qtq) .ret) .skip)) (.seq (.seq (.ops false qtp) (.cond (.tmp 10) (.seq (.ops false qto) .ret) .skip)) (.seq (.ops false qtn) .ret))))
theorem it_k136 : FnIs Tryz.prog 136 11 [.tmp 4] t_k136 := ⟨Tryz.f136, _, Tryz.func136, rfl, rfl, rfl, rfl, by kernel_rfl⟩

def qwu : List SOp := [zO 2 (.box 25 (.tmp 0)),zO 3 (.box 25 (.tmp 1)),zO 4 (.assign (.const (.int .i64 0)))]
instance : Live qwu := ⟨[0,1]⟩
def qwt : List SOp := [zL 11 25 2,zO 12 (.call ⟨.value (.func 11),#[.tmp 11],#[25]⟩),⟨none,.store 25 (.tmp 2) (.tmp 12),none⟩]
instance : Live qwt := ⟨[2,3]⟩
def qws : List SOp := [zL 13 25 3,zO 14 (.call ⟨.value (.func 11),#[.tmp 13],#[25]⟩),⟨none,.store 25 (.tmp 3) (.tmp 14),none⟩]
instance : Live qws := ⟨[2,3]⟩
def qwr : List SOp := [zO 5 (.assign (.const (.int .i64 0)))]
instance : Live qwr := ⟨[2,3]⟩
def qwq : List SOp := [zM 15 5,zO 16 (.binOp .lss 3 (.tmp 15) (.const (.int .i64 16)) 3)]
instance : Live qwq := ⟨[2,3,5]⟩
def qwp : List SOp := [zO 6 (.assign (.const (.int .i64 0))),zO 7 (.assign (.const (.int .i64 0)))]
instance : Live qwp := ⟨[2,3,5]⟩
def qwo : List SOp := [zM 19 5,zF 20 25 2 0,zL 21 22 20,zO 22 (.call ⟨.builtin .len,#[.tmp 21],#[22]⟩),zO 23 (.binOp .lss 3 (.tmp 19) (.tmp 22) 3)]
instance : Live qwo := ⟨[2,3,5,6,7]⟩
def qwn : List SOp := [zF 24 25 2 0,zL 25 22 24,zM 26 5,zI 27 22 25 26,zL 28 3 27,zG 6 28]
instance : Live qwn := ⟨[2,3,5,7]⟩
def qwm : List SOp := [zM 29 5,zF 30 25 3 0,zL 31 22 30,zO 32 (.call ⟨.builtin .len,#[.tmp 31],#[22]⟩),zO 33 (.binOp .lss 3 (.tmp 29) (.tmp 32) 3)]
instance : Live qwm := ⟨[2,3,5,6,7]⟩
def qj2 : List SOp := [zF 34 25 3 0,zL 35 22 34,zM 36 5,zI 37 22 35 36,zL 38 3 37,zG 7 38]
instance : Live qj2 := ⟨[2,3,5,6]⟩
def qj1 : List SOp := [zM 39 6,zM 40 7,zO 41 (.binOp .neq 3 (.tmp 39) (.tmp 40) 3)]
instance : Live qj1 := ⟨[2,3,5,6,7]⟩
def qj0 : List SOp := [zM 42 6,zM 43 7,zO 44 (.call ⟨.value (.func 136),#[.tmp 42,.tmp 43],#[3,3]⟩),zG 4 44]
instance : Live qj0 := ⟨[6,7]⟩
def qiz : List SOp := [zM 17 5,zO 18 (.binOp .add 3 (.tmp 17) (.const (.int .i64 1)) 3),zG 5 18]
instance : Live qiz := ⟨[2,3,5]⟩
def qiy : List SOp := [zO 8 (.assign (.const (.int .i64 0)))]
instance : Live qiy := ⟨[2,3]⟩
def qix : List SOp := [zM 45 8,zF 46 25 2 1,zL 47 23 46,zO 48 (.call ⟨.builtin .len,#[.tmp 47],#[23]⟩),zO 49 (.binOp .lss 3 (.tmp 45) (.tmp 48) 3),zM 50 49,⟨some 51,.move (.tmp 8),some ((some 50),true)⟩,⟨some 52,.fieldAddr 25 (.tmp 3) 1,some ((some 50),true)⟩,⟨some 53,.load 23 (.tmp 52),some ((some 50),true)⟩,⟨some 54,.call ⟨.builtin .len,#[.tmp 53],#[23]⟩,some ((some 50),true)⟩,⟨some 55,.binOp .lss 3 (.tmp 51) (.tmp 54) 3,some ((some 50),true)⟩,zO 56 (.pick (.tmp 50) (.tmp 55) (.const (.bool false)))]
instance : Live qix := ⟨[2,3,8]⟩
def qax : List SOp := [zF 59 25 2 1,zL 60 23 59,zM 61 8,zI 62 23 60 61,zL 63 82 62,zF 64 25 3 1,zL 65 23 64,zM 66 8,zI 67 23 65 66,zL 68 82 67,zO 9 (.alloc 82),zO 10 (.alloc 82),⟨none,.store 82 (.tmp 9) (.tmp 63),none⟩,⟨none,.store 82 (.tmp 10) (.tmp 68),none⟩]
instance : Live qax := ⟨[2,3,8]⟩
instance : Rd qax := ⟨fun j => j == 2 || j == 3⟩
def qiw : List SOp := [zF 69 82 9 0,zL 70 3 69,zF 71 82 10 0,zL 72 3 71,zO 73 (.binOp .neq 3 (.tmp 70) (.tmp 72) 3)]
instance : Live qiw := ⟨[2,3,8,9,10]⟩
def qiv : List SOp := [zF 74 82 9 0,zL 75 3 74,zF 76 82 10 0,zL 77 3 76,zO 78 (.call ⟨.value (.func 136),#[.tmp 75,.tmp 77],#[3,3]⟩),zG 4 78]
instance : Live qiv := ⟨[9,10]⟩
def qiu : List SOp := [zF 79 82 9 1,zL 80 3 79,zF 81 82 10 1,zL 82 3 81,zO 83 (.binOp .neq 3 (.tmp 80) (.tmp 82) 3)]
instance : Live qiu := ⟨[2,3,8,9,10]⟩
def qit : List SOp := [zF 84 82 9 1,zL 85 3 84,zF 86 82 10 1,zL 87 3 86,zO 88 (.call ⟨.value (.func 136),#[.tmp 85,.tmp 87],#[3,3]⟩),zG 4 88]
instance : Live qit := ⟨[9,10]⟩
def qis : List SOp := [zF 89 82 9 2,zL 90 3 89,zF 91 82 10 2,zL 92 3 91,zO 93 (.binOp .neq 3 (.tmp 90) (.tmp 92) 3)]
instance : Live qis := ⟨[2,3,8,9,10]⟩
def qir : List SOp := [zF 94 82 9 2,zL 95 3 94,zF 96 82 10 2,zL 97 3 96,zO 98 (.call ⟨.value (.func 136),#[.tmp 95,.tmp 97],#[3,3]⟩),zG 4 98]
instance : Live qir := ⟨[9,10]⟩
def qiq : List SOp := [zM 57 8,zO 58 (.binOp .add 3 (.tmp 57) (.const (.int .i64 1)) 3),zG 8 58]
instance : Live qiq := ⟨[2,3,8]⟩
def qip : List SOp := [zF 99 25 2 1,zL 100 23 99,zO 101 (.call ⟨.builtin .len,#[.tmp 100],#[23]⟩),zF 102 25 3 1,zL 103 23 102,zO 104 (.call ⟨.builtin .len,#[.tmp 103],#[23]⟩),zO 105 (.call ⟨.value (.func 136),#[.tmp 101,.tmp 104],#[3,3]⟩),zG 4 105]
instance : Live qip := ⟨[2,3]⟩
def qg5 : SC :=
 (.seq (.seq (.ops false qwq) (.cond (.tmp 16) .skip (.exit 0))) (.seq (.block 1 (.seq (.ops false qwp) (.seq (.seq (.ops false qwo) (.cond (.tmp 23) (.ops false qwn) .skip)) (.seq (.seq (.ops false qwm) (.cond (.tmp 33) (.ops false qj2) .skip)) (.seq (.ops false qj1) (.cond (.tmp 41) (.seq (.ops false qj0) .ret) .skip)))))) (.ops false qiz)))
def qg4 : SC :=
 (.seq (.seq (.ops false qix) (.cond (.tmp 56) .skip (.exit 2))) (.seq (.block 3 (.seq (.opsW [] qax) (.seq (.seq (.ops false qiw) (.cond (.tmp 73) (.seq (.ops false qiv) .ret) .skip)) (.seq (.seq (.ops false qiu) (.cond (.tmp 83) (.seq (.ops false qit) .ret) .skip)) (.seq (.ops false qis) (.cond (.tmp 93) (.seq (.ops false qir) .ret) .skip)))))) (.ops false qiq)))
def t_k110 : SC :=
 (.seq (.ops false qwu) (.seq (.ops false qwt) (.seq (.ops false qws) (.seq (.seq (.ops false qwr) (.block 0 (.loop qg5))) (.seq (.seq (.ops false qiy) (.block 2 (.loop qg4))) (.seq (.ops false qip) .ret))))))
theorem it_k110 : FnIs Tryz.prog 110 106 [.tmp 4] t_k110 := ⟨Tryz.f110, _, Tryz.func110, rfl, rfl, rfl, rfl, by kernel_rfl⟩


theorem ev_k135 (p : Pst) (hw : wt p ≤ 50000000) : Ev (En Tryz.prog rfl).P 135 [q1k p] (.ret (.int .i64 (q7s p))) := by
 have c1 := ev_k44 p (by omega)
 refine Ev.of_body it_k135 (by simp) (Run.start ?_)
 unfold t_k135 q1k
 have ht : TabLe (q27 [p]) (wt p) := by simpa using q3s [p]
 have hS := q3z
 have hm : qjm [p] = (q27 [p]).map q1d := rfl
 have hp : q7s p = q1v (q27 [p]) 16 := rfl
 rw [hm] at c1
 rw [hp]
 have h16 : (q11 ((q27 [p]).map q1d)).length = 16 := by simp [q11, ht.1]
 have hone := q6r ((q27 [p]).map q1d)
 have hst := q3z ((q27 [p]).map q1d)
 (focus (have hF := True.intro; (repeat' (first | refine go1 (k:=?_) | with_reducible refine Ny.of ?_ ?_ | (refine Hyp.of ?_; intro hc; (try simp only [hc]); (try simp only [Bh] at hc)))); all_goals clear hF))
 refine q05 [q1k p] (he := c1) (k:=?_)
 clear c1 hm hp
 generalize q27 [p] = t at ht h16 hone hst ⊢
 (focus (have hF := (aI @h16 @hone); (repeat' (first | refine go1 (k:=?_) | with_reducible refine Ny.of ?_ ?_ | (refine Hyp.of ?_; intro hc; (try simp only [hc]); (try simp only [Bh] at hc)))); all_goals clear hF))
 refine Run.while (σ := Nat) (fun r => ⟨tms [(3, .ptr 3 0), (4, .int .i64 (q1v t r)), (5, .int .i64 (r : Int))], mms [(3, .cells (q11 (t.map q1d)))]⟩)
  (fun r => r ≤ 16) (fun r => 16 - r) 0 (have hW := @hst; q0v) (Nat.zero_le _) ?_
 intro r hr
 unfold qfw
 by_cases hlt : r < 16
 ·have hrt : r < t.length := by rw [ht.1]; exact hlt
  have hq := ht.2 r
  have g1 : (q11 (t.map q1d))[r]? = some (.sl 1 (q04 (q2y (q12 (t.getD r []))))) := by
   rw [qd5 (by rw [List.length_map]; exact hrt)]
   simp [List.getD_eq_getElem?_getD, hrt, q1d]
  have hml := q44 (t.getD r [])
  have hcan := q2k (t.getD r [])
  have hb := q59 ht r
  have hr16 : (r : Int) * (1000000000 * (wt p : Int)) ≤ 16 * (1000000000 * (wt p : Int)) := Int.mul_le_mul_of_nonneg_right (by omega) (by omega)
  have hnx := q61 t r
  unfold qdr at hnx
  generalize q12 (t.getD r []) = m at g1 hml hcan hnx
  have g2 : (q04 (q2y m)).length = 2 * m.length := by rw [q0b, qck]
  (focus (have hF := (aI @h16 @hone); (repeat' (first | refine go1 (k:=?_) | with_reducible refine Ny.of ?_ ?_ | (refine Hyp.of ?_; intro hc; (try simp only [hc]); (try simp only [Bh] at hc)))); all_goals clear hF))
  refine Run.while (σ := Nat) (fun c => ⟨tms [(3, .ptr 3 0), (4, .int .i64 ((m.take c).foldl q18 (q1v t r))), (5, .int .i64 (r : Int)), (6, .int .i64 ((2 * c : Nat) : Int))], mms [(3, .cells (q11 (t.map q1d)))]⟩)
   (fun c => c ≤ m.length) (fun c => m.length - c) 0 (have hW := @hst; q0v) (Nat.zero_le _) ?_
  intro c hc
  unfold qfv
  by_cases hcl : c < m.length
  ·obtain ⟨x, hx⟩ : ∃ x, m[c]? = some x := ⟨m[c], by simp [hcl]⟩
   have ⟨k1, k2⟩ := qna hx
   have k1' : (q04 (q2y m))[2 * c]? = some (.int .i64 x.1) := q0q k1
   have k2' : (q04 (q2y m))[2 * c + 1]? = some (.int .i64 (x.2 + 1)) := q0q k2
   have hxr := hcan.2 x (List.mem_of_getElem? hx)
   unfold okR at hxr
   have e8 : ((2 * c : Nat) : Int) + 1 = ((2 * c + 1 : Nat) : Int) := by omega
   have e9 : ((2 * c : Nat) : Int) + 2 = ((2 * (c + 1) : Nat) : Int) := by omega
   have hf : (m.take (c + 1)).foldl q18 (q1v t r) = (m.take c).foldl q18 (q1v t r) + (x.2 + 1 - x.1) := by
    rw [q39 q18 _ m hx]
    unfold q18
    omega
   have hb2 := q7e (m := m.take c) (fun y hy => by have := hcan.2 y (List.mem_of_mem_take hy); unfold okR at this; omega) (q1v t r)
   have hb3 : (m.take c).length ≤ m.length := by rw [List.length_take]; omega
   generalize (m.take c).foldl q18 (q1v t r) = a at hf hb2 ⊢
   (focus (have hF := (aI (aI (aI @h16 @hone) (aI @g1 @g2)) (aI (aI @k1' @k2') (aI @e8 @e9))); (repeat' (first | refine go1 (k:=?_) | with_reducible refine Ny.of ?_ ?_ | (refine Hyp.of ?_; intro hc; (try simp only [hc]); (try simp only [Bh] at hc)))); all_goals clear hF))
   (refine Fin.nextW (c + 1) ?_ (have hW := (aI @hst @hf); q0v); (try dsimp only))
   omega
  ·have hce : (m.take c).foldl q18 (q1v t r) = q1v t (r + 1) := by
    rw [show c = m.length by omega, List.take_length, qc8, hnx]
   rw [hce]
   (focus (have hF := (aI (aI @h16 @hone) (aI @g1 @g2)); (repeat' (first | refine go1 (k:=?_) | with_reducible refine Ny.of ?_ ?_ | (refine Hyp.of ?_; intro hc; (try simp only [hc]); (try simp only [Bh] at hc)))); all_goals clear hF))
   (refine Fin.nextW (r + 1) ?_ (have hW := @hst; q0v); (try dsimp only))
   omega
 ·rw [show r = 16 by omega]
  (focus (have hF := @h16; (repeat' (first | refine go1 (k:=?_) | with_reducible refine Ny.of ?_ ?_ | (refine Hyp.of ?_; intro hc; (try simp only [hc]); (try simp only [Bh] at hc)))); all_goals clear hF))
  exact Fin.tmp' rfl rfl
theorem ev_k109 (p : Pst) (hp : wt p ≤ 50000000) : Ev (En Tryz.prog rfl).P 109 [q1k p] (.ret (.bool (decide (q7s p = 0)))) := by
 refine Ev.of_body it_k109 (by simp) (Run.start ?_)
 unfold t_k109 q1k
 (focus (have hF := True.intro; (repeat' (first | refine go1 (k:=?_) | with_reducible refine Ny.of ?_ ?_ | (refine Hyp.of ?_; intro hc; (try simp only [hc]); (try simp only [Bh] at hc)))); all_goals clear hF))
 refine q05 [q1k p] (he := ev_k135 p hp) (k:=?_)
 (focus (have hF := True.intro; (repeat' (first | refine go1 (k:=?_) | with_reducible refine Ny.of ?_ ?_ | (refine Hyp.of ?_; intro hc; (try simp only [hc]); (try simp only [Bh] at hc)))); all_goals clear hF))
 exact Fin.tmp' rfl rfl
theorem qbk (a b : Int) : Ev (En Tryz.prog rfl).P 136 [.int .i64 a, .int .i64 b] (.ret (.int .i64 (q5y a b))) := by
 refine Ev.of_body it_k136 (by simp) (Run.start ?_)
 unfold t_k136
 by_cases h1 : a < b
 ·rw [show q5y a b = -1 from if_pos h1]
  (focus (have hF := True.intro; (repeat' (first | refine go1 (k:=?_) | with_reducible refine Ny.of ?_ ?_ | (refine Hyp.of ?_; intro hc; (try simp only [hc]); (try simp only [Bh] at hc)))); all_goals clear hF))
  exact Fin.tmp' rfl rfl
 ·by_cases h2 : b < a
  ·rw [show q5y a b = 1 by unfold q5y; rw [if_neg h1, if_pos h2]]
   (focus (have hF := True.intro; (repeat' (first | refine go1 (k:=?_) | with_reducible refine Ny.of ?_ ?_ | (refine Hyp.of ?_; intro hc; (try simp only [hc]); (try simp only [Bh] at hc)))); all_goals clear hF))
   exact Fin.tmp' rfl rfl
  ·rw [show q5y a b = 0 by unfold q5y; rw [if_neg h1, if_neg h2]]
   (focus (have hF := True.intro; (repeat' (first | refine go1 (k:=?_) | with_reducible refine Ny.of ?_ ?_ | (refine Hyp.of ?_; intro hc; (try simp only [hc]); (try simp only [Bh] at hc)))); all_goals clear hF))
   exact Fin.tmp' rfl rfl

theorem cmpS_def (s t : Sn) : cmpS s t = if q5y s.1 t.1 = 0 then (if q5y s.2.1 t.2.1 = 0 then q5y s.2.2 t.2.2 else q5y s.2.1 t.2.1) else q5y s.1 t.1 := by
 unfold cmpS
 simp only [orI]
 split
 ·split
  ·split
   ·rename_i h; exact h.symm
   ·rfl
  ·rfl
 ·rfl
theorem q54 {a b : Int} : q5y a b = 0 ↔ a = b := by
 unfold q5y
 split
 ·constructor
  ·intro h; simp at h
  ·intro h; omega
 ·split
  ·constructor
   ·intro h; simp at h
   ·intro h; omega
  ·constructor
   ·intro _; omega
   ·intro _; rfl
theorem ev_k110 (p q : Pst) (hp : wt p ≤ 30000000) (hq : wt q ≤ 30000000) : Ev (En Tryz.prog rfl).P 110 [q1k p, q1k q] (.ret (.int .i64 (cmpP p q))) := by
 refine Ev.of_body it_k110 (by simp) (Run.start ?_)
 unfold t_k110 q1k
 have c1 := zbs p (by omega)
 have c2 := zbs q (by omega)
 have h1 := q6n p
 have h2 := q6n q
 have hr : cmpP p q = q72 (ql5 (q29 p)) (ql5 (q29 q)) := rfl
 rw [hr]
 (focus (have hF := True.intro; (repeat' (first | refine go1 (k:=?_) | with_reducible refine Ny.of ?_ ?_ | (refine Hyp.of ?_; intro hc; (try simp only [hc]); (try simp only [Bh] at hc)))); all_goals clear hF))
 refine q05 [q1k p] (he := c1) (k:=?_)
 unfold q1k
 (focus (have hF := True.intro; (repeat' (first | refine go1 (k:=?_) | with_reducible refine Ny.of ?_ ?_ | (refine Hyp.of ?_; intro hc; (try simp only [hc]); (try simp only [Bh] at hc)))); all_goals clear hF))
 refine q05 [q1k q] (he := c2) (k:=?_)
 clear c1 c2 hr
 generalize q29 p = x at h1 ⊢
 generalize q29 q = y at h2 ⊢
 unfold q1k
 have hw1 : x.vec.length + x.cloud.length = wt x := rfl
 have hw2 : y.vec.length + y.cloud.length = wt y := rfl
 have e1 := q0b x.vec
 have e2 := q0b y.vec
 have e3 := q16 x.cloud
 have e4 := q16 y.cloud
 (focus (have hF := (aI @e1 @e2); (repeat' (first | refine go1 (k:=?_) | with_reducible refine Ny.of ?_ ?_ | (refine Hyp.of ?_; intro hc; (try simp only [hc]); (try simp only [Bh] at hc)))); all_goals clear hF))
 refine Run.while (σ := Nat) (fun i => ⟨tms [(2, .ptr 2 0), (3, .ptr 3 0), (5, .int .i64 (i : Int))], mms [(2, .cells [.sl 1 (q04 x.vec), .sl 3 (q0e x.cloud)]), (3, .cells [.sl 1 (q04 y.vec), .sl 3 (q0e y.cloud)])]⟩) (fun i => i ≤ 16 ∧ ∀ j, j < i → vv x j = vv y j) (fun i => 16 - i) 0 (have hW := (aI @q02 @q03); q0v) ⟨Nat.zero_le _, fun j hj => absurd hj (Nat.not_lt_zero _)⟩ ?_
 rintro i ⟨hi, hp⟩
 unfold qg5
 by_cases hlt : i < 16
 ·have hne : vv x i ≠ vv y i → q72 (ql5 x) (ql5 y) = q5y (vv x i) (vv y i) := fun hn =>
   qmb (qza x) (qza y) i _ _ _ _ (q4d x hlt) (q4d y hlt) (fun j hj => by rw [q4d x (by omega), q4d y (by omega), hp j hj]) hn
  have heq : vv x i = vv y i → ∀ j, j < i + 1 → vv x j = vv y j := fun he j hj => by
   by_cases e : j = i
   ·rw [e]; exact he
   ·exact hp j (by omega)
  have k1 := qbk (vv x i) (vv y i)
  unfold vv at hne heq k1
  by_cases hx : i < x.vec.length
  ·have g1 : (q04 x.vec)[i]? = some (.int .i64 (q2d x.vec i)) := q0q (by unfold q2d; rw [List.getD_eq_getElem?_getD, List.getElem?_eq_getElem hx]; rfl)
   simp only [if_pos hx] at hne heq k1
   by_cases hy : i < y.vec.length
   ·have g2 : (q04 y.vec)[i]? = some (.int .i64 (q2d y.vec i)) := q0q (by unfold q2d; rw [List.getD_eq_getElem?_getD, List.getElem?_eq_getElem hy]; rfl)
    simp only [if_pos hy] at hne heq k1
    (focus (have hF := (aI (aI @e1 @e2) (aI @g1 @g2)); (repeat' (first | refine go1 (k:=?_) | with_reducible refine Ny.of ?_ ?_ | (refine Hyp.of ?_; intro hc; (try simp only [hc]); (try simp only [Bh] at hc)))); all_goals clear hF))
    ·rw [hne hc]
     refine q05 [.int .i64 (q2d x.vec i), .int .i64 (q2d y.vec i)] (he := k1) (k:=?_)
     (focus (have hF := True.intro; (repeat' (first | refine go1 (k:=?_) | with_reducible refine Ny.of ?_ ?_ | (refine Hyp.of ?_; intro hc; (try simp only [hc]); (try simp only [Bh] at hc)))); all_goals clear hF))
     exact Fin.tmp' rfl rfl
    ·have h := heq hc
     (refine Fin.nextW (i + 1) ?_ (have hW := (aI @q02 @q03); q0v); (try dsimp only))
     exact ⟨⟨hlt, h⟩, by omega⟩
   ·simp only [if_neg hy] at hne heq k1
    (focus (have hF := (aI @e1 (aI @e2 @g1)); (repeat' (first | refine go1 (k:=?_) | with_reducible refine Ny.of ?_ ?_ | (refine Hyp.of ?_; intro hc; (try simp only [hc]); (try simp only [Bh] at hc)))); all_goals clear hF))
    ·rw [hne hc]
     refine q05 [.int .i64 (q2d x.vec i), .int .i64 0] (he := k1) (k:=?_)
     (focus (have hF := True.intro; (repeat' (first | refine go1 (k:=?_) | with_reducible refine Ny.of ?_ ?_ | (refine Hyp.of ?_; intro hc; (try simp only [hc]); (try simp only [Bh] at hc)))); all_goals clear hF))
     exact Fin.tmp' rfl rfl
    ·have h := heq hc
     (refine Fin.nextW (i + 1) ?_ (have hW := (aI @q02 @q03); q0v); (try dsimp only))
     exact ⟨⟨hlt, h⟩, by omega⟩
  ·simp only [if_neg hx] at hne heq k1
   by_cases hy : i < y.vec.length
   ·have g2 : (q04 y.vec)[i]? = some (.int .i64 (q2d y.vec i)) := q0q (by unfold q2d; rw [List.getD_eq_getElem?_getD, List.getElem?_eq_getElem hy]; rfl)
    simp only [if_pos hy] at hne heq k1
    (focus (have hF := (aI @e1 (aI @e2 @g2)); (repeat' (first | refine go1 (k:=?_) | with_reducible refine Ny.of ?_ ?_ | (refine Hyp.of ?_; intro hc; (try simp only [hc]); (try simp only [Bh] at hc)))); all_goals clear hF))
    ·rw [hne hc]
     refine q05 [.int .i64 0, .int .i64 (q2d y.vec i)] (he := k1) (k:=?_)
     (focus (have hF := True.intro; (repeat' (first | refine go1 (k:=?_) | with_reducible refine Ny.of ?_ ?_ | (refine Hyp.of ?_; intro hc; (try simp only [hc]); (try simp only [Bh] at hc)))); all_goals clear hF))
     exact Fin.tmp' rfl rfl
    ·have h := heq hc
     (refine Fin.nextW (i + 1) ?_ (have hW := (aI @q02 @q03); q0v); (try dsimp only))
     exact ⟨⟨hlt, h⟩, by omega⟩
   ·simp only [if_neg hy] at hne heq k1
    (focus (have hF := (aI @e1 @e2); (repeat' (first | refine go1 (k:=?_) | with_reducible refine Ny.of ?_ ?_ | (refine Hyp.of ?_; intro hc; (try simp only [hc]); (try simp only [Bh] at hc)))); all_goals clear hF))
    have h := heq trivial
    (refine Fin.nextW (i + 1) ?_ (have hW := (aI @q02 @q03); q0v); (try dsimp only))
    exact ⟨⟨hlt, h⟩, by omega⟩
 ·have hv : qza x = qza y := by
   unfold qza
   exact List.map_congr_left fun j hj => hp j (by rw [List.mem_range] at hj; omega)
  have hk : q72 (ql5 x) (ql5 y) = qf9 x.cloud y.cloud := by
   unfold ql5
   rw [hv, qej, qbu]
  rw [hk]
  (focus (have hF := (aI @e1 @e2); (repeat' (first | refine go1 (k:=?_) | with_reducible refine Ny.of ?_ ?_ | (refine Hyp.of ?_; intro hc; (try simp only [hc]); (try simp only [Bh] at hc)))); all_goals clear hF))
  refine Run.while (σ := Nat) (fun i => ⟨tms [(2, .ptr 2 0), (3, .ptr 3 0), (8, .int .i64 (i : Int))], mms [(2, .cells [.sl 1 (q04 x.vec), .sl 3 (q0e x.cloud)]), (3, .cells [.sl 1 (q04 y.vec), .sl 3 (q0e y.cloud)])]⟩) (fun i => i ≤ x.cloud.length ∧ i ≤ y.cloud.length ∧ qf9 (x.cloud.drop i) (y.cloud.drop i) = qf9 x.cloud y.cloud) (fun i => x.cloud.length - i) 0 (have hW := (aI @q02 @q03); q0v) ⟨Nat.zero_le _, Nat.zero_le _, by rw [List.drop_zero, List.drop_zero]⟩ ?_
  clear hlt hi hp
  rintro i ⟨hi, hi2, hp⟩
  unfold qg4
  by_cases hlt : i < x.cloud.length ∧ i < y.cloud.length
  ·obtain ⟨hla, hlb⟩ := hlt
   obtain ⟨s, hs⟩ : ∃ s, x.cloud[i]? = some s := ⟨x.cloud[i], by simp [hla]⟩
   obtain ⟨t, ht⟩ : ∃ t, y.cloud[i]? = some t := ⟨y.cloud[i], by simp [hlb]⟩
   have g1 := q1x hs
   have g2 := q1x ht
   obtain ⟨_, hxa⟩ := List.getElem?_eq_some_iff.1 hs
   obtain ⟨_, hyb⟩ := List.getElem?_eq_some_iff.1 ht
   have hd : qf9 x.cloud y.cloud = if cmpS s t = 0 then qf9 (x.cloud.drop (i + 1)) (y.cloud.drop (i + 1)) else cmpS s t := by
    rw [← hp, List.drop_eq_getElem_cons hla, List.drop_eq_getElem_cons hlb, hxa, hyb]
    rfl
   rw [cmpS_def] at hd
   have k1 := qbk s.1 t.1
   have k2 := qbk s.2.1 t.2.1
   have k3 := qbk s.2.2 t.2.2
   unfold encS at g1 g2
   by_cases q1 : s.1 = t.1
   ·rw [if_pos (q54.2 q1)] at hd
    by_cases q2 : s.2.1 = t.2.1
    ·rw [if_pos (q54.2 q2)] at hd
     by_cases q3 : s.2.2 = t.2.2
     ·rw [if_pos (q54.2 q3)] at hd
      (focus (have hF := (aI (aI (aI @e1 @e2) (aI @e3 @e4)) (aI (aI @g1 @g2) (aI @q1 (aI @q2 @q3)))); (repeat' (first | refine go2 (k:=?_) | with_reducible refine Ny.of ?_ ?_ | (refine Hyp.of ?_; intro hc; (try simp only [hc]); (try simp only [Bh] at hc)))); all_goals clear hF))
      (refine Fin.nextW (i + 1) ?_ (have hW := (aI @q02 @q03); q0v); (try dsimp only))
      exact ⟨⟨hla, hlb, hd.symm⟩, by omega⟩
     ·rw [if_neg (fun h => q3 (q54.1 h))] at hd
      rw [hd]
      (focus (have hF := (aI (aI (aI @e1 @e2) (aI @e3 @e4)) (aI (aI @g1 @g2) (aI @q1 (aI @q2 @q3)))); (repeat' (first | refine go2 (k:=?_) | with_reducible refine Ny.of ?_ ?_ | (refine Hyp.of ?_; intro hc; (try simp only [hc]); (try simp only [Bh] at hc)))); all_goals clear hF))
      refine q05 [.int .i64 s.2.2, .int .i64 t.2.2] (he := k3) (k:=?_)
      (focus (have hF := True.intro; (repeat' (first | refine go1 (k:=?_) | with_reducible refine Ny.of ?_ ?_ | (refine Hyp.of ?_; intro hc; (try simp only [hc]); (try simp only [Bh] at hc)))); all_goals clear hF))
      exact Fin.tmp' rfl rfl
    ·have hd2 : ¬ q5y s.2.1 t.2.1 = 0 := fun h => q2 (q54.1 h)
     rw [if_neg hd2, if_neg hd2] at hd
     rw [hd]
     (focus (have hF := (aI (aI (aI @e1 @e2) (aI @e3 @e4)) (aI (aI @g1 @g2) (aI @q1 @q2))); (repeat' (first | refine go2 (k:=?_) | with_reducible refine Ny.of ?_ ?_ | (refine Hyp.of ?_; intro hc; (try simp only [hc]); (try simp only [Bh] at hc)))); all_goals clear hF))
     refine q05 [.int .i64 s.2.1, .int .i64 t.2.1] (he := k2) (k:=?_)
     (focus (have hF := True.intro; (repeat' (first | refine go1 (k:=?_) | with_reducible refine Ny.of ?_ ?_ | (refine Hyp.of ?_; intro hc; (try simp only [hc]); (try simp only [Bh] at hc)))); all_goals clear hF))
     exact Fin.tmp' rfl rfl
   ·have hd2 : ¬ q5y s.1 t.1 = 0 := fun h => q1 (q54.1 h)
    rw [if_neg hd2, if_neg hd2] at hd
    rw [hd]
    (focus (have hF := (aI (aI @e1 (aI @e2 @e3)) (aI (aI @e4 @g1) (aI @g2 @q1))); (repeat' (first | refine go2 (k:=?_) | with_reducible refine Ny.of ?_ ?_ | (refine Hyp.of ?_; intro hc; (try simp only [hc]); (try simp only [Bh] at hc)))); all_goals clear hF))
    refine q05 [.int .i64 s.1, .int .i64 t.1] (he := k1) (k:=?_)
    (focus (have hF := True.intro; (repeat' (first | refine go1 (k:=?_) | with_reducible refine Ny.of ?_ ?_ | (refine Hyp.of ?_; intro hc; (try simp only [hc]); (try simp only [Bh] at hc)))); all_goals clear hF))
    exact Fin.tmp' rfl rfl
  ·have hd : qf9 x.cloud y.cloud = q5y (x.cloud.length : Int) (y.cloud.length : Int) := by
    rw [← hp]
    by_cases ha : i < x.cloud.length
    ·have hb : ¬ i < y.cloud.length := fun h => hlt ⟨ha, h⟩
     rw [List.drop_eq_getElem_cons ha, List.drop_eq_nil_of_le (show y.cloud.length ≤ i by omega)]
     unfold q5y
     rw [if_neg (by omega), if_pos (by omega)]
     rfl
    ·by_cases hb : i < y.cloud.length
     ·rw [List.drop_eq_nil_of_le (show x.cloud.length ≤ i by omega), List.drop_eq_getElem_cons hb]
      unfold q5y
      rw [if_pos (by omega)]
      rfl
     ·rw [List.drop_eq_nil_of_le (show x.cloud.length ≤ i by omega), List.drop_eq_nil_of_le (show y.cloud.length ≤ i by omega)]
      unfold q5y
      rw [if_neg (by omega), if_neg (by omega)]
      rfl
   rw [hd]
   have k1 := qbk (x.cloud.length : Int) (y.cloud.length : Int)
   by_cases ha : i < x.cloud.length
   ·have hb : ¬ i < y.cloud.length := fun h => hlt ⟨ha, h⟩
    (focus (have hF := (aI (aI @e1 @e2) (aI @e3 @e4)); (repeat' (first | refine go1 (k:=?_) | with_reducible refine Ny.of ?_ ?_ | (refine Hyp.of ?_; intro hc; (try simp only [hc]); (try simp only [Bh] at hc)))); all_goals clear hF))
    refine q05 [.int .i64 (x.cloud.length : Int), .int .i64 (y.cloud.length : Int)] (he := k1) (k:=?_)
    (focus (have hF := True.intro; (repeat' (first | refine go1 (k:=?_) | with_reducible refine Ny.of ?_ ?_ | (refine Hyp.of ?_; intro hc; (try simp only [hc]); (try simp only [Bh] at hc)))); all_goals clear hF))
    exact Fin.tmp' rfl rfl
   ·(focus (have hF := (aI (aI @e1 @e2) (aI @e3 @e4)); (repeat' (first | refine go1 (k:=?_) | with_reducible refine Ny.of ?_ ?_ | (refine Hyp.of ?_; intro hc; (try simp only [hc]); (try simp only [Bh] at hc)))); all_goals clear hF))
    refine q05 [.int .i64 (x.cloud.length : Int), .int .i64 (y.cloud.length : Int)] (he := k1) (k:=?_)
    (focus (have hF := True.intro; (repeat' (first | refine go1 (k:=?_) | with_reducible refine Ny.of ?_ ?_ | (refine Hyp.of ?_; intro hc; (try simp only [hc]); (try simp only [Bh] at hc)))); all_goals clear hF))
    exact Fin.tmp' rfl rfl

def qsh : List SOp := [zO 4 (.assign (.const (.int .i64 0)))]
instance : Live qsh := ⟨[0,1]⟩
def qsg : List SOp := [zM 5 0,zM 6 1,zO 7 (.call ⟨.value (.func 156),#[.tmp 5,.tmp 6],#[9,9]⟩),zG 4 7]
instance : Live qsg := ⟨[0,1]⟩
def t_k145 : SC :=
 (.seq (.ops false qsh) (.seq (.ops false qsg) .ret))
theorem it_k145 : FnIs Tryz.prog 145 8 [.tmp 4] t_k145 := ⟨Tryz.f145, _, Tryz.func145, rfl, rfl, rfl, rfl, by kernel_rfl⟩

def qv9 : List SOp := [zO 4 (.assign (.const (.int .i64 0)))]
instance : Live qv9 := ⟨[0,1]⟩
def qv8 : List SOp := [zM 5 0,zM 6 1,zO 7 (.call ⟨.value (.func 145),#[.tmp 5,.tmp 6],#[9,9]⟩),zG 4 7]
instance : Live qv8 := ⟨[0,1]⟩
def t_k128 : SC :=
 (.seq (.ops false qv9) (.seq (.ops false qv8) .ret))
theorem it_k128 : FnIs Tryz.prog 128 8 [.tmp 4] t_k128 := ⟨Tryz.f128, _, Tryz.func128, rfl, rfl, rfl, rfl, by kernel_rfl⟩

def qxt : List SOp := [zO 2 (.box 84 (.tmp 0)),zO 3 (.box 84 (.tmp 1)),zO 4 (.assign (.const (.int .i64 0)))]
instance : Live qxt := ⟨[0,1]⟩
def qxs : List SOp := [zF 6 84 2 0,zL 7 9 6,zF 8 84 3 0,zL 9 9 8,zO 10 (.call ⟨.value (.func 128),#[.tmp 7,.tmp 9],#[9,9]⟩),zG 5 10]
instance : Live qxs := ⟨[2,3]⟩
def qxr : List SOp := [zM 11 5,zO 12 (.binOp .neq 3 (.tmp 11) (.const (.int .i64 0)) 3)]
instance : Live qxr := ⟨[2,3,5]⟩
def qxq : List SOp := [zM 13 5,zG 4 13]
instance : Live qxq := ⟨[5]⟩
def qxp : List SOp := [zF 14 84 2 1,zL 15 25 14,zF 16 84 3 1,zL 17 25 16,zO 18 (.call ⟨.value (.func 129),#[.tmp 15,.tmp 17],#[25,25]⟩),zG 4 18]
instance : Live qxp := ⟨[2,3]⟩
def t_k101 : SC :=
 (.seq (.ops false qxt) (.seq (.seq (.ops false qxs) (.seq (.ops false qxr) (.cond (.tmp 12) (.seq (.ops false qxq) .ret) .skip))) (.seq (.ops false qxp) .ret)))
theorem it_k101 : FnIs Tryz.prog 101 19 [.tmp 4] t_k101 := ⟨Tryz.f101, _, Tryz.func101, rfl, rfl, rfl, rfl, by kernel_rfl⟩

def z3z : List SOp := [zO 2 (.box 84 (.tmp 0)),zO 3 (.box 84 (.tmp 1)),zO 4 (.assign (.const (.int .i64 0)))]
instance : Live z3z := ⟨[0,1]⟩
def z3y : List SOp := [zF 5 84 2 0,zL 6 9 5,zF 7 84 3 0,zL 8 9 7,zO 9 (.binOp .lss 9 (.tmp 6) (.tmp 8) 9)]
instance : Live z3y := ⟨[2,3]⟩
def z3x : List SOp := [zO 4 (.assign (.const (.int .i64 (-1))))]
instance : Live z3x := ⟨[]⟩
def z3w : List SOp := [zF 10 84 2 0,zL 11 9 10,zF 12 84 3 0,zL 13 9 12,zO 14 (.binOp .gtr 9 (.tmp 11) (.tmp 13) 9)]
instance : Live z3w := ⟨[2,3]⟩
def z3v : List SOp := [zO 4 (.assign (.const (.int .i64 1)))]
instance : Live z3v := ⟨[]⟩
def z3u : List SOp := [zF 15 84 2 1,zL 16 25 15,zF 17 84 3 1,zL 18 25 17,zO 19 (.call ⟨.value (.func 110),#[.tmp 16,.tmp 18],#[25,25]⟩),zG 4 19]
instance : Live z3u := ⟨[2,3]⟩
def t_k64 : SC :=
 (.seq (.ops false z3z) (.seq (.seq (.ops false z3y) (.cond (.tmp 9) (.seq (.ops false z3x) .ret) .skip)) (.seq (.seq (.ops false z3w) (.cond (.tmp 14) (.seq (.ops false z3v) .ret) .skip)) (.seq (.ops false z3u) .ret))))
theorem it_k64 : FnIs Tryz.prog 64 20 [.tmp 4] t_k64 := ⟨Tryz.f64, _, Tryz.func64, rfl, rfl, rfl, rfl, by kernel_rfl⟩

def qxz : List SOp := [zO 1 (.box 84 (.tmp 0)),zO 2 (.assign (.const (.int .i64 0)))]
instance : Live qxz := ⟨[0]⟩
def qxy : List SOp := [zF 3 84 1 0,zL 4 9 3,zO 5 (.binOp .neq 9 (.tmp 4) (.const (.string ⟨#[]⟩)) 9),zM 6 5,⟨some 7,.fieldAddr 84 (.tmp 1) 0,some ((some 6),true)⟩,⟨some 8,.load 9 (.tmp 7),some ((some 6),true)⟩,⟨some 9,.call ⟨.value (.func 124),#[.tmp 8],#[9]⟩,some ((some 6),true)⟩,⟨some 10,.unOp .not 4 (.tmp 9),some ((some 6),true)⟩,zO 11 (.pick (.tmp 6) (.tmp 10) (.const (.bool false)))]
instance : Live qxy := ⟨[1]⟩
def qxx : List SOp := [zO 2 (.assign (.const (.int .i64 5)))]
instance : Live qxx := ⟨[]⟩
def qxw : List SOp := [zF 12 84 1 1,zL 13 25 12,zO 14 (.call ⟨.value (.func 45),#[.tmp 13],#[25]⟩),zO 15 (.unOp .not 4 (.tmp 14)),zM 16 15,⟨some 17,.fieldAddr 84 (.tmp 1) 1,some ((some 16),false)⟩,⟨some 18,.load 25 (.tmp 17),some ((some 16),false)⟩,⟨some 19,.call ⟨.value (.func 127),#[.tmp 18],#[25]⟩,some ((some 16),false)⟩,zO 20 (.pick (.tmp 16) (.const (.bool true)) (.tmp 19))]
instance : Live qxw := ⟨[1]⟩
def qxv : List SOp := [zO 2 (.assign (.const (.int .i64 1)))]
instance : Live qxv := ⟨[]⟩
def qxu : List SOp := [zO 2 (.assign (.const (.int .i64 0)))]
instance : Live qxu := ⟨[]⟩
def t_k100 : SC :=
 (.seq (.ops false qxz) (.seq (.seq (.ops false qxy) (.cond (.tmp 11) (.seq (.ops false qxx) .ret) .skip)) (.seq (.seq (.ops false qxw) (.cond (.tmp 20) (.seq (.ops false qxv) .ret) .skip)) (.seq (.ops false qxu) .ret))))
theorem it_k100 : FnIs Tryz.prog 100 21 [.tmp 2] t_k100 := ⟨Tryz.f100, _, Tryz.func100, rfl, rfl, rfl, rfl, by kernel_rfl⟩

def z47 : List SOp := [zO 1 (.box 84 (.tmp 0)),zO 2 (.assign (.const (.int .i64 0)))]
instance : Live z47 := ⟨[0]⟩
def z44 : List SOp := [zF 3 84 1 0,zL 4 9 3,zO 5 (.binOp .neq 9 (.tmp 4) (.const (.string ⟨#[]⟩)) 9),zM 6 5,⟨some 7,.fieldAddr 84 (.tmp 1) 0,some ((some 6),true)⟩,⟨some 8,.load 9 (.tmp 7),some ((some 6),true)⟩,⟨some 9,.call ⟨.value (.func 52),#[.tmp 8],#[9]⟩,some ((some 6),true)⟩,⟨some 10,.unOp .not 4 (.tmp 9),some ((some 6),true)⟩,zO 11 (.pick (.tmp 6) (.tmp 10) (.const (.bool false)))]
instance : Live z44 := ⟨[1]⟩
def z43 : List SOp := [zO 2 (.assign (.const (.int .i64 5)))]
instance : Live z43 := ⟨[]⟩
def z42 : List SOp := [zF 12 84 1 1,zL 13 25 12,zO 14 (.call ⟨.value (.func 22),#[.tmp 13],#[25]⟩),zO 15 (.unOp .not 4 (.tmp 14)),zM 16 15,⟨some 17,.fieldAddr 84 (.tmp 1) 1,some ((some 16),false)⟩,⟨some 18,.load 25 (.tmp 17),some ((some 16),false)⟩,⟨some 19,.call ⟨.value (.func 109),#[.tmp 18],#[25]⟩,some ((some 16),false)⟩,zO 20 (.pick (.tmp 16) (.const (.bool true)) (.tmp 19))]
instance : Live z42 := ⟨[1]⟩
def z41 : List SOp := [zO 2 (.assign (.const (.int .i64 1)))]
instance : Live z41 := ⟨[]⟩
def z40 : List SOp := [zO 2 (.assign (.const (.int .i64 0)))]
instance : Live z40 := ⟨[]⟩
def t_k63 : SC :=
 (.seq (.ops false z47) (.seq (.seq (.ops false z44) (.cond (.tmp 11) (.seq (.ops false z43) .ret) .skip)) (.seq (.seq (.ops false z42) (.cond (.tmp 20) (.seq (.ops false z41) .ret) .skip)) (.seq (.ops false z40) .ret))))
theorem it_k63 : FnIs Tryz.prog 63 21 [.tmp 2] t_k63 := ⟨Tryz.f63, _, Tryz.func63, rfl, rfl, rfl, rfl, by kernel_rfl⟩

def z5d : List SOp := [zO 2 (.assign (.const (.int .i64 0)))]
instance : Live z5d := ⟨[0]⟩
def z5c : List SOp := [zM 5 0,zO 6 (.call ⟨.builtin .len,#[.tmp 5],#[27]⟩),zO 7 (.move (.const (.int .i64 0)))]
instance : Live z5c := ⟨[0]⟩
def z5b : List SOp := [zO 8 (.binOp .lss 3 (.tmp 7) (.tmp 6) 3)]
instance : Live z5b := ⟨[0,5,6,7]⟩
def z5a : List SOp := [zM 9 7,zI 10 27 5 7,zL 11 84 10,zO 4 (.alloc 84),zG 3 9,⟨none,.store 84 (.tmp 4) (.tmp 11),none⟩]
instance : Live z5a := ⟨[0,5,6,7]⟩
def z59 : List SOp := [zL 12 84 4,zO 13 (.call ⟨.value (.func 100),#[.tmp 12],#[84]⟩),zO 14 (.binOp .neq 35 (.tmp 13) (.const (.int .i64 0)) 35),zM 15 14,⟨some 16,.move (.tmp 3),some ((some 15),false)⟩,⟨some 17,.binOp .gtr 3 (.tmp 16) (.const (.int .i64 0)) 3,some ((some 15),false)⟩,⟨some 18,.move (.tmp 17),some ((some 15),false)⟩,⟨some 19,.move (.tmp 0),some ((some 18),true)⟩,⟨some 20,.move (.tmp 3),some ((some 18),true)⟩,⟨some 21,.binOp .sub 3 (.tmp 20) (.const (.int .i64 1)) 3,some ((some 18),true)⟩,⟨some 22,.indexAddr 27 (.tmp 19) (.tmp 21),some ((some 18),true)⟩,⟨some 23,.load 84 (.tmp 22),some ((some 18),true)⟩,⟨some 24,.load 84 (.tmp 4),some ((some 18),true)⟩,⟨some 25,.call ⟨.value (.func 101),#[.tmp 23,.tmp 24],#[84,84]⟩,some ((some 18),true)⟩,⟨some 26,.binOp .geq 3 (.tmp 25) (.const (.int .i64 0)) 3,some ((some 18),true)⟩,⟨some 27,.pick (.tmp 18) (.tmp 26) (.const (.bool false)),some ((some 15),false)⟩,zO 28 (.pick (.tmp 15) (.const (.bool true)) (.tmp 27))]
instance : Live z59 := ⟨[0,3,4,5,6,7]⟩
def z58 : List SOp := [zO 2 (.assign (.const (.int .i64 1)))]
instance : Live z58 := ⟨[]⟩
def z57 : List SOp := [zO 29 (.binOp .add 3 (.tmp 7) (.const (.int .i64 1)) 3),zM 7 29]
instance : Live z57 := ⟨[0,5,6,7]⟩
def z56 : List SOp := [zO 2 (.assign (.const (.int .i64 0)))]
instance : Live z56 := ⟨[]⟩
def qnp : SC :=
 (.seq (.ops false z5b) (.seq (.cond (.tmp 8) .skip (.exit 0)) (.seq (.block 1 (.seq (.ops false z5a) (.seq (.ops true z59) (.cond (.tmp 28) (.seq (.ops false z58) .ret) .skip)))) (.ops false z57))))
def t_k57 : SC :=
 (.seq (.ops false z5d) (.seq (.seq (.ops false z5c) (.block 0 (.loop qnp))) (.seq (.ops false z56) .ret)))
theorem it_k57 : FnIs Tryz.prog 57 30 [.tmp 2] t_k57 := ⟨Tryz.f57, _, Tryz.func57, rfl, rfl, rfl, rfl, by kernel_rfl⟩

def z82 : List SOp := [zO 2 (.assign (.const (.int .i64 0)))]
instance : Live z82 := ⟨[0]⟩
def z81 : List SOp := [zO 3 (.assign (.const (.int .i64 0)))]
instance : Live z81 := ⟨[0]⟩
def z80 : List SOp := [zM 4 3,zM 5 0,zO 6 (.call ⟨.builtin .len,#[.tmp 5],#[27]⟩),zO 7 (.binOp .lss 3 (.tmp 4) (.tmp 6) 3)]
instance : Live z80 := ⟨[0,3]⟩
def z7z : List SOp := [zM 10 0,zM 11 3,zI 12 27 10 11,zL 13 84 12,zO 14 (.call ⟨.value (.func 63),#[.tmp 13],#[84]⟩),zO 15 (.binOp .neq 35 (.tmp 14) (.const (.int .i64 0)) 35)]
instance : Live z7z := ⟨[0,3]⟩
def z7y : List SOp := [zO 2 (.assign (.const (.int .i64 1)))]
instance : Live z7y := ⟨[]⟩
def z7x : List SOp := [zM 16 3,zO 17 (.binOp .gtr 3 (.tmp 16) (.const (.int .i64 0)) 3),zM 18 17,⟨some 19,.move (.tmp 0),some ((some 18),true)⟩,⟨some 20,.move (.tmp 3),some ((some 18),true)⟩,⟨some 21,.binOp .sub 3 (.tmp 20) (.const (.int .i64 1)) 3,some ((some 18),true)⟩,⟨some 22,.indexAddr 27 (.tmp 19) (.tmp 21),some ((some 18),true)⟩,⟨some 23,.load 84 (.tmp 22),some ((some 18),true)⟩,⟨some 24,.move (.tmp 0),some ((some 18),true)⟩,⟨some 25,.move (.tmp 3),some ((some 18),true)⟩,⟨some 26,.indexAddr 27 (.tmp 24) (.tmp 25),some ((some 18),true)⟩,⟨some 27,.load 84 (.tmp 26),some ((some 18),true)⟩,⟨some 28,.call ⟨.value (.func 64),#[.tmp 23,.tmp 27],#[84,84]⟩,some ((some 18),true)⟩,⟨some 29,.binOp .geq 3 (.tmp 28) (.const (.int .i64 0)) 3,some ((some 18),true)⟩,zO 30 (.pick (.tmp 18) (.tmp 29) (.const (.bool false)))]
instance : Live z7x := ⟨[0,3]⟩
def z7w : List SOp := [zO 2 (.assign (.const (.int .i64 1)))]
instance : Live z7w := ⟨[]⟩
def z7v : List SOp := [zM 8 3,zO 9 (.binOp .add 3 (.tmp 8) (.const (.int .i64 1)) 3),zG 3 9]
instance : Live z7v := ⟨[0,3]⟩
def z7u : List SOp := [zO 2 (.assign (.const (.int .i64 0)))]
instance : Live z7u := ⟨[]⟩
def qo1 : SC :=
 (.seq (.seq (.ops false z80) (.cond (.tmp 7) .skip (.exit 0))) (.seq (.block 1 (.seq (.seq (.ops false z7z) (.cond (.tmp 15) (.seq (.ops false z7y) .ret) .skip)) (.seq (.ops true z7x) (.cond (.tmp 30) (.seq (.ops false z7w) .ret) .skip)))) (.ops false z7v)))
def t_k25 : SC :=
 (.seq (.ops false z82) (.seq (.seq (.ops false z81) (.block 0 (.loop qo1))) (.seq (.ops false z7u) .ret)))
theorem it_k25 : FnIs Tryz.prog 25 31 [.tmp 2] t_k25 := ⟨Tryz.f25, _, Tryz.func25, rfl, rfl, rfl, rfl, by kernel_rfl⟩

def z2a : List SOp := [zO 1 (.box 45 (.tmp 0)),zO 2 (.assign (.const (.int .i64 0)))]
instance : Live z2a := ⟨[0]⟩
def z29 : List SOp := [zF 4 45 1 0,zF 5 43 4 0,zL 6 3 5,zO 7 (.binOp .lss 3 (.tmp 6) (.const (.int .i64 0)) 3),zM 8 7,⟨some 9,.fieldAddr 45 (.tmp 1) 0,some ((some 8),false)⟩,⟨some 10,.fieldAddr 43 (.tmp 9) 0,some ((some 8),false)⟩,⟨some 11,.load 3 (.tmp 10),some ((some 8),false)⟩,⟨some 12,.binOp .geq 3 (.tmp 11) (.const (.int .i64 16)) 3,some ((some 8),false)⟩,zO 13 (.pick (.tmp 8) (.const (.bool true)) (.tmp 12)),zG 3 13]
instance : Live z29 := ⟨[1]⟩
def z28 : List SOp := [zO 2 (.assign (.const (.int .i64 3)))]
instance : Live z28 := ⟨[]⟩
def z27 : List SOp := [zF 15 45 1 0,zF 16 43 15 1,zL 17 3 16,zO 18 (.binOp .lss 3 (.tmp 17) (.const (.int .i64 1)) 3),zM 19 18,⟨some 20,.fieldAddr 45 (.tmp 1) 0,some ((some 19),false)⟩,⟨some 21,.fieldAddr 43 (.tmp 20) 1,some ((some 19),false)⟩,⟨some 22,.load 3 (.tmp 21),some ((some 19),false)⟩,⟨some 23,.binOp .gtr 3 (.tmp 22) (.const (.int .i64 1000000000)) 3,some ((some 19),false)⟩,zO 24 (.pick (.tmp 19) (.const (.bool true)) (.tmp 23)),zG 14 24]
instance : Live z27 := ⟨[1]⟩
def z26 : List SOp := [zO 2 (.assign (.const (.int .i64 2)))]
instance : Live z26 := ⟨[]⟩
def z24 : List SOp := [zF 26 45 1 1,zL 27 9 26,zO 28 (.call ⟨.value (.func 124),#[.tmp 27],#[9]⟩),zO 29 (.unOp .not 4 (.tmp 28)),zG 25 29]
instance : Live z24 := ⟨[1]⟩
def z23 : List SOp := [zO 2 (.assign (.const (.int .i64 5)))]
instance : Live z23 := ⟨[]⟩
def z21 : List SOp := [zF 31 45 1 2,zL 32 3 31,zO 33 (.binOp .lss 3 (.tmp 32) (.const (.int .i64 1)) 3),zM 34 33,⟨some 35,.fieldAddr 45 (.tmp 1) 2,some ((some 34),false)⟩,⟨some 36,.load 3 (.tmp 35),some ((some 34),false)⟩,⟨some 37,.binOp .gtr 3 (.tmp 36) (.const (.int .i64 1000000)) 3,some ((some 34),false)⟩,zO 38 (.pick (.tmp 34) (.const (.bool true)) (.tmp 37)),zG 30 38]
instance : Live z21 := ⟨[1]⟩
def z20 : List SOp := [zO 2 (.assign (.const (.int .i64 6)))]
instance : Live z20 := ⟨[]⟩
def qoj : List SOp := [zO 2 (.assign (.const (.int .i64 0)))]
instance : Live qoj := ⟨[]⟩
def t_k95 : SC :=
 (.seq (.ops false z2a) (.seq (.block 0 (.seq (.ops false z29) (.cond (.tmp 3) (.seq (.ops false z28) .ret) (.seq (.ops false z27) (.cond (.tmp 14) (.seq (.ops false z26) .ret) (.seq (.ops false z24) (.cond (.tmp 25) (.seq (.ops false z23) .ret) (.seq (.ops false z21) (.cond (.tmp 30) (.seq (.ops false z20) .ret) .skip))))))))) (.seq (.ops false qoj) .ret)))
theorem it_k95 : FnIs Tryz.prog 95 39 [.tmp 2] t_k95 := ⟨Tryz.f95, _, Tryz.func95, rfl, rfl, rfl, rfl, by kernel_rfl⟩

def z1z : List SOp := [zO 2 (.box 43 (.tmp 0)),zO 3 (.box 43 (.tmp 1)),zO 4 (.assign (.const (.bool false)))]
instance : Live z1z := ⟨[0,1]⟩
def z1y : List SOp := [zF 5 43 2 0,zL 6 3 5,zF 7 43 3 0,zL 8 3 7,zO 9 (.binOp .lss 3 (.tmp 6) (.tmp 8) 3),zM 10 9,⟨some 11,.fieldAddr 43 (.tmp 2) 0,some ((some 10),false)⟩,⟨some 12,.load 3 (.tmp 11),some ((some 10),false)⟩,⟨some 13,.fieldAddr 43 (.tmp 3) 0,some ((some 10),false)⟩,⟨some 14,.load 3 (.tmp 13),some ((some 10),false)⟩,⟨some 15,.binOp .eql 3 (.tmp 12) (.tmp 14) 3,some ((some 10),false)⟩,⟨some 16,.move (.tmp 15),some ((some 10),false)⟩,⟨some 17,.fieldAddr 43 (.tmp 2) 1,some ((some 16),true)⟩,⟨some 18,.load 3 (.tmp 17),some ((some 16),true)⟩,⟨some 19,.fieldAddr 43 (.tmp 3) 1,some ((some 16),true)⟩,⟨some 20,.load 3 (.tmp 19),some ((some 16),true)⟩,⟨some 21,.binOp .lss 3 (.tmp 18) (.tmp 20) 3,some ((some 16),true)⟩,⟨some 22,.pick (.tmp 16) (.tmp 21) (.const (.bool false)),some ((some 10),false)⟩,zO 23 (.pick (.tmp 10) (.const (.bool true)) (.tmp 22)),zG 4 23]
instance : Live z1y := ⟨[2,3]⟩
def t_k96 : SC :=
 (.seq (.ops false z1z) (.seq (.ops false z1y) .ret))
theorem it_k96 : FnIs Tryz.prog 96 24 [.tmp 4] t_k96 := ⟨Tryz.f96, _, Tryz.func96, rfl, rfl, rfl, rfl, by kernel_rfl⟩

def z6l : List SOp := [zO 2 (.assign (.const (.int .i64 0)))]
instance : Live z6l := ⟨[0]⟩
def z6k : List SOp := [zM 5 0,zO 6 (.call ⟨.builtin .len,#[.tmp 5],#[26]⟩),zO 7 (.move (.const (.int .i64 0)))]
instance : Live z6k := ⟨[0]⟩
def z6j : List SOp := [zO 8 (.binOp .lss 3 (.tmp 7) (.tmp 6) 3)]
instance : Live z6j := ⟨[0,5,6,7]⟩
def z6i : List SOp := [zM 9 7,zI 10 26 5 7,zL 11 45 10,zO 4 (.alloc 45),zG 3 9,⟨none,.store 45 (.tmp 4) (.tmp 11),none⟩]
instance : Live z6i := ⟨[0,5,6,7]⟩
def z6h : List SOp := [zL 12 45 4,zO 13 (.call ⟨.value (.func 95),#[.tmp 12],#[45]⟩),zO 14 (.binOp .neq 35 (.tmp 13) (.const (.int .i64 0)) 35),zM 15 14,⟨some 16,.move (.tmp 3),some ((some 15),false)⟩,⟨some 17,.binOp .gtr 3 (.tmp 16) (.const (.int .i64 0)) 3,some ((some 15),false)⟩,⟨some 18,.move (.tmp 17),some ((some 15),false)⟩,⟨some 19,.move (.tmp 0),some ((some 18),true)⟩,⟨some 20,.move (.tmp 3),some ((some 18),true)⟩,⟨some 21,.binOp .sub 3 (.tmp 20) (.const (.int .i64 1)) 3,some ((some 18),true)⟩,⟨some 22,.indexAddr 26 (.tmp 19) (.tmp 21),some ((some 18),true)⟩,⟨some 23,.fieldAddr 45 (.tmp 22) 0,some ((some 18),true)⟩,⟨some 24,.load 43 (.tmp 23),some ((some 18),true)⟩,⟨some 25,.fieldAddr 45 (.tmp 4) 0,some ((some 18),true)⟩,⟨some 26,.load 43 (.tmp 25),some ((some 18),true)⟩,⟨some 27,.call ⟨.value (.func 96),#[.tmp 24,.tmp 26],#[43,43]⟩,some ((some 18),true)⟩,⟨some 28,.unOp .not 4 (.tmp 27),some ((some 18),true)⟩,⟨some 29,.pick (.tmp 18) (.tmp 28) (.const (.bool false)),some ((some 15),false)⟩,zO 30 (.pick (.tmp 15) (.const (.bool true)) (.tmp 29))]
instance : Live z6h := ⟨[0,3,4,5,6,7]⟩
def z6g : List SOp := [zO 2 (.assign (.const (.int .i64 1)))]
instance : Live z6g := ⟨[]⟩
def z6f : List SOp := [zO 31 (.binOp .add 3 (.tmp 7) (.const (.int .i64 1)) 3),zM 7 31]
instance : Live z6f := ⟨[0,5,6,7]⟩
def z6e : List SOp := [zO 2 (.assign (.const (.int .i64 0)))]
instance : Live z6e := ⟨[]⟩
def qnv : SC :=
 (.seq (.ops false z6j) (.seq (.cond (.tmp 8) .skip (.exit 0)) (.seq (.block 1 (.seq (.ops false z6i) (.seq (.ops true z6h) (.cond (.tmp 30) (.seq (.ops false z6g) .ret) .skip)))) (.ops false z6f))))
def t_k49 : SC :=
 (.seq (.ops false z6l) (.seq (.seq (.ops false z6k) (.block 0 (.loop qnv))) (.seq (.ops false z6e) .ret)))
theorem it_k49 : FnIs Tryz.prog 49 32 [.tmp 2] t_k49 := ⟨Tryz.f49, _, Tryz.func49, rfl, rfl, rfl, rfl, by kernel_rfl⟩

def z65 : List SOp := [zO 1 (.box 43 (.tmp 0)),zO 2 (.assign (.const (.bool false)))]
instance : Live z65 := ⟨[0]⟩
def z64 : List SOp := [zF 3 43 1 0,zL 4 3 3,zO 5 (.binOp .geq 3 (.tmp 4) (.const (.int .i64 0)) 3),zM 6 5,⟨some 7,.fieldAddr 43 (.tmp 1) 0,some ((some 6),true)⟩,⟨some 8,.load 3 (.tmp 7),some ((some 6),true)⟩,⟨some 9,.binOp .lss 3 (.tmp 8) (.const (.int .i64 16)) 3,some ((some 6),true)⟩,zO 10 (.pick (.tmp 6) (.tmp 9) (.const (.bool false))),zM 11 10,⟨some 12,.fieldAddr 43 (.tmp 1) 1,some ((some 11),true)⟩,⟨some 13,.load 3 (.tmp 12),some ((some 11),true)⟩,⟨some 14,.binOp .geq 3 (.tmp 13) (.const (.int .i64 1)) 3,some ((some 11),true)⟩,zO 15 (.pick (.tmp 11) (.tmp 14) (.const (.bool false))),zM 16 15,⟨some 17,.fieldAddr 43 (.tmp 1) 1,some ((some 16),true)⟩,⟨some 18,.load 3 (.tmp 17),some ((some 16),true)⟩,⟨some 19,.binOp .leq 3 (.tmp 18) (.const (.int .i64 1000000000)) 3,some ((some 16),true)⟩,zO 20 (.pick (.tmp 16) (.tmp 19) (.const (.bool false))),zG 2 20]
instance : Live z64 := ⟨[1]⟩
def t_k51 : SC :=
 (.seq (.ops false z65) (.seq (.ops false z64) .ret))
theorem it_k51 : FnIs Tryz.prog 51 21 [.tmp 2] t_k51 := ⟨Tryz.f51, _, Tryz.func51, rfl, rfl, rfl, rfl, by kernel_rfl⟩

def z89 : List SOp := [zO 1 (.box 25 (.tmp 0)),zO 2 (.assign (.const (.bool false)))]
instance : Live z89 := ⟨[0]⟩
def z88 : List SOp := [zL 3 25 1,zL 4 25 1,zO 5 (.call ⟨.value (.func 11),#[.tmp 4],#[25]⟩),zO 6 (.call ⟨.value (.func 14),#[.tmp 3,.tmp 5],#[25,25]⟩),zG 2 6]
instance : Live z88 := ⟨[1]⟩
def t_k22 : SC :=
 (.seq (.ops false z89) (.seq (.ops true z88) .ret))
theorem it_k22 : FnIs Tryz.prog 22 7 [.tmp 2] t_k22 := ⟨Tryz.f22, _, Tryz.func22, rfl, rfl, rfl, rfl, by kernel_rfl⟩

def z60 : List SOp := [zO 2 (.box 43 (.tmp 0)),zO 3 (.box 43 (.tmp 1)),zO 4 (.assign (.const (.bool false)))]
instance : Live z60 := ⟨[0,1]⟩
def z5z : List SOp := [zF 5 43 2 0,zL 6 3 5,zF 7 43 3 0,zL 8 3 7,zO 9 (.binOp .lss 3 (.tmp 6) (.tmp 8) 3),zM 10 9,⟨some 11,.fieldAddr 43 (.tmp 2) 0,some ((some 10),false)⟩,⟨some 12,.load 3 (.tmp 11),some ((some 10),false)⟩,⟨some 13,.fieldAddr 43 (.tmp 3) 0,some ((some 10),false)⟩,⟨some 14,.load 3 (.tmp 13),some ((some 10),false)⟩,⟨some 15,.binOp .eql 3 (.tmp 12) (.tmp 14) 3,some ((some 10),false)⟩,⟨some 16,.move (.tmp 15),some ((some 10),false)⟩,⟨some 17,.fieldAddr 43 (.tmp 2) 1,some ((some 16),true)⟩,⟨some 18,.load 3 (.tmp 17),some ((some 16),true)⟩,⟨some 19,.fieldAddr 43 (.tmp 3) 1,some ((some 16),true)⟩,⟨some 20,.load 3 (.tmp 19),some ((some 16),true)⟩,⟨some 21,.binOp .lss 3 (.tmp 18) (.tmp 20) 3,some ((some 16),true)⟩,⟨some 22,.pick (.tmp 16) (.tmp 21) (.const (.bool false)),some ((some 10),false)⟩,zO 23 (.pick (.tmp 10) (.const (.bool true)) (.tmp 22)),zG 4 23]
instance : Live z5z := ⟨[2,3]⟩
def t_k53 : SC :=
 (.seq (.ops false z60) (.seq (.ops false z5z) .ret))
theorem it_k53 : FnIs Tryz.prog 53 24 [.tmp 4] t_k53 := ⟨Tryz.f53, _, Tryz.func53, rfl, rfl, rfl, rfl, by kernel_rfl⟩

def z9i : List SOp := [zO 2 (.assign (.const (.bool false)))]
instance : Live z9i := ⟨[0]⟩
def z9h : List SOp := [zO 3 (.assign (.const (.int .i64 0)))]
instance : Live z9h := ⟨[0]⟩
def z9g : List SOp := [zM 4 3,zM 5 0,zO 6 (.call ⟨.builtin .len,#[.tmp 5],#[26]⟩),zO 7 (.binOp .lss 3 (.tmp 4) (.tmp 6) 3)]
instance : Live z9g := ⟨[0,3]⟩
def z9f : List SOp := [zM 10 0,zM 11 3,zI 12 26 10 11,zF 13 45 12 0,zL 14 43 13,zO 15 (.call ⟨.value (.func 51),#[.tmp 14],#[43]⟩),zO 16 (.unOp .not 4 (.tmp 15)),zM 17 16,⟨some 18,.move (.tmp 0),some ((some 17),false)⟩,⟨some 19,.move (.tmp 3),some ((some 17),false)⟩,⟨some 20,.indexAddr 26 (.tmp 18) (.tmp 19),some ((some 17),false)⟩,⟨some 21,.fieldAddr 45 (.tmp 20) 1,some ((some 17),false)⟩,⟨some 22,.load 9 (.tmp 21),some ((some 17),false)⟩,⟨some 23,.call ⟨.value (.func 52),#[.tmp 22],#[9]⟩,some ((some 17),false)⟩,⟨some 24,.unOp .not 4 (.tmp 23),some ((some 17),false)⟩,zO 25 (.pick (.tmp 17) (.const (.bool true)) (.tmp 24)),zM 26 25,⟨some 27,.move (.tmp 0),some ((some 26),false)⟩,⟨some 28,.move (.tmp 3),some ((some 26),false)⟩,⟨some 29,.indexAddr 26 (.tmp 27) (.tmp 28),some ((some 26),false)⟩,⟨some 30,.fieldAddr 45 (.tmp 29) 2,some ((some 26),false)⟩,⟨some 31,.load 3 (.tmp 30),some ((some 26),false)⟩,⟨some 32,.binOp .lss 3 (.tmp 31) (.const (.int .i64 1)) 3,some ((some 26),false)⟩,zO 33 (.pick (.tmp 26) (.const (.bool true)) (.tmp 32)),zM 34 33,⟨some 35,.move (.tmp 0),some ((some 34),false)⟩,⟨some 36,.move (.tmp 3),some ((some 34),false)⟩,⟨some 37,.indexAddr 26 (.tmp 35) (.tmp 36),some ((some 34),false)⟩,⟨some 38,.fieldAddr 45 (.tmp 37) 2,some ((some 34),false)⟩,⟨some 39,.load 3 (.tmp 38),some ((some 34),false)⟩,⟨some 40,.binOp .gtr 3 (.tmp 39) (.const (.int .i64 1000000)) 3,some ((some 34),false)⟩,zO 41 (.pick (.tmp 34) (.const (.bool true)) (.tmp 40))]
instance : Live z9f := ⟨[0,3]⟩
def z9e : List SOp := [zO 2 (.assign (.const (.bool false)))]
instance : Live z9e := ⟨[]⟩
def z9d : List SOp := [zM 42 3,zO 43 (.binOp .gtr 3 (.tmp 42) (.const (.int .i64 0)) 3),zM 44 43,⟨some 45,.move (.tmp 0),some ((some 44),true)⟩,⟨some 46,.move (.tmp 3),some ((some 44),true)⟩,⟨some 47,.binOp .sub 3 (.tmp 46) (.const (.int .i64 1)) 3,some ((some 44),true)⟩,⟨some 48,.indexAddr 26 (.tmp 45) (.tmp 47),some ((some 44),true)⟩,⟨some 49,.fieldAddr 45 (.tmp 48) 0,some ((some 44),true)⟩,⟨some 50,.load 43 (.tmp 49),some ((some 44),true)⟩,⟨some 51,.move (.tmp 0),some ((some 44),true)⟩,⟨some 52,.move (.tmp 3),some ((some 44),true)⟩,⟨some 53,.indexAddr 26 (.tmp 51) (.tmp 52),some ((some 44),true)⟩,⟨some 54,.fieldAddr 45 (.tmp 53) 0,some ((some 44),true)⟩,⟨some 55,.load 43 (.tmp 54),some ((some 44),true)⟩,⟨some 56,.call ⟨.value (.func 53),#[.tmp 50,.tmp 55],#[43,43]⟩,some ((some 44),true)⟩,⟨some 57,.unOp .not 4 (.tmp 56),some ((some 44),true)⟩,zO 58 (.pick (.tmp 44) (.tmp 57) (.const (.bool false)))]
instance : Live z9d := ⟨[0,3]⟩
def z9c : List SOp := [zO 2 (.assign (.const (.bool false)))]
instance : Live z9c := ⟨[]⟩
def z9b : List SOp := [zM 8 3,zO 9 (.binOp .add 3 (.tmp 8) (.const (.int .i64 1)) 3),zG 3 9]
instance : Live z9b := ⟨[0,3]⟩
def z9a : List SOp := [zO 2 (.assign (.const (.bool true)))]
instance : Live z9a := ⟨[]⟩
def qo5 : SC :=
 (.seq (.seq (.ops false z9g) (.cond (.tmp 7) .skip (.exit 0))) (.seq (.block 1 (.seq (.seq (.ops false z9f) (.cond (.tmp 41) (.seq (.ops false z9e) .ret) .skip)) (.seq (.ops true z9d) (.cond (.tmp 58) (.seq (.ops false z9c) .ret) .skip)))) (.ops false z9b)))
def t_k16 : SC :=
 (.seq (.ops false z9i) (.seq (.seq (.ops false z9h) (.block 0 (.loop qo5))) (.seq (.ops false z9a) .ret)))
theorem it_k16 : FnIs Tryz.prog 16 59 [.tmp 2] t_k16 := ⟨Tryz.f16, _, Tryz.func16, rfl, rfl, rfl, rfl, by kernel_rfl⟩

theorem hook_cmp {P : Program} {f : FuncId} {fn : Func} (hf : P.funcs[f]? = some fn) (h1 : (fn.name = "runtime.NumGoroutine") = False) (h2 : (fn.body = none) = True) (h3 : Extern.findNext fn = none) (h4 : Extern.find fn = some Extern.BytealgCompare.compare) {s : AS} {x y : Operand} {ts : Array TypeId} {a b : ByteArray} (hx : ev s.T x = .str a) (hy : ev s.T y = .str b) :
 Hook P s (.call ⟨.value (.func f), #[x, y], ts⟩) (fun v M' => M' = s.M ∧ v = .int .i64 (ql7 a b)) := by
 intro n B G act w hR o ho K Q hK
 have q1 := hR.ev x
 have q2 := hR.ev y
 rw [hx] at q1
 rw [hy] at q2
 generalize hxv : act.eval x = xv at q1
 generalize hyv : act.eval y = yv at q2
 cases q1
 cases q2
 have hrun : (execOp act.eval o).run P w = .ok (.value (.int .i64 (ql7 a b))) w := by
  unfold execOp
  rw [ho]
  have hc := Go.Lib.run_compareString (P := P) a b w
  rw [q9g] at hc
  have hf0 : act.eval (.func f) = .func (.func f) #[] #[] := rfl
  simp [resolve, Deferred.ofValue, invoke, callFunc, hf, hf0, h1, h2, h3, h4, hxv, hyv, hc, Result.andThen, ql7, bs]
 unfold Oper.wp
 rw [hrun]
 exact hK (.int .i64 (ql7 a b)) _ s.M w G ⟨rfl, rfl⟩ (.refl G w) hR (.int _ _)
theorem ev_k145 (a b : ByteArray) : Ev (En Tryz.prog rfl).P 145 [.str a, .str b] (.ret (.int .i64 (ql7 a b))) := by
 refine Ev.of_body it_k145 (by simp) (Run.start ?_)
 unfold t_k145
 (focus (have hF := True.intro; (repeat' (first | refine go1 (k:=?_) | with_reducible refine Ny.of ?_ ?_ | (refine Hyp.of ?_; intro hc; (try simp only [hc]); (try simp only [Bh] at hc)))); all_goals clear hF))
 refine q2f (hook_cmp (f := 156) (fn := Tryz.f156) Tryz.func156 (eq_false (by decide)) (eq_true rfl) rfl rfl rfl rfl) ?_
 rintro v M' ⟨rfl, rfl⟩
 dsimp only [AS.put]
 (focus (have hF := True.intro; (repeat' (first | refine go1 (k:=?_) | with_reducible refine Ny.of ?_ ?_ | (refine Hyp.of ?_; intro hc; (try simp only [hc]); (try simp only [Bh] at hc)))); all_goals clear hF))
 exact Fin.tmp' rfl rfl
theorem ev_k128 (a b : ByteArray) : Ev (En Tryz.prog rfl).P 128 [.str a, .str b] (.ret (.int .i64 (ql7 a b))) := by
 refine Ev.of_body it_k128 (by simp) (Run.start ?_)
 unfold t_k128
 (focus (have hF := True.intro; (repeat' (first | refine go1 (k:=?_) | with_reducible refine Ny.of ?_ ?_ | (refine Hyp.of ?_; intro hc; (try simp only [hc]); (try simp only [Bh] at hc)))); all_goals clear hF))
 refine q05 [.str a, .str b] (he := ev_k145 a b) (k:=?_)
 (focus (have hF := True.intro; (repeat' (first | refine go1 (k:=?_) | with_reducible refine Ny.of ?_ ?_ | (refine Hyp.of ?_; intro hc; (try simp only [hc]); (try simp only [Bh] at hc)))); all_goals clear hF))
 exact Fin.tmp' rfl rfl
theorem ev_k101 (a b : Rec) (ha : wt a.past ≤ 50000000) (hb : wt b.past ≤ 50000000) : Ev (En Tryz.prog rfl).P 101 [qbp a, qbp b] (.ret (.int .i64 (qkg a b))) := by
 refine Ev.of_body it_k101 (by simp) (Run.start ?_)
 unfold t_k101 qbp qkg
 have c1 := ev_k128 a.sku b.sku
 have c2 := ev_k129 a.past b.past ha hb
 generalize ql7 a.sku b.sku = v at c1 ⊢
 (focus (have hF := True.intro; (repeat' (first | refine go1 (k:=?_) | with_reducible refine Ny.of ?_ ?_ | (refine Hyp.of ?_; intro hc; (try simp only [hc]); (try simp only [Bh] at hc)))); all_goals clear hF))
 refine q05 [.str a.sku, .str b.sku] (he := c1) (k:=?_)
 by_cases h : v = 0
 ·rw [if_pos h]
  (focus (have hF := @h; (repeat' (first | refine go1 (k:=?_) | with_reducible refine Ny.of ?_ ?_ | (refine Hyp.of ?_; intro hc; (try simp only [hc]); (try simp only [Bh] at hc)))); all_goals clear hF))
  refine q05 [q1k a.past, q1k b.past] (he := c2) (k:=?_)
  (focus (have hF := True.intro; (repeat' (first | refine go1 (k:=?_) | with_reducible refine Ny.of ?_ ?_ | (refine Hyp.of ?_; intro hc; (try simp only [hc]); (try simp only [Bh] at hc)))); all_goals clear hF))
  exact Fin.tmp' rfl rfl
 ·rw [if_neg h]
  (focus (have hF := True.intro; (repeat' (first | refine go1 (k:=?_) | with_reducible refine Ny.of ?_ ?_ | (refine Hyp.of ?_; intro hc; (try simp only [hc]); (try simp only [Bh] at hc)))); all_goals clear hF))
  exact Fin.tmp' rfl rfl
theorem ev_k64 (a b : Rec) (ha : wt a.past ≤ 30000000) (hb : wt b.past ≤ 30000000) : Ev (En Tryz.prog rfl).P 64 [qbp a, qbp b] (.ret (.int .i64 (qkg a b))) := by
 refine Ev.of_body it_k64 (by simp) (Run.start ?_)
 unfold t_k64 qbp qkg
 have c2 := ev_k110 a.past b.past ha hb
 have h1 := zc3 a.sku b.sku
 have hr : ql7 a.sku b.sku = -1 ∨ ql7 a.sku b.sku = 0 ∨ ql7 a.sku b.sku = 1 := qcx _ _
 have h0 : (a.sku = b.sku) = (ql7 a.sku b.sku = 0) := propext zc2.symm
 generalize ql7 a.sku b.sku = v at *
 rcases hr with rfl | rfl | rfl
 ·rw [if_neg (by decide)]
  rw [show decide ((-1 : Int) < 0) = true by decide] at h1
  (focus (have hF := @h1; (repeat' (first | refine go1 (k:=?_) | with_reducible refine Ny.of ?_ ?_ | (refine Hyp.of ?_; intro hc; (try simp only [hc]); (try simp only [Bh] at hc)))); all_goals clear hF))
  exact Fin.tmp' rfl rfl
 ·rw [if_pos rfl]
  rw [show decide ((0 : Int) < 0) = false by decide] at h1
  rw [show ((0 : Int) = 0) = True by simp] at h0
  (focus (have hF := (aI (aI @h1 (aI @h0 @Bool.not_true)) (aI @Bool.or_true (aI @Bool.false_or @decide_true))); (repeat' (first | refine go1 (k:=?_) | with_reducible refine Ny.of ?_ ?_ | (refine Hyp.of ?_; intro hc; (try simp only [hc]); (try simp only [Bh] at hc)))); all_goals clear hF))
  refine q05 [q1k a.past, q1k b.past] (he := c2) (k:=?_)
  (focus (have hF := True.intro; (repeat' (first | refine go1 (k:=?_) | with_reducible refine Ny.of ?_ ?_ | (refine Hyp.of ?_; intro hc; (try simp only [hc]); (try simp only [Bh] at hc)))); all_goals clear hF))
  exact Fin.tmp' rfl rfl
 ·rw [if_neg (by decide)]
  rw [show decide ((1 : Int) < 0) = false by decide] at h1
  rw [show ((1 : Int) = 0) = False by simp] at h0
  (focus (have hF := (aI (aI @h1 @h0) (aI @Bool.not_false (aI @Bool.or_false @decide_false))); (repeat' (first | refine go1 (k:=?_) | with_reducible refine Ny.of ?_ ?_ | (refine Hyp.of ?_; intro hc; (try simp only [hc]); (try simp only [Bh] at hc)))); all_goals clear hF))
  exact Fin.tmp' rfl rfl
theorem qjp (p : Pst) : qll p (q29 p) = q15 p := by
 refine bool_eq ?_
 rw [q5h]
 constructor
 ·intro h
  have : ∀ a b : Pst, a.vec = b.vec → a.cloud = b.cloud → a = b := fun a b u v => by cases a; cases b; simp at u v; rw [u, v]
  have h' := of_decide_eq_true h
  exact (this _ _ h'.1 h'.2).symm
 ·intro h
  have h' : q29 p = p := h
  rw [h']
  exact q8q ⟨rfl, rfl⟩
theorem ev_k22 (p : Pst) (hw : wt p ≤ 30000000) : Ev (En Tryz.prog rfl).P 22 [q1k p] (.ret (.bool (q15 p))) := by
 have c1 := zbs p (by omega)
 have w := q6n p
 have c2 := ev_k14 p (q29 p) (by unfold wt at *; omega) (by unfold wt at *; omega)
 rw [qjp] at c2
 refine Ev.of_body it_k22 (by simp) (Run.start ?_)
 unfold t_k22 q1k
 (focus (have hF := True.intro; (repeat' (first | refine go1 (k:=?_) | with_reducible refine Ny.of ?_ ?_ | (refine Hyp.of ?_; intro hc; (try simp only [hc]); (try simp only [Bh] at hc)))); all_goals clear hF))
 refine q05 [q1k p] (he := c1) (k:=?_)
 (focus (have hF := True.intro; (repeat' (first | refine go1 (k:=?_) | with_reducible refine Ny.of ?_ ?_ | (refine Hyp.of ?_; intro hc; (try simp only [hc]); (try simp only [Bh] at hc)))); all_goals clear hF))
 refine q05 [q1k p, q1k (q29 p)] (he := c2) (k:=?_)
 (focus (have hF := True.intro; (repeat' (first | refine go1 (k:=?_) | with_reducible refine Ny.of ?_ ?_ | (refine Hyp.of ?_; intro hc; (try simp only [hc]); (try simp only [Bh] at hc)))); all_goals clear hF))
 exact Fin.tmp' rfl rfl
theorem z14 (s : ByteArray) : (s = (⟨#[]⟩ : ByteArray)) = (s.size = 0) := propext qap
theorem ev_k100 (r : Rec) (hw : wt r.past ≤ 40000000) : Ev (En Tryz.prog rfl).P 100 [qbp r] (.ret (.int .i64 (q3o r))) := by
 refine Ev.of_body it_k100 (by simp) (Run.start ?_)
 unfold t_k100 qbp q3o
 have c1 := zbq r.sku
 have c2 := ev_k45 r.past hw
 have c3 := ev_k127 r.past (by omega)
 have e := z14 r.sku
 generalize q69 r.sku = v1 at c1 ⊢
 generalize q15 r.past = v2 at c2 ⊢
 generalize q7s r.past = v3 at c3 ⊢
 have tail : ∀ (X : Prop), X → X := fun _ x => x
 by_cases h0 : r.sku.size = 0
 ·have h0' : (r.sku.size = 0) = True := eq_true h0
  simp only [h0', not_true_eq_false, false_and, if_false]
  rw [h0'] at e
  (focus (have hF := (aI @e (aI @decide_true @Bool.not_true)); (repeat' (first | refine go1 (k:=?_) | with_reducible refine Ny.of ?_ ?_ | (refine Hyp.of ?_; intro hc; (try simp only [hc]); (try simp only [Bh] at hc)))); all_goals clear hF))
  refine q05 [q1k r.past] (he := c2) (k:=?_)
  cases v2
  ·(focus (have hF := True.intro; (repeat' (first | refine go1 (k:=?_) | with_reducible refine Ny.of ?_ ?_ | (refine Hyp.of ?_; intro hc; (try simp only [hc]); (try simp only [Bh] at hc)))); all_goals clear hF))
   exact Fin.tmp' rfl rfl
  ·(focus (have hF := True.intro; (repeat' (first | refine go1 (k:=?_) | with_reducible refine Ny.of ?_ ?_ | (refine Hyp.of ?_; intro hc; (try simp only [hc]); (try simp only [Bh] at hc)))); all_goals clear hF))
   refine q05 [q1k r.past] (he := c3) (k:=?_)
   by_cases h3 : v3 = 0
   ·(focus (have hF := @h3; (repeat' (first | refine go1 (k:=?_) | with_reducible refine Ny.of ?_ ?_ | (refine Hyp.of ?_; intro hc; (try simp only [hc]); (try simp only [Bh] at hc)))); all_goals clear hF))
    simp only [h3, or_true, if_true]
    exact Fin.tmp' rfl rfl
   ·(focus (have hF := @h3; (repeat' (first | refine go1 (k:=?_) | with_reducible refine Ny.of ?_ ?_ | (refine Hyp.of ?_; intro hc; (try simp only [hc]); (try simp only [Bh] at hc)))); all_goals clear hF))
    simp only [h3, reduceCtorEq, or_false, if_false]
    exact Fin.tmp' rfl rfl
 ·have h0' : (r.sku.size = 0) = False := eq_false h0
  rw [h0'] at e
  simp only [h0', not_false_eq_true, true_and]
  (focus (have hF := (aI @e (aI @decide_false @Bool.not_false)); (repeat' (first | refine go1 (k:=?_) | with_reducible refine Ny.of ?_ ?_ | (refine Hyp.of ?_; intro hc; (try simp only [hc]); (try simp only [Bh] at hc)))); all_goals clear hF))
  refine q05 [.str r.sku] (he := c1) (k:=?_)
  cases v1
  ·(focus (have hF := True.intro; (repeat' (first | refine go1 (k:=?_) | with_reducible refine Ny.of ?_ ?_ | (refine Hyp.of ?_; intro hc; (try simp only [hc]); (try simp only [Bh] at hc)))); all_goals clear hF))
   exact Fin.tmp' rfl rfl
  ·(focus (have hF := True.intro; (repeat' (first | refine go1 (k:=?_) | with_reducible refine Ny.of ?_ ?_ | (refine Hyp.of ?_; intro hc; (try simp only [hc]); (try simp only [Bh] at hc)))); all_goals clear hF))
   refine q05 [q1k r.past] (he := c2) (k:=?_)
   cases v2
   ·(focus (have hF := True.intro; (repeat' (first | refine go1 (k:=?_) | with_reducible refine Ny.of ?_ ?_ | (refine Hyp.of ?_; intro hc; (try simp only [hc]); (try simp only [Bh] at hc)))); all_goals clear hF))
    exact Fin.tmp' rfl rfl
   ·(focus (have hF := True.intro; (repeat' (first | refine go1 (k:=?_) | with_reducible refine Ny.of ?_ ?_ | (refine Hyp.of ?_; intro hc; (try simp only [hc]); (try simp only [Bh] at hc)))); all_goals clear hF))
    refine q05 [q1k r.past] (he := c3) (k:=?_)
    by_cases h3 : v3 = 0
    ·(focus (have hF := @h3; (repeat' (first | refine go1 (k:=?_) | with_reducible refine Ny.of ?_ ?_ | (refine Hyp.of ?_; intro hc; (try simp only [hc]); (try simp only [Bh] at hc)))); all_goals clear hF))
     simp only [h3, or_true, if_true, reduceCtorEq, if_false]
     exact Fin.tmp' rfl rfl
    ·(focus (have hF := @h3; (repeat' (first | refine go1 (k:=?_) | with_reducible refine Ny.of ?_ ?_ | (refine Hyp.of ?_; intro hc; (try simp only [hc]); (try simp only [Bh] at hc)))); all_goals clear hF))
     simp only [h3, reduceCtorEq, or_false, if_false]
     exact Fin.tmp' rfl rfl
theorem ev_k63 (r : Rec) (hw : wt r.past ≤ 30000000) : Ev (En Tryz.prog rfl).P 63 [qbp r] (.ret (.int .i64 (q3o r))) := by
 refine Ev.of_body it_k63 (by simp) (Run.start ?_)
 unfold t_k63 qbp q3o
 have c1 := ev_k52 r.sku
 have c2 := ev_k22 r.past (by omega)
 have c3 := ev_k109 r.past (by omega)
 have e := z14 r.sku
 generalize q69 r.sku = v1 at c1 ⊢
 generalize q15 r.past = v2 at c2 ⊢
 generalize q7s r.past = v3 at c3 ⊢
 have tail : ∀ (X : Prop), X → X := fun _ x => x
 by_cases h0 : r.sku.size = 0
 ·have h0' : (r.sku.size = 0) = True := eq_true h0
  simp only [h0', not_true_eq_false, false_and, if_false]
  rw [h0'] at e
  (focus (have hF := (aI @e (aI @decide_true @Bool.not_true)); (repeat' (first | refine go1 (k:=?_) | with_reducible refine Ny.of ?_ ?_ | (refine Hyp.of ?_; intro hc; (try simp only [hc]); (try simp only [Bh] at hc)))); all_goals clear hF))
  refine q05 [q1k r.past] (he := c2) (k:=?_)
  cases v2
  ·(focus (have hF := True.intro; (repeat' (first | refine go1 (k:=?_) | with_reducible refine Ny.of ?_ ?_ | (refine Hyp.of ?_; intro hc; (try simp only [hc]); (try simp only [Bh] at hc)))); all_goals clear hF))
   exact Fin.tmp' rfl rfl
  ·(focus (have hF := True.intro; (repeat' (first | refine go1 (k:=?_) | with_reducible refine Ny.of ?_ ?_ | (refine Hyp.of ?_; intro hc; (try simp only [hc]); (try simp only [Bh] at hc)))); all_goals clear hF))
   refine q05 [q1k r.past] (he := c3) (k:=?_)
   by_cases h3 : v3 = 0
   ·(focus (have hF := @h3; (repeat' (first | refine go1 (k:=?_) | with_reducible refine Ny.of ?_ ?_ | (refine Hyp.of ?_; intro hc; (try simp only [hc]); (try simp only [Bh] at hc)))); all_goals clear hF))
    simp only [h3, or_true, if_true]
    exact Fin.tmp' rfl rfl
   ·(focus (have hF := @h3; (repeat' (first | refine go1 (k:=?_) | with_reducible refine Ny.of ?_ ?_ | (refine Hyp.of ?_; intro hc; (try simp only [hc]); (try simp only [Bh] at hc)))); all_goals clear hF))
    simp only [h3, reduceCtorEq, or_false, if_false]
    exact Fin.tmp' rfl rfl
 ·have h0' : (r.sku.size = 0) = False := eq_false h0
  rw [h0'] at e
  simp only [h0', not_false_eq_true, true_and]
  (focus (have hF := (aI @e (aI @decide_false @Bool.not_false)); (repeat' (first | refine go1 (k:=?_) | with_reducible refine Ny.of ?_ ?_ | (refine Hyp.of ?_; intro hc; (try simp only [hc]); (try simp only [Bh] at hc)))); all_goals clear hF))
  refine q05 [.str r.sku] (he := c1) (k:=?_)
  cases v1
  ·(focus (have hF := True.intro; (repeat' (first | refine go1 (k:=?_) | with_reducible refine Ny.of ?_ ?_ | (refine Hyp.of ?_; intro hc; (try simp only [hc]); (try simp only [Bh] at hc)))); all_goals clear hF))
   exact Fin.tmp' rfl rfl
  ·(focus (have hF := True.intro; (repeat' (first | refine go1 (k:=?_) | with_reducible refine Ny.of ?_ ?_ | (refine Hyp.of ?_; intro hc; (try simp only [hc]); (try simp only [Bh] at hc)))); all_goals clear hF))
   refine q05 [q1k r.past] (he := c2) (k:=?_)
   cases v2
   ·(focus (have hF := True.intro; (repeat' (first | refine go1 (k:=?_) | with_reducible refine Ny.of ?_ ?_ | (refine Hyp.of ?_; intro hc; (try simp only [hc]); (try simp only [Bh] at hc)))); all_goals clear hF))
    exact Fin.tmp' rfl rfl
   ·(focus (have hF := True.intro; (repeat' (first | refine go1 (k:=?_) | with_reducible refine Ny.of ?_ ?_ | (refine Hyp.of ?_; intro hc; (try simp only [hc]); (try simp only [Bh] at hc)))); all_goals clear hF))
    refine q05 [q1k r.past] (he := c3) (k:=?_)
    by_cases h3 : v3 = 0
    ·(focus (have hF := @h3; (repeat' (first | refine go1 (k:=?_) | with_reducible refine Ny.of ?_ ?_ | (refine Hyp.of ?_; intro hc; (try simp only [hc]); (try simp only [Bh] at hc)))); all_goals clear hF))
     simp only [h3, or_true, if_true, reduceCtorEq, if_false]
     exact Fin.tmp' rfl rfl
    ·(focus (have hF := @h3; (repeat' (first | refine go1 (k:=?_) | with_reducible refine Ny.of ?_ ?_ | (refine Hyp.of ?_; intro hc; (try simp only [hc]); (try simp only [Bh] at hc)))); all_goals clear hF))
     simp only [h3, reduceCtorEq, or_false, if_false]
     exact Fin.tmp' rfl rfl
theorem qcz {l : List Rec} {i : Nat} {r : Rec} (hr : l[i]? = some r) (hI : (∀ (j : Nat) q, j < i → l[j]? = some q → q3o q = 0) ∧ ∀ (j : Nat) a b, j + 1 < i → l[j]? = some a → l[j + 1]? = some b → qkg a b < 0) (h0 : q3o r = 0)
 (h1 : ∀ q, 0 < i → l[i - 1]? = some q → qkg q r < 0) : (∀ (j : Nat) q, j < i + 1 → l[j]? = some q → q3o q = 0) ∧ ∀ (j : Nat) a b, j + 1 < i + 1 → l[j]? = some a → l[j + 1]? = some b → qkg a b < 0 := by
 refine ⟨fun j q hj hq => ?_, fun j a b hj ha hb => ?_⟩
 ·by_cases e : j = i
  ·subst e; rw [hr] at hq; cases hq; exact h0
  ·exact hI.1 j q (by omega) hq
 ·by_cases e : j + 1 = i
  ·subst e
   rw [hr] at hb
   cases hb
   exact h1 a (by omega) (by simpa using ha)
  ·exact hI.2 j a b (by omega) ha hb
theorem q8d (l : List Rec) (hl : l.length ≤ 1000000000) (hw : ∀ r ∈ l, wt r.past ≤ 40000000) : Ev (En Tryz.prog rfl).P 57 [.sl 3 (q1i l)] (.ret (.int .i64 (if q4z l = true then 0 else 1))) := by
 refine Ev.of_body it_k57 (by simp) (Run.start ?_)
 unfold t_k57
 have e1 := q51 l
 have hS := qo6
 (focus (have hF := @e1; (repeat' (first | refine go1 (k:=?_) | with_reducible refine Ny.of ?_ ?_ | (refine Hyp.of ?_; intro hc; (try simp only [hc]); (try simp only [Bh] at hc)))); all_goals clear hF))
 refine Run.while (σ := Nat) (fun i => ⟨tms [(0, .sl 3 (q1i l)), (5, .sl 3 (q1i l)), (6, .int .i64 (l.length : Int)), (7, .int .i64 (i : Int))], mms []⟩)
  (fun i => i ≤ l.length ∧ (∀ (j : Nat) q, j < i → l[j]? = some q → q3o q = 0) ∧ ∀ (j : Nat) a b, j + 1 < i → l[j]? = some a → l[j + 1]? = some b → qkg a b < 0) (fun i => l.length - i) 0 (have hW := @q0p; q0v) ⟨Nat.zero_le _, fun j q hj => absurd hj (Nat.not_lt_zero _), fun j a b hj => by omega⟩ ?_
 rintro i ⟨hi, hI⟩
 unfold qnp
 by_cases hlt : i < l.length
 ·obtain ⟨r, hr⟩ : ∃ r, l[i]? = some r := ⟨l[i], by simp [hlt]⟩
  have g1 := q48 hr
  have hwr := hw r (List.mem_of_getElem? hr)
  have c1 := ev_k100 r (by omega)
  have hst := fun h0 h1 => qcz hr hI h0 h1
  have hbad : q3o r ≠ 0 → ¬ qkz l := fun h hf => h (hf.1 i r hr)
  generalize q3o r = v at c1 hst hbad
  (focus (have hF := (aI @e1 @g1); (repeat' (first | refine go1 (k:=?_) | with_reducible refine Ny.of ?_ ?_ | (refine Hyp.of ?_; intro hc; (try simp only [hc]); (try simp only [Bh] at hc)))); all_goals clear hF))
  refine q05 [qbp r] (he := c1) (k:=?_)
  by_cases hv : v = 0
  ·by_cases h0 : i = 0
   ·have hst := hst hv (fun q hq => by omega)
    have h0' : (i : Int) = 0 := by omega
    (focus (have hF := (aI (aI @e1 @g1) (aI @hv @h0')); (repeat' (first | refine go1 (k:=?_) | with_reducible refine Ny.of ?_ ?_ | (refine Hyp.of ?_; intro hc; (try simp only [hc]); (try simp only [Bh] at hc)))); all_goals clear hF))
    have hi1 : ((0 : Int) + 1) = ((i + 1 : Nat) : Int) := by omega
    (refine Fin.nextW (i + 1) ?_ (have hW := (aI @q0p @hi1); q0v); (try dsimp only))
    exact ⟨⟨hlt, hst⟩, by omega⟩
   ·obtain ⟨q, hq⟩ : ∃ q, l[i - 1]? = some q := ⟨l[i - 1]'(by omega), by simp [show i - 1 < l.length by omega]⟩
    have g2 := q48 hq
    have hpw : IntKind.i64.wrap ((i : Int) - 1) = ((i - 1 : Nat) : Int) := by rw [q0a (by omega)]; omega
    have hwq := hw q (List.mem_of_getElem? hq)
    have c2 := ev_k101 q r (by omega) (by omega)
    have hst := hst hv
    have hbad2 : ¬ qkg q r < 0 → ¬ qkz l := fun h hf => h (hf.2 (i - 1) q r hq (by rw [show i - 1 + 1 = i by omega]; exact hr))
    have hst : qkg q r < 0 → _ := fun h => hst (fun q' _ hq' => by rw [hq] at hq'; cases hq'; exact h)
    generalize qkg q r = u at c2 hst hbad2
    (focus (have hF := (aI (aI @e1 @g1) (aI @g2 (aI @hv @hpw))); (repeat' (first | refine go1 (k:=?_) | with_reducible refine Ny.of ?_ ?_ | (refine Hyp.of ?_; intro hc; (try simp only [hc]); (try simp only [Bh] at hc)))); all_goals clear hF))
    refine q05 [qbp q, qbp r] (he := c2) (k:=?_)
    by_cases hu : u < 0
    ·have hst := hst hu
     (focus (have hF := (aI @e1 @g1); (repeat' (first | refine go1 (k:=?_) | with_reducible refine Ny.of ?_ ?_ | (refine Hyp.of ?_; intro hc; (try simp only [hc]); (try simp only [Bh] at hc)))); all_goals clear hF))
     (refine Fin.nextW (i + 1) ?_ (have hW := @q0p; q0v); (try dsimp only))
     exact ⟨⟨hlt, hst⟩, by omega⟩
    ·rw [q5i (hbad2 hu)]
     (focus (have hF := (aI @e1 @g1); (repeat' (first | refine go1 (k:=?_) | with_reducible refine Ny.of ?_ ?_ | (refine Hyp.of ?_; intro hc; (try simp only [hc]); (try simp only [Bh] at hc)))); all_goals clear hF))
     exact Fin.tmp' rfl rfl
  ·rw [q5i (hbad hv)]
   (focus (have hF := (aI @e1 (aI @g1 @hv)); (repeat' (first | refine go1 (k:=?_) | with_reducible refine Ny.of ?_ ?_ | (refine Hyp.of ?_; intro hc; (try simp only [hc]); (try simp only [Bh] at hc)))); all_goals clear hF))
   exact Fin.tmp' rfl rfl
 ·rw [q8z ⟨fun j q hq => hI.1 j q (by
   rcases Nat.lt_or_ge j l.length with h | h
   ·omega
   ·rw [List.getElem?_eq_none h] at hq; cases hq) hq, fun j a b ha hb => hI.2 j a b (by
   rcases Nat.lt_or_ge (j + 1) l.length with h | h
   ·omega
   ·rw [List.getElem?_eq_none h] at hb; cases hb) ha hb⟩]
  (focus (have hF := @e1; (repeat' (first | refine go1 (k:=?_) | with_reducible refine Ny.of ?_ ?_ | (refine Hyp.of ?_; intro hc; (try simp only [hc]); (try simp only [Bh] at hc)))); all_goals clear hF))
  exact Fin.tmp' rfl rfl

theorem qcg (l : List Rec) (hl : l.length ≤ 1000000000) (hw : ∀ r ∈ l, wt r.past ≤ 30000000) : Ev (En Tryz.prog rfl).P 25 [.sl 3 (q1i l)] (.ret (.int .i64 (if q4z l = true then 0 else 1))) := by
 refine Ev.of_body it_k25 (by simp) (Run.start ?_)
 unfold t_k25
 have e1 := q51 l
 have hS := qo6
 (focus (have hF := @e1; (repeat' (first | refine go1 (k:=?_) | with_reducible refine Ny.of ?_ ?_ | (refine Hyp.of ?_; intro hc; (try simp only [hc]); (try simp only [Bh] at hc)))); all_goals clear hF))
 refine Run.while (σ := Nat) (fun i => ⟨tms [(0, .sl 3 (q1i l)), (3, .int .i64 (i : Int))], mms []⟩)
  (fun i => i ≤ l.length ∧ (∀ (j : Nat) q, j < i → l[j]? = some q → q3o q = 0) ∧ ∀ (j : Nat) a b, j + 1 < i → l[j]? = some a → l[j + 1]? = some b → qkg a b < 0) (fun i => l.length - i) 0 (have hW := @q0p; q0v) ⟨Nat.zero_le _, fun j q hj => absurd hj (Nat.not_lt_zero _), fun j a b hj => by omega⟩ ?_
 rintro i ⟨hi, hI⟩
 unfold qo1
 by_cases hlt : i < l.length
 ·obtain ⟨r, hr⟩ : ∃ r, l[i]? = some r := ⟨l[i], by simp [hlt]⟩
  have g1 := q48 hr
  have hwr := hw r (List.mem_of_getElem? hr)
  have c1 := ev_k63 r (by omega)
  have hst := fun h0 h1 => qcz hr hI h0 h1
  have hbad : q3o r ≠ 0 → ¬ qkz l := fun h hf => h (hf.1 i r hr)
  generalize q3o r = v at c1 hst hbad
  (focus (have hF := (aI @e1 @g1); (repeat' (first | refine go1 (k:=?_) | with_reducible refine Ny.of ?_ ?_ | (refine Hyp.of ?_; intro hc; (try simp only [hc]); (try simp only [Bh] at hc)))); all_goals clear hF))
  refine q05 [qbp r] (he := c1) (k:=?_)
  by_cases hv : v = 0
  ·by_cases h0 : i = 0
   ·have hst := hst hv (fun q hq => by omega)
    have h0' : (i : Int) = 0 := by omega
    (focus (have hF := (aI (aI @e1 @g1) (aI @hv @h0')); (repeat' (first | refine go1 (k:=?_) | with_reducible refine Ny.of ?_ ?_ | (refine Hyp.of ?_; intro hc; (try simp only [hc]); (try simp only [Bh] at hc)))); all_goals clear hF))
    have hi1 : ((0 : Int) + 1) = ((i + 1 : Nat) : Int) := by omega
    (refine Fin.nextW (i + 1) ?_ (have hW := (aI @q0p @hi1); q0v); (try dsimp only))
    exact ⟨⟨hlt, hst⟩, by omega⟩
   ·obtain ⟨q, hq⟩ : ∃ q, l[i - 1]? = some q := ⟨l[i - 1]'(by omega), by simp [show i - 1 < l.length by omega]⟩
    have g2 := q48 hq
    have hpw : IntKind.i64.wrap ((i : Int) - 1) = ((i - 1 : Nat) : Int) := by rw [q0a (by omega)]; omega
    have hwq := hw q (List.mem_of_getElem? hq)
    have c2 := ev_k64 q r (by omega) (by omega)
    have hst := hst hv
    have hbad2 : ¬ qkg q r < 0 → ¬ qkz l := fun h hf => h (hf.2 (i - 1) q r hq (by rw [show i - 1 + 1 = i by omega]; exact hr))
    have hst : qkg q r < 0 → _ := fun h => hst (fun q' _ hq' => by rw [hq] at hq'; cases hq'; exact h)
    generalize qkg q r = u at c2 hst hbad2
    (focus (have hF := (aI (aI @e1 @g1) (aI @g2 (aI @hv @hpw))); (repeat' (first | refine go1 (k:=?_) | with_reducible refine Ny.of ?_ ?_ | (refine Hyp.of ?_; intro hc; (try simp only [hc]); (try simp only [Bh] at hc)))); all_goals clear hF))
    refine q05 [qbp q, qbp r] (he := c2) (k:=?_)
    by_cases hu : u < 0
    ·have hst := hst hu
     (focus (have hF := (aI @e1 @g1); (repeat' (first | refine go1 (k:=?_) | with_reducible refine Ny.of ?_ ?_ | (refine Hyp.of ?_; intro hc; (try simp only [hc]); (try simp only [Bh] at hc)))); all_goals clear hF))
     (refine Fin.nextW (i + 1) ?_ (have hW := @q0p; q0v); (try dsimp only))
     exact ⟨⟨hlt, hst⟩, by omega⟩
    ·rw [q5i (hbad2 hu)]
     (focus (have hF := (aI @e1 @g1); (repeat' (first | refine go1 (k:=?_) | with_reducible refine Ny.of ?_ ?_ | (refine Hyp.of ?_; intro hc; (try simp only [hc]); (try simp only [Bh] at hc)))); all_goals clear hF))
     exact Fin.tmp' rfl rfl
  ·rw [q5i (hbad hv)]
   (focus (have hF := (aI @e1 (aI @g1 @hv)); (repeat' (first | refine go1 (k:=?_) | with_reducible refine Ny.of ?_ ?_ | (refine Hyp.of ?_; intro hc; (try simp only [hc]); (try simp only [Bh] at hc)))); all_goals clear hF))
   exact Fin.tmp' rfl rfl
 ·rw [q8z ⟨fun j q hq => hI.1 j q (by
   rcases Nat.lt_or_ge j l.length with h | h
   ·omega
   ·rw [List.getElem?_eq_none h] at hq; cases hq) hq, fun j a b ha hb => hI.2 j a b (by
   rcases Nat.lt_or_ge (j + 1) l.length with h | h
   ·omega
   ·rw [List.getElem?_eq_none h] at hb; cases hb) ha hb⟩]
  (focus (have hF := @e1; (repeat' (first | refine go1 (k:=?_) | with_reducible refine Ny.of ?_ ?_ | (refine Hyp.of ?_; intro hc; (try simp only [hc]); (try simp only [Bh] at hc)))); all_goals clear hF))
  exact Fin.tmp' rfl rfl
theorem ev_k95 (e : Ent) : Ev (En Tryz.prog rfl).P 95 [encE e] (.ret (.int .i64 (q3p e))) := by
 refine Ev.of_body it_k95 (by simp) (Run.start ?_)
 unfold t_k95 encE q3p
 have c1 := zbq e.sku
 generalize q69 e.sku = v at c1 ⊢
 by_cases h1 : e.rep < 0 ∨ 16 ≤ e.rep
 ·rw [if_pos h1]
  rcases h1 with h1 | h1
  all_goals
   (focus (have hF := True.intro; (repeat' (first | refine go1 (k:=?_) | with_reducible refine Ny.of ?_ ?_ | (refine Hyp.of ?_; intro hc; (try simp only [hc]); (try simp only [Bh] at hc)))); all_goals clear hF))
  all_goals first | exact Fin.tmp' rfl rfl | (exfalso; omega)
 ·rw [if_neg h1]
  by_cases h2 : e.num < 1 ∨ 1000000000 < e.num
  ·rw [if_pos h2]
   rcases h2 with h2 | h2
   all_goals
    (focus (have hF := True.intro; (repeat' (first | refine go1 (k:=?_) | with_reducible refine Ny.of ?_ ?_ | (refine Hyp.of ?_; intro hc; (try simp only [hc]); (try simp only [Bh] at hc)))); all_goals clear hF))
   all_goals first | exact Fin.tmp' rfl rfl | (exfalso; omega)
  ·rw [if_neg h2]
   (focus (have hF := True.intro; (repeat' (first | refine go1 (k:=?_) | with_reducible refine Ny.of ?_ ?_ | (refine Hyp.of ?_; intro hc; (try simp only [hc]); (try simp only [Bh] at hc)))); all_goals clear hF))
   all_goals
    refine q05 [.str e.sku] (he := c1) (k:=?_)
    cases v
    case' false =>
     rw [if_pos rfl]
     (focus (have hF := True.intro; (repeat' (first | refine go1 (k:=?_) | with_reducible refine Ny.of ?_ ?_ | (refine Hyp.of ?_; intro hc; (try simp only [hc]); (try simp only [Bh] at hc)))); all_goals clear hF))
     exact Fin.tmp' rfl rfl
    case' true =>
     rw [if_neg (by decide)]
     by_cases h3 : e.qty < 1 ∨ 1000000 < e.qty
     ·rw [if_pos h3]
      rcases h3 with h3 | h3
      all_goals
       (focus (have hF := True.intro; (repeat' (first | refine go1 (k:=?_) | with_reducible refine Ny.of ?_ ?_ | (refine Hyp.of ?_; intro hc; (try simp only [hc]); (try simp only [Bh] at hc)))); all_goals clear hF))
      all_goals first | exact Fin.tmp' rfl rfl | (exfalso; omega)
     ·rw [if_neg h3]
      (focus (have hF := True.intro; (repeat' (first | refine go1 (k:=?_) | with_reducible refine Ny.of ?_ ?_ | (refine Hyp.of ?_; intro hc; (try simp only [hc]); (try simp only [Bh] at hc)))); all_goals clear hF))
      all_goals first | exact Fin.tmp' rfl rfl | (exfalso; omega)
theorem ev_k96 (a b : Rn) : Ev (En Tryz.prog rfl).P 96 [q6s a, q6s b] (.ret (.bool (q5x a b))) := by
 refine Ev.of_body it_k96 (by simp) (Run.start ?_)
 unfold t_k96 q6s q5x
 by_cases h1 : a.1 < b.1
 ·rw [show (decide (a.1 < b.1) || (decide (a.1 = b.1) && decide (a.2 < b.2))) = true by simp [h1]]
  (focus (have hF := True.intro; (repeat' (first | refine go1 (k:=?_) | with_reducible refine Ny.of ?_ ?_ | (refine Hyp.of ?_; intro hc; (try simp only [hc]); (try simp only [Bh] at hc)))); all_goals clear hF))
  exact Fin.tmp' rfl rfl
 ·by_cases h2 : a.1 = b.1
  ·rw [show (decide (a.1 < b.1) || (decide (a.1 = b.1) && decide (a.2 < b.2))) = decide (a.2 < b.2) by simp [h1, h2]]
   (focus (have hF := True.intro; (repeat' (first | refine go1 (k:=?_) | with_reducible refine Ny.of ?_ ?_ | (refine Hyp.of ?_; intro hc; (try simp only [hc]); (try simp only [Bh] at hc)))); all_goals clear hF))
   exact Fin.tmp' rfl rfl
  ·rw [show (decide (a.1 < b.1) || (decide (a.1 = b.1) && decide (a.2 < b.2))) = false by simp [h1, h2]]
   (focus (have hF := True.intro; (repeat' (first | refine go1 (k:=?_) | with_reducible refine Ny.of ?_ ?_ | (refine Hyp.of ?_; intro hc; (try simp only [hc]); (try simp only [Bh] at hc)))); all_goals clear hF))
   exact Fin.tmp' rfl rfl
theorem ev_k53 (a b : Rn) : Ev (En Tryz.prog rfl).P 53 [q6s a, q6s b] (.ret (.bool (q5x a b))) := by
 refine Ev.of_body it_k53 (by simp) (Run.start ?_)
 unfold t_k53 q6s q5x
 by_cases h1 : a.1 < b.1
 ·rw [show (decide (a.1 < b.1) || (decide (a.1 = b.1) && decide (a.2 < b.2))) = true by simp [h1]]
  (focus (have hF := True.intro; (repeat' (first | refine go1 (k:=?_) | with_reducible refine Ny.of ?_ ?_ | (refine Hyp.of ?_; intro hc; (try simp only [hc]); (try simp only [Bh] at hc)))); all_goals clear hF))
  exact Fin.tmp' rfl rfl
 ·by_cases h2 : a.1 = b.1
  ·rw [show (decide (a.1 < b.1) || (decide (a.1 = b.1) && decide (a.2 < b.2))) = decide (a.2 < b.2) by simp [h1, h2]]
   (focus (have hF := True.intro; (repeat' (first | refine go1 (k:=?_) | with_reducible refine Ny.of ?_ ?_ | (refine Hyp.of ?_; intro hc; (try simp only [hc]); (try simp only [Bh] at hc)))); all_goals clear hF))
   exact Fin.tmp' rfl rfl
  ·rw [show (decide (a.1 < b.1) || (decide (a.1 = b.1) && decide (a.2 < b.2))) = false by simp [h1, h2]]
   (focus (have hF := True.intro; (repeat' (first | refine go1 (k:=?_) | with_reducible refine Ny.of ?_ ?_ | (refine Hyp.of ?_; intro hc; (try simp only [hc]); (try simp only [Bh] at hc)))); all_goals clear hF))
   exact Fin.tmp' rfl rfl
theorem ev_k51 (d : Rn) : Ev (En Tryz.prog rfl).P 51 [q6s d] (.ret (.bool (q9e d.1 d.2))) := by
 refine Ev.of_body it_k51 (by simp) (Run.start ?_)
 unfold t_k51 q6s q9e
 by_cases h1 : 0 ≤ d.1 <;> by_cases h2 : d.1 < 16 <;> by_cases h3 : 1 ≤ d.2 <;> by_cases h4 : d.2 ≤ 1000000000
 all_goals
  simp only [h1, h2, h3, h4, decide_true, decide_false, Bool.and_true, Bool.and_false, Bool.true_and, Bool.false_and]
  (focus (have hF := True.intro; (repeat' (first | refine go1 (k:=?_) | with_reducible refine Ny.of ?_ ?_ | (refine Hyp.of ?_; intro hc; (try simp only [hc]); (try simp only [Bh] at hc)))); all_goals clear hF))
  all_goals first | exact Fin.tmp' rfl rfl | (exfalso; omega)
theorem qd0 {l : List Ent} {i : Nat} {r : Ent} (hr : l[i]? = some r) (hI : (∀ (j : Nat) q, j < i → l[j]? = some q → q3p q = 0) ∧ ∀ (j : Nat) a b, j + 1 < i → l[j]? = some a → l[j + 1]? = some b → q5x a.dot b.dot = true) (h0 : q3p r = 0)
 (h1 : ∀ q, 0 < i → l[i - 1]? = some q → q5x q.dot r.dot = true) : (∀ (j : Nat) q, j < i + 1 → l[j]? = some q → q3p q = 0) ∧ ∀ (j : Nat) a b, j + 1 < i + 1 → l[j]? = some a → l[j + 1]? = some b → q5x a.dot b.dot = true := by
 refine ⟨fun j q hj hq => ?_, fun j a b hj ha hb => ?_⟩
 ·by_cases e : j = i
  ·subst e; rw [hr] at hq; cases hq; exact h0
  ·exact hI.1 j q (by omega) hq
 ·by_cases e : j + 1 = i
  ·subst e
   rw [hr] at hb
   cases hb
   exact h1 a (by omega) (by simpa using ha)
  ·exact hI.2 j a b (by omega) ha hb
theorem qjt {l : List Ent} {i : Nat} (hi : l.length ≤ i) (hI : (∀ (j : Nat) q, j < i → l[j]? = some q → q3p q = 0) ∧ ∀ (j : Nat) a b, j + 1 < i → l[j]? = some a → l[j + 1]? = some b → q5x a.dot b.dot = true) : qf7 l :=
 ⟨fun j q hq => hI.1 j q (by
  rcases Nat.lt_or_ge j l.length with h | h
  ·omega
  ·rw [List.getElem?_eq_none h] at hq; cases hq) hq, fun j a b ha hb => hI.2 j a b (by
  rcases Nat.lt_or_ge (j + 1) l.length with h | h
  ·omega
  ·rw [List.getElem?_eq_none h] at hb; cases hb) ha hb⟩
theorem ev_k49 (l : List Ent) (hl : l.length ≤ 1000000000) : Ev (En Tryz.prog rfl).P 49 [.sl 4 (q1j l)] (.ret (.int .i64 (if q4c l = true then 0 else 1))) := by
 refine Ev.of_body it_k49 (by simp) (Run.start ?_)
 unfold t_k49
 have e1 := q53 l
 have hS := qo6
 (focus (have hF := @e1; (repeat' (first | refine go1 (k:=?_) | with_reducible refine Ny.of ?_ ?_ | (refine Hyp.of ?_; intro hc; (try simp only [hc]); (try simp only [Bh] at hc)))); all_goals clear hF))
 refine Run.while (σ := Nat) (fun i => ⟨tms [(0, .sl 4 (q1j l)), (5, .sl 4 (q1j l)), (6, .int .i64 (l.length : Int)), (7, .int .i64 (i : Int))], mms []⟩)
  (fun i => i ≤ l.length ∧ (∀ (j : Nat) q, j < i → l[j]? = some q → q3p q = 0) ∧ ∀ (j : Nat) a b, j + 1 < i → l[j]? = some a → l[j + 1]? = some b → q5x a.dot b.dot = true) (fun i => l.length - i) 0 (have hW := @q0i; q0v) ⟨Nat.zero_le _, fun j q hj => absurd hj (Nat.not_lt_zero _), fun j a b hj => by omega⟩ ?_
 rintro i ⟨hi, hI⟩
 unfold qnv
 by_cases hlt : i < l.length
 ·obtain ⟨r, hr⟩ : ∃ r, l[i]? = some r := ⟨l[i], by simp [hlt]⟩
  have g1 := q49 hr
  have c1 := ev_k95 r
  have hst := fun h0 h1 => qd0 hr hI h0 h1
  have hbad : q3p r ≠ 0 → ¬ qf7 l := fun h hf => h (hf.1 i r hr)
  generalize q3p r = v at c1 hst hbad
  (focus (have hF := (aI @e1 @g1); (repeat' (first | refine go1 (k:=?_) | with_reducible refine Ny.of ?_ ?_ | (refine Hyp.of ?_; intro hc; (try simp only [hc]); (try simp only [Bh] at hc)))); all_goals clear hF))
  refine q05 [encE r] (he := c1) (k:=?_)
  by_cases hv : v = 0
  ·by_cases h0 : i = 0
   ·have hst := hst hv (fun q hq => by omega)
    have h0' : (i : Int) = 0 := by omega
    (focus (have hF := (aI (aI @e1 @g1) (aI @hv @h0')); (repeat' (first | refine go1 (k:=?_) | with_reducible refine Ny.of ?_ ?_ | (refine Hyp.of ?_; intro hc; (try simp only [hc]); (try simp only [Bh] at hc)))); all_goals clear hF))
    have hi1 : ((0 : Int) + 1) = ((i + 1 : Nat) : Int) := by omega
    (refine Fin.nextW (i + 1) ?_ (have hW := (aI @q0i @hi1); q0v); (try dsimp only))
    exact ⟨⟨hlt, hst⟩, by omega⟩
   ·obtain ⟨q, hq⟩ : ∃ q, l[i - 1]? = some q := ⟨l[i - 1]'(by omega), by simp [show i - 1 < l.length by omega]⟩
    have g2 := q49 hq
    have hpw : IntKind.i64.wrap ((i : Int) - 1) = ((i - 1 : Nat) : Int) := by rw [q0a (by omega)]; omega
    have c2 := ev_k96 q.dot r.dot
    have hst := hst hv
    have hbad2 : q5x q.dot r.dot = false → ¬ qf7 l := fun h hf => by
     have := hf.2 (i - 1) q r hq (by rw [show i - 1 + 1 = i by omega]; exact hr)
     rw [h] at this
     cases this
    have hst : q5x q.dot r.dot = true → _ := fun h => hst (fun q' _ hq' => by rw [hq] at hq'; cases hq'; exact h)
    generalize q5x q.dot r.dot = u at c2 hst hbad2
    (focus (have hF := (aI (aI @e1 @g1) (aI @g2 (aI @hv @hpw))); (repeat' (first | refine go1 (k:=?_) | with_reducible refine Ny.of ?_ ?_ | (refine Hyp.of ?_; intro hc; (try simp only [hc]); (try simp only [Bh] at hc)))); all_goals clear hF))
    refine q05 [q6s q.dot, q6s r.dot] (he := c2) (k:=?_)
    cases u
    ·rw [q2r (hbad2 rfl)]
     (focus (have hF := (aI @e1 @g1); (repeat' (first | refine go1 (k:=?_) | with_reducible refine Ny.of ?_ ?_ | (refine Hyp.of ?_; intro hc; (try simp only [hc]); (try simp only [Bh] at hc)))); all_goals clear hF))
     exact Fin.tmp' rfl rfl
    ·have hst := hst rfl
     (focus (have hF := (aI @e1 @g1); (repeat' (first | refine go1 (k:=?_) | with_reducible refine Ny.of ?_ ?_ | (refine Hyp.of ?_; intro hc; (try simp only [hc]); (try simp only [Bh] at hc)))); all_goals clear hF))
     (refine Fin.nextW (i + 1) ?_ (have hW := @q0i; q0v); (try dsimp only))
     exact ⟨⟨hlt, hst⟩, by omega⟩
  ·rw [q2r (hbad hv)]
   (focus (have hF := (aI @e1 (aI @g1 @hv)); (repeat' (first | refine go1 (k:=?_) | with_reducible refine Ny.of ?_ ?_ | (refine Hyp.of ?_; intro hc; (try simp only [hc]); (try simp only [Bh] at hc)))); all_goals clear hF))
   exact Fin.tmp' rfl rfl
 ·rw [q90 (qjt (by omega) hI)]
  (focus (have hF := @e1; (repeat' (first | refine go1 (k:=?_) | with_reducible refine Ny.of ?_ ?_ | (refine Hyp.of ?_; intro hc; (try simp only [hc]); (try simp only [Bh] at hc)))); all_goals clear hF))
  exact Fin.tmp' rfl rfl
theorem z05 (e : Ent) : q3p e = 0 ↔ q9e e.rep e.num = true ∧ q69 e.sku = true ∧ ¬ e.qty < 1 ∧ ¬ 1000000 < e.qty := by
 rw [zay]
 unfold q3p
 split
 ·constructor
  ·intro h; simp at h
  ·intro h; omega
 ·split
  ·constructor
   ·intro h; simp at h
   ·intro h; omega
  ·split
   ·rename_i h
    constructor
    ·intro h; simp at h
    ·intro h'; rw [h] at h'; simp at h'
   ·rename_i h
    split
    ·constructor
     ·intro h; simp at h
     ·intro h; omega
    ·constructor
     ·intro _; exact ⟨by omega, by simpa using h, by omega, by omega⟩
     ·intro _; rfl
theorem ev_k16 (l : List Ent) (hl : l.length ≤ 1000000000) : Ev (En Tryz.prog rfl).P 16 [.sl 4 (q1j l)] (.ret (.bool (q4c l))) := by
 refine Ev.of_body it_k16 (by simp) (Run.start ?_)
 unfold t_k16
 have e1 := q53 l
 have hS := qo6
 (focus (have hF := @e1; (repeat' (first | refine go1 (k:=?_) | with_reducible refine Ny.of ?_ ?_ | (refine Hyp.of ?_; intro hc; (try simp only [hc]); (try simp only [Bh] at hc)))); all_goals clear hF))
 refine Run.while (σ := Nat) (fun i => ⟨tms [(0, .sl 4 (q1j l)), (3, .int .i64 (i : Int))], mms []⟩)
  (fun i => i ≤ l.length ∧ (∀ (j : Nat) q, j < i → l[j]? = some q → q3p q = 0) ∧ ∀ (j : Nat) a b, j + 1 < i → l[j]? = some a → l[j + 1]? = some b → q5x a.dot b.dot = true) (fun i => l.length - i) 0 (have hW := @q0i; q0v) ⟨Nat.zero_le _, fun j q hj => absurd hj (Nat.not_lt_zero _), fun j a b hj => by omega⟩ ?_
 rintro i ⟨hi, hI⟩
 unfold qo5
 by_cases hlt : i < l.length
 ·obtain ⟨r, hr⟩ : ∃ r, l[i]? = some r := ⟨l[i], by simp [hlt]⟩
  have g1 := q49 hr
  have c1 := ev_k51 r.dot
  have c0 := ev_k52 r.sku
  have hst := fun h0 h1 => qd0 hr hI h0 h1
  have hbad : q3p r ≠ 0 → ¬ qf7 l := fun h hf => h (hf.1 i r hr)
  have hee := z05 r
  change Ev _ _ _ (.ret (.bool (q9e r.rep r.num))) at c1
  generalize q9e r.rep r.num = v1 at c1 hee
  generalize q69 r.sku = v2 at c0 hee
  (focus (have hF := (aI @e1 @g1); (repeat' (first | refine go1 (k:=?_) | with_reducible refine Ny.of ?_ ?_ | (refine Hyp.of ?_; intro hc; (try simp only [hc]); (try simp only [Bh] at hc)))); all_goals clear hF))
  refine q05 [q6s r.dot] (he := c1) (k:=?_)
  cases v1
  ·rw [q2r (hbad (fun h => by have := (hee.1 h).1; simp at this))]
   (focus (have hF := (aI @e1 @g1); (repeat' (first | refine go1 (k:=?_) | with_reducible refine Ny.of ?_ ?_ | (refine Hyp.of ?_; intro hc; (try simp only [hc]); (try simp only [Bh] at hc)))); all_goals clear hF))
   exact Fin.tmp' rfl rfl
  ·(focus (have hF := (aI @e1 @g1); (repeat' (first | refine go1 (k:=?_) | with_reducible refine Ny.of ?_ ?_ | (refine Hyp.of ?_; intro hc; (try simp only [hc]); (try simp only [Bh] at hc)))); all_goals clear hF))
   refine q05 [.str r.sku] (he := c0) (k:=?_)
   cases v2
   ·rw [q2r (hbad (fun h => by have := (hee.1 h).2.1; simp at this))]
    (focus (have hF := (aI @e1 @g1); (repeat' (first | refine go1 (k:=?_) | with_reducible refine Ny.of ?_ ?_ | (refine Hyp.of ?_; intro hc; (try simp only [hc]); (try simp only [Bh] at hc)))); all_goals clear hF))
    exact Fin.tmp' rfl rfl
   ·by_cases h3 : r.qty < 1
    ·rw [q2r (hbad (fun h => (hee.1 h).2.2.1 h3))]
     (focus (have hF := (aI @e1 @g1); (repeat' (first | refine go1 (k:=?_) | with_reducible refine Ny.of ?_ ?_ | (refine Hyp.of ?_; intro hc; (try simp only [hc]); (try simp only [Bh] at hc)))); all_goals clear hF))
     exact Fin.tmp' rfl rfl
    ·by_cases h4 : 1000000 < r.qty
     ·rw [q2r (hbad (fun h => (hee.1 h).2.2.2 h4))]
      (focus (have hF := (aI @e1 @g1); (repeat' (first | refine go1 (k:=?_) | with_reducible refine Ny.of ?_ ?_ | (refine Hyp.of ?_; intro hc; (try simp only [hc]); (try simp only [Bh] at hc)))); all_goals clear hF))
      exact Fin.tmp' rfl rfl
     ·have hv := hee.2 ⟨rfl, rfl, h3, h4⟩
      by_cases h0 : i = 0
      ·have hst := hst hv (fun q hq => by omega)
       subst h0
       (focus (have hF := (aI @e1 @g1); (repeat' (first | refine go1 (k:=?_) | with_reducible refine Ny.of ?_ ?_ | (refine Hyp.of ?_; intro hc; (try simp only [hc]); (try simp only [Bh] at hc)))); all_goals clear hF))
       (refine Fin.nextW (0 + 1) ?_ (have hW := @q0i; q0v); (try dsimp only))
       exact ⟨⟨hlt, hst⟩, by omega⟩
      ·obtain ⟨q, hq⟩ : ∃ q, l[i - 1]? = some q := ⟨l[i - 1]'(by omega), by simp [show i - 1 < l.length by omega]⟩
       have g2 := q49 hq
       have hpw : IntKind.i64.wrap ((i : Int) - 1) = ((i - 1 : Nat) : Int) := by rw [q0a (by omega)]; omega
       have c2 := ev_k53 q.dot r.dot
       have hst := hst hv
       have hbad2 : q5x q.dot r.dot = false → ¬ qf7 l := fun h hf => by
        have := hf.2 (i - 1) q r hq (by rw [show i - 1 + 1 = i by omega]; exact hr)
        rw [h] at this
        cases this
       have hst : q5x q.dot r.dot = true → _ := fun h => hst (fun q' _ hq' => by rw [hq] at hq'; cases hq'; exact h)
       generalize q5x q.dot r.dot = u at c2 hst hbad2
       (focus (have hF := (aI (aI @e1 @g1) (aI @g2 @hpw)); (repeat' (first | refine go1 (k:=?_) | with_reducible refine Ny.of ?_ ?_ | (refine Hyp.of ?_; intro hc; (try simp only [hc]); (try simp only [Bh] at hc)))); all_goals clear hF))
       refine q05 [q6s q.dot, q6s r.dot] (he := c2) (k:=?_)
       cases u
       ·rw [q2r (hbad2 rfl)]
        (focus (have hF := (aI @e1 @g1); (repeat' (first | refine go1 (k:=?_) | with_reducible refine Ny.of ?_ ?_ | (refine Hyp.of ?_; intro hc; (try simp only [hc]); (try simp only [Bh] at hc)))); all_goals clear hF))
        exact Fin.tmp' rfl rfl
       ·have hst := hst rfl
        (focus (have hF := (aI @e1 @g1); (repeat' (first | refine go1 (k:=?_) | with_reducible refine Ny.of ?_ ?_ | (refine Hyp.of ?_; intro hc; (try simp only [hc]); (try simp only [Bh] at hc)))); all_goals clear hF))
        (refine Fin.nextW (i + 1) ?_ (have hW := @q0i; q0v); (try dsimp only))
        exact ⟨⟨hlt, hst⟩, by omega⟩
 ·rw [q90 (qjt (by omega) hI)]
  (focus (have hF := @e1; (repeat' (first | refine go1 (k:=?_) | with_reducible refine Ny.of ?_ ?_ | (refine Hyp.of ?_; intro hc; (try simp only [hc]); (try simp only [Bh] at hc)))); all_goals clear hF))
  exact Fin.tmp' rfl rfl

def z2e : List SOp := [zO 2 (.assign (.const (.slice none 0 0)))]
instance : Live z2e := ⟨[0]⟩
def z2d : List SOp := [zM 3 0,zO 4 (.binOp .eql 28 (.tmp 3) (.const (.slice none 0 0)) 28)]
instance : Live z2d := ⟨[0]⟩
def z2c : List SOp := [zO 2 (.assign (.const (.slice none 0 0)))]
instance : Live z2c := ⟨[]⟩
def z2b : List SOp := [zO 5 (.buildSlice 28 0 #[]),zM 6 0,zO 7 (.call ⟨.builtin .append,#[.tmp 5,.tmp 6],#[28,28]⟩),zG 2 7]
instance : Live z2b := ⟨[0]⟩
def t_k94 : SC :=
 (.seq (.ops false z2e) (.seq (.seq (.ops false z2d) (.cond (.tmp 4) (.seq (.ops false z2c) .ret) .skip)) (.seq (.ops false z2b) .ret)))
theorem it_k94 : FnIs Tryz.prog 94 8 [.tmp 2] t_k94 := ⟨Tryz.f94, _, Tryz.func94, rfl, rfl, rfl, rfl, by kernel_rfl⟩

def z6p : List SOp := [zO 2 (.assign (.const (.slice none 0 0))),zO 3 (.assign (.const (.int .i64 0)))]
instance : Live z6p := ⟨[0]⟩
def z6o : List SOp := [zM 4 0,zO 5 (.binOp .eql 92 (.tmp 4) (.const (.pointer none)) 92),zM 6 5,⟨some 7,.move (.tmp 0),some ((some 6),false)⟩,⟨some 8,.nilCheck (.tmp 7),some ((some 6),false)⟩,⟨some 9,.fieldAddr 91 (.tmp 8) 1,some ((some 6),false)⟩,⟨some 10,.load 4 (.tmp 9),some ((some 6),false)⟩,zO 11 (.pick (.tmp 6) (.const (.bool true)) (.tmp 10))]
instance : Live z6o := ⟨[0]⟩
def z6n : List SOp := [zO 2 (.assign (.const (.slice none 0 0))),zO 3 (.assign (.const (.int .i64 2)))]
instance : Live z6n := ⟨[]⟩
def z6m : List SOp := [zM 12 0,zO 13 (.nilCheck (.tmp 12)),zF 14 91 13 0,zL 15 28 14,zO 16 (.call ⟨.value (.func 94),#[.tmp 15],#[28]⟩),zG 2 16,zO 3 (.assign (.const (.int .i64 0)))]
instance : Live z6m := ⟨[0]⟩
def t_k48 : SC :=
 (.seq (.ops false z6p) (.seq (.seq (.ops false z6o) (.cond (.tmp 11) (.seq (.ops false z6n) .ret) .skip)) (.seq (.ops false z6m) .ret)))
theorem it_k48 : FnIs Tryz.prog 48 17 [.tmp 2, .tmp 3] t_k48 := ⟨Tryz.f48, _, Tryz.func48, rfl, rfl, rfl, rfl, by kernel_rfl⟩

def z6y : List SOp := [zO 0 (.assign (.const (.pointer none)))]
instance : Live z6y := ⟨[]⟩
def z6x : List SOp := [zO 1 (.build 91 #[]),zO 2 (.box 91 (.tmp 1)),zG 0 2]
instance : Live z6x := ⟨[]⟩
def t_k46 : SC :=
 (.seq (.ops false z6y) (.seq (.ops false z6x) .ret))
theorem it_k46 : FnIs Tryz.prog 46 3 [.tmp 0] t_k46 := ⟨Tryz.f46, _, Tryz.func46, rfl, rfl, rfl, rfl, by kernel_rfl⟩

def za3 : List SOp := [zO 1 (.box 25 (.tmp 0)),zO 2 (.assign (.const (.slice none 0 0))),zO 3 (.assign (.const (.int .i64 0)))]
instance : Live za3 := ⟨[0]⟩
def za2 : List SOp := [zL 5 25 1,zO 6 (.call ⟨.value (.func 45),#[.tmp 5],#[25]⟩),zO 7 (.unOp .not 4 (.tmp 6))]
instance : Live za2 := ⟨[1]⟩
def za1 : List SOp := [zO 2 (.assign (.const (.slice none 0 0))),zO 3 (.assign (.const (.int .i64 1)))]
instance : Live za1 := ⟨[]⟩
def za0 : List SOp := [zO 8 (.call ⟨.value (.func 46),#[],#[]⟩),zO 9 (.nilCheck (.tmp 8)),zL 10 91 9,zO 11 (.build 95 #[(0,.tmp 10)]),zO 4 (.alloc 95),⟨none,.store 95 (.tmp 4) (.tmp 11),none⟩]
instance : Live za0 := ⟨[1]⟩
def qlz : List SOp := [zL 12 25 1,zO 13 (.call ⟨.value (.func 47),#[.tmp 4,.tmp 12],#[95,25]⟩)]
instance : Live qlz := ⟨[1,4]⟩
def z9z : List SOp := [zF 14 95 4 0,zO 15 (.call ⟨.value (.func 48),#[.tmp 14],#[91]⟩),zX 16 15 0,zX 17 15 1,zG 2 16,zG 3 17]
instance : Live z9z := ⟨[4]⟩
def t_k12 : SC :=
 (.seq (.ops false za3) (.seq (.seq (.ops false za2) (.cond (.tmp 7) (.seq (.ops false za1) .ret) .skip)) (.seq (.ops false za0) (.seq (.ops false qlz) (.seq (.ops false z9z) .ret)))))
theorem it_k12 : FnIs Tryz.prog 12 18 [.tmp 2, .tmp 3] t_k12 := ⟨Tryz.f12, _, Tryz.func12, rfl, rfl, rfl, rfl, by kernel_rfl⟩

def z9n : List SOp := [zO 2 (.assign (.const (.slice none 0 0))),zO 3 (.assign (.const (.int .i64 0)))]
instance : Live z9n := ⟨[0]⟩
def z9m : List SOp := [zM 5 0,zO 6 (.call ⟨.value (.func 49),#[.tmp 5],#[26]⟩),zO 7 (.binOp .neq 35 (.tmp 6) (.const (.int .i64 0)) 35)]
instance : Live z9m := ⟨[0]⟩
def z9l : List SOp := [zO 2 (.assign (.const (.slice none 0 0))),zO 3 (.assign (.const (.int .i64 1)))]
instance : Live z9l := ⟨[]⟩
def z9k : List SOp := [zO 8 (.call ⟨.value (.func 46),#[],#[]⟩),zO 9 (.nilCheck (.tmp 8)),zL 10 91 9,zO 11 (.build 95 #[(0,.tmp 10)]),zO 4 (.alloc 95),⟨none,.store 95 (.tmp 4) (.tmp 11),none⟩]
instance : Live z9k := ⟨[0]⟩
def qly : List SOp := [zM 12 0,zO 13 (.call ⟨.value (.func 50),#[.tmp 4,.tmp 12],#[95,26]⟩)]
instance : Live qly := ⟨[0,4]⟩
def z9j : List SOp := [zF 14 95 4 0,zO 15 (.call ⟨.value (.func 48),#[.tmp 14],#[91]⟩),zX 16 15 0,zX 17 15 1,zG 2 16,zG 3 17]
instance : Live z9j := ⟨[4]⟩
def t_k15 : SC :=
 (.seq (.ops false z9n) (.seq (.seq (.ops false z9m) (.cond (.tmp 7) (.seq (.ops false z9l) .ret) .skip)) (.seq (.ops false z9k) (.seq (.ops false qly) (.seq (.ops false z9j) .ret)))))
theorem it_k15 : FnIs Tryz.prog 15 18 [.tmp 2, .tmp 3] t_k15 := ⟨Tryz.f15, _, Tryz.func15, rfl, rfl, rfl, rfl, by kernel_rfl⟩

def z8n : List SOp := [zO 2 (.assign (.const (.slice none 0 0))),zO 3 (.assign (.const (.int .i64 0)))]
instance : Live z8n := ⟨[0]⟩
def z8m : List SOp := [zM 5 0,zO 6 (.call ⟨.value (.func 57),#[.tmp 5],#[27]⟩),zO 7 (.binOp .neq 35 (.tmp 6) (.const (.int .i64 0)) 35)]
instance : Live z8m := ⟨[0]⟩
def z8l : List SOp := [zO 2 (.assign (.const (.slice none 0 0))),zO 3 (.assign (.const (.int .i64 1)))]
instance : Live z8l := ⟨[]⟩
def z8k : List SOp := [zO 8 (.call ⟨.value (.func 46),#[],#[]⟩),zO 9 (.nilCheck (.tmp 8)),zL 10 91 9,zO 11 (.build 95 #[(0,.tmp 10)]),zO 4 (.alloc 95),⟨none,.store 95 (.tmp 4) (.tmp 11),none⟩]
instance : Live z8k := ⟨[0]⟩
def qlx : List SOp := [zM 12 0,zO 13 (.call ⟨.value (.func 58),#[.tmp 4,.tmp 12],#[95,27]⟩)]
instance : Live qlx := ⟨[0,4]⟩
def z8j : List SOp := [zF 14 95 4 0,zO 15 (.call ⟨.value (.func 48),#[.tmp 14],#[91]⟩),zX 16 15 0,zX 17 15 1,zG 2 16,zG 3 17]
instance : Live z8j := ⟨[4]⟩
def t_k20 : SC :=
 (.seq (.ops false z8n) (.seq (.seq (.ops false z8m) (.cond (.tmp 7) (.seq (.ops false z8l) .ret) .skip)) (.seq (.ops false z8k) (.seq (.ops false qlx) (.seq (.ops false z8j) .ret)))))
theorem it_k20 : FnIs Tryz.prog 20 18 [.tmp 2, .tmp 3] t_k20 := ⟨Tryz.f20, _, Tryz.func20, rfl, rfl, rfl, rfl, by kernel_rfl⟩

theorem ev_k94 (b : Bs) (h0 : b ≠ []) (hl : b.length ≤ 900000000000) : Ev (En Tryz.prog rfl).P 94 [.sl 1 (q1f b)] (.ret (.sl 1 (q1f b))) := by
 refine Ev.of_body it_k94 (by simp) (Run.start ?_)
 unfold t_k94
 cases b with
 | nil => exact absurd rfl h0
 | cons x l =>
  have e1 : q1f (x :: l) = .int .u8 (x.toNat : Int) :: q1f l := rfl
  have e2 : (q1f l).length = l.length := q1m l
  have e3 : (l.length + 1 ≤ 70368744177664) = True := by simp only [eq_iff_iff, iff_true]; simp at hl; omega
  have e4 : (l.length + 1 ≤ 4611686018427387904) = True := by simp only [eq_iff_iff, iff_true]; simp at hl; omega
  rw [e1]
  (focus (have hF := (aI @e2 (aI @e3 @e4)); (repeat' (first | refine go0 (k:=?_) | fail)); all_goals clear hF))
  exact Fin.tmp' rfl (q01 (x :: l))
theorem qmp (b : Bs) (h0 : b ≠ []) (hl : b.length ≤ 900000000000) : EvM (En Tryz.prog rfl).P 48 [.ptr 900000 0] [(900000, wrC b)] (.ret (.tup [.sl 1 (q1f b), .int .i64 0])) [(900000, [.hole, .bool false])] := by
 refine EvM.of_body it_k48 (by simp) (fun k => by rw [q4r, q4r]) (fun q hq => by rw [List.mem_singleton.1 hq]; exact (by decide : 900000 < q5e)) (fun q hq x hx => by
  rw [List.mem_singleton.1 hq] at hx
  simp only [List.mem_cons, List.not_mem_nil, or_false] at hx
  rcases hx with rfl | rfl <;> rfl) fun β => ?_
 have e0 : lnt [(900000, wrC b)] β = [(900000, .cells (wrC b)), (1900000, .note (.ptr 900000 0) (q3h (β 900000)))] := by
  simp only [lnt, q5e, List.flatMap_cons, List.flatMap_nil, List.cons_append, List.nil_append, List.append_nil, Nat.reduceAdd]
 rw [e0]
 refine Run.start ?_
 unfold t_k48
 have e1 := q1m b
 (focus (have hF := (aI @q24 @e1); (repeat' (first | refine go1 (k:=?_) | with_reducible refine Ny.of ?_ ?_ | (refine Hyp.of ?_; intro hc; (try simp only [hc]); (try simp only [Bh] at hc)))); all_goals clear hF))
 refine z16 (fun j => j == 15) [.sl 1 (q1f b)] (he := ev_k94 b h0 hl) (k:=?_)
 (focus (have hF := (aI @q24 @e1); (repeat' (first | refine go1 (k:=?_) | with_reducible refine Ny.of ?_ ?_ | (refine Hyp.of ?_; intro hc; (try simp only [hc]); (try simp only [Bh] at hc)))); all_goals clear hF))
 refine ⟨[.sl 1 (q1f b), .int .i64 0], rfl, by simp [q0m, AVal.stb, q01], ⟨[.sl 1 (q1f b), .int .i64 0], ⟨.inl rfl, .inl rfl, trivial⟩, rfl⟩, fun p hp => ?_, fun p hp => ?_⟩
 ·rw [List.mem_singleton.1 hp]; rfl
 ·rw [List.mem_singleton.1 hp]; exact ⟨1900000, rfl⟩
theorem q6h : EvNew (En Tryz.prog rfl).P 46 [] [.nil, .bool false] := by
 refine EvNew.of_body it_k46 (by simp) (Run.start ?_)
 unfold t_k46
 (focus (have hF := @q00; (repeat' (first | refine go1 (k:=?_) | with_reducible refine Ny.of ?_ ?_ | (refine Hyp.of ?_; intro hc; (try simp only [hc]); (try simp only [Bh] at hc)))); all_goals clear hF))
 exact ⟨2, rfl, rfl, rfl⟩
def putR (ok : Bool) (b : Bs) : AVal := .tup [.sl 1 (q1f (if ok = true then b else [])), .int .i64 (if ok = true then 0 else 1)]
theorem qjd {p : Pst} (h : PW p) : (q34 p).length ≤ 20 + 10 * p.vec.length + 30 * p.cloud.length := by
 have h1 := qdj (l := p.vec) (fun x hx => by have := h.v x hx; omega)
 have h2 := q6u h p.cloud.length (Nat.le_refl _)
 rw [List.take_length] at h2
 have hv := h.vl
 have hc := h.cl
 have a1 := q08 (n := p.vec.length) (by omega)
 have a2 := q08 (n := p.cloud.length) (by omega)
 simp only [q34, List.length_append]
 omega
theorem ev_k12 (p : Pst) (hw : wt p ≤ 40000000) (h : q15 p = true → PW p) : Ev (En Tryz.prog rfl).P 12 [q1k p] (.ret (putR (q15 p) (q34 p))) := by
 refine Ev.of_body it_k12 (by simp) (Run.start ?_)
 unfold t_k12 q1k
 generalize hx : SC.ops false qlz = X
 (focus (have hF := @q00; (repeat' (first | refine go1 (k:=?_) | with_reducible refine Ny.of ?_ ?_ | (refine Hyp.of ?_; intro hc; (try simp only [hc]); (try simp only [Bh] at hc)))); all_goals clear hF))
 refine q05 [q1k p] (he := ev_k45 p hw) (k:=?_)
 cases hn : q15 p with
 | false =>
  (focus (have hF := @q00; (repeat' (first | refine go1 (k:=?_) | with_reducible refine Ny.of ?_ ?_ | (refine Hyp.of ?_; intro hc; (try simp only [hc]); (try simp only [Bh] at hc)))); all_goals clear hF))
  exact Fin.two rfl rfl rfl rfl (.inr ⟨rfl, 1, rfl⟩) (.inl rfl)
 | true =>
  have hp := h hn
  (focus (have hF := @q00; (repeat' (first | refine go1 (k:=?_) | with_reducible refine Ny.of ?_ ?_ | (refine Hyp.of ?_; intro hc; (try simp only [hc]); (try simp only [Bh] at hc)))); all_goals clear hF))
  refine stNew [] (he := q6h) (k:=?_)
  (focus (have hF := @q00; (repeat' (first | refine go1 (k:=?_) | with_reducible refine Ny.of ?_ ?_ | (refine Hyp.of ?_; intro hc; (try simp only [hc]); (try simp only [Bh] at hc)))); all_goals clear hF))
  refine Run.wk (Wk.own_cells (k := 4) (cs' := wrC []) rfl rfl fun i x y hx hy => ?_) ?_
  ·match i with
   | 0 => simp at hx; simp [wrC] at hy; subst hx; subst hy; exact .inr ⟨rfl, 1, rfl⟩
   | 1 => simp at hx; simp [wrC] at hy; subst hx; subst hy; exact .inl rfl
   | i + 2 => simp at hx
  subst hx
  (focus (have hF := @q24; (repeat' (first | refine go1 (k:=?_) | with_reducible refine Ny.of ?_ ?_ | (refine Hyp.of ?_; intro hc; (try simp only [hc]); (try simp only [Bh] at hc)))); all_goals clear hF))
  refine stWr 4 [q1k p] (he := zbe [] p (by simp) hp) (kk := ?_)
  rw [List.nil_append]
  have h0 : q34 p ≠ [] := fun e => by
   have := congrArg List.length e
   have h1 := q25 p.vec.length
   simp only [q34, List.length_append, List.length_nil] at this
   omega
  (focus (have hF := @q24; (repeat' (first | refine go1 (k:=?_) | with_reducible refine Ny.of ?_ ?_ | (refine Hyp.of ?_; intro hc; (try simp only [hc]); (try simp only [Bh] at hc)))); all_goals clear hF))
  refine q5o 900000 4 (f := 48) (by with_unfolding_all rfl) (by with_unfolding_all rfl) (by with_unfolding_all rfl) (by with_unfolding_all rfl) (by with_unfolding_all rfl) (qa9 _) rfl (by simp [AVal.stb, q0m, q01]) (qmp (q34 p) h0 (by have := qjd hp; have := hp.vl; have := hp.cl; omega)) ?_
  dsimp only [AS.put]
  (focus (have hF := @q24; (repeat' (first | refine go1 (k:=?_) | with_reducible refine Ny.of ?_ ?_ | (refine Hyp.of ?_; intro hc; (try simp only [hc]); (try simp only [Bh] at hc)))); all_goals clear hF))
  exact Fin.two rfl (q01 _) rfl rfl (.inl rfl) (.inl rfl)
theorem qjz {l : List Ent} (h : EW l) : (q1q l).length ≤ 10 + 1040 * l.length := by
 have h2 := q8f h l.length (Nat.le_refl _)
 rw [List.take_length] at h2
 have hl := h.ll
 have a1 := q08 (n := l.length) (by omega)
 simp only [q1q, List.length_append]
 omega
theorem ev_k15 (l : List Ent) (hw : l.length ≤ 1000000000) (h : q4c l = true → EW l) : Ev (En Tryz.prog rfl).P 15 [.sl 4 (q1j l)] (.ret (putR (q4c l) (q1q l))) := by
 refine Ev.of_body it_k15 (by simp) (Run.start ?_)
 unfold t_k15
 have hS := qo6
 generalize hx : SC.ops false qly = X
 (focus (have hF := @q00; (repeat' (first | refine go1 (k:=?_) | with_reducible refine Ny.of ?_ ?_ | (refine Hyp.of ?_; intro hc; (try simp only [hc]); (try simp only [Bh] at hc)))); all_goals clear hF))
 refine q05 [.sl 4 (q1j l)] (he := ev_k49 l hw) (k:=?_)
 cases hn : q4c l with
 | false =>
  (focus (have hF := @q00; (repeat' (first | refine go1 (k:=?_) | with_reducible refine Ny.of ?_ ?_ | (refine Hyp.of ?_; intro hc; (try simp only [hc]); (try simp only [Bh] at hc)))); all_goals clear hF))
  exact Fin.two rfl rfl rfl rfl (.inr ⟨rfl, 1, rfl⟩) (.inl rfl)
 | true =>
  have hp := h hn
  (focus (have hF := @q00; (repeat' (first | refine go1 (k:=?_) | with_reducible refine Ny.of ?_ ?_ | (refine Hyp.of ?_; intro hc; (try simp only [hc]); (try simp only [Bh] at hc)))); all_goals clear hF))
  refine stNew [] (he := q6h) (k:=?_)
  (focus (have hF := @q00; (repeat' (first | refine go1 (k:=?_) | with_reducible refine Ny.of ?_ ?_ | (refine Hyp.of ?_; intro hc; (try simp only [hc]); (try simp only [Bh] at hc)))); all_goals clear hF))
  refine Run.wk (Wk.own_cells (k := 4) (cs' := wrC []) rfl rfl fun i x y hx hy => ?_) ?_
  ·match i with
   | 0 => simp at hx; simp [wrC] at hy; subst hx; subst hy; exact .inr ⟨rfl, 1, rfl⟩
   | 1 => simp at hx; simp [wrC] at hy; subst hx; subst hy; exact .inl rfl
   | i + 2 => simp at hx
  subst hx
  (focus (have hF := @q24; (repeat' (first | refine go1 (k:=?_) | with_reducible refine Ny.of ?_ ?_ | (refine Hyp.of ?_; intro hc; (try simp only [hc]); (try simp only [Bh] at hc)))); all_goals clear hF))
  refine stWr 4 [.sl 4 (q1j l)] (hs := by simp [q0m, AVal.stb, q0i]) (he := z00 [] l (by simp) hp) (kk := ?_)
  rw [List.nil_append]
  have h0 : q1q l ≠ [] := fun e => by
   have := congrArg List.length e
   have h1 := q25 l.length
   simp only [q1q, List.length_append, List.length_nil] at this
   omega
  (focus (have hF := @q24; (repeat' (first | refine go1 (k:=?_) | with_reducible refine Ny.of ?_ ?_ | (refine Hyp.of ?_; intro hc; (try simp only [hc]); (try simp only [Bh] at hc)))); all_goals clear hF))
  refine q5o 900000 4 (f := 48) (by with_unfolding_all rfl) (by with_unfolding_all rfl) (by with_unfolding_all rfl) (by with_unfolding_all rfl) (by with_unfolding_all rfl) (qa9 _) rfl (by simp [AVal.stb, q0m, q01]) (qmp (q1q l) h0 (by have := qjz hp; have := hp.ll; omega)) ?_
  dsimp only [AS.put]
  (focus (have hF := @q24; (repeat' (first | refine go1 (k:=?_) | with_reducible refine Ny.of ?_ ?_ | (refine Hyp.of ?_; intro hc; (try simp only [hc]); (try simp only [Bh] at hc)))); all_goals clear hF))
  exact Fin.two rfl (q01 _) rfl rfl (.inl rfl) (.inl rfl)
theorem ev_k20 (l : List Rec) (hl : l.length ≤ 1000000000) (hw : ∀ r ∈ l, wt r.past ≤ 40000000) (h : q4z l = true → RW l ∧ (q19 l).length ≤ 600000000000) : Ev (En Tryz.prog rfl).P 20 [.sl 3 (q1i l)] (.ret (putR (q4z l) (q19 l))) := by
 refine Ev.of_body it_k20 (by simp) (Run.start ?_)
 unfold t_k20
 have hS := qo6
 generalize hx : SC.ops false qlx = X
 (focus (have hF := @q00; (repeat' (first | refine go1 (k:=?_) | with_reducible refine Ny.of ?_ ?_ | (refine Hyp.of ?_; intro hc; (try simp only [hc]); (try simp only [Bh] at hc)))); all_goals clear hF))
 refine q05 [.sl 3 (q1i l)] (he := q8d l hl hw) (k:=?_)
 cases hn : q4z l with
 | false =>
  (focus (have hF := @q00; (repeat' (first | refine go1 (k:=?_) | with_reducible refine Ny.of ?_ ?_ | (refine Hyp.of ?_; intro hc; (try simp only [hc]); (try simp only [Bh] at hc)))); all_goals clear hF))
  exact Fin.two rfl rfl rfl rfl (.inr ⟨rfl, 1, rfl⟩) (.inl rfl)
 | true =>
  have hp := h hn
  (focus (have hF := @q00; (repeat' (first | refine go1 (k:=?_) | with_reducible refine Ny.of ?_ ?_ | (refine Hyp.of ?_; intro hc; (try simp only [hc]); (try simp only [Bh] at hc)))); all_goals clear hF))
  refine stNew [] (he := q6h) (k:=?_)
  (focus (have hF := @q00; (repeat' (first | refine go1 (k:=?_) | with_reducible refine Ny.of ?_ ?_ | (refine Hyp.of ?_; intro hc; (try simp only [hc]); (try simp only [Bh] at hc)))); all_goals clear hF))
  refine Run.wk (Wk.own_cells (k := 4) (cs' := wrC []) rfl rfl fun i x y hx hy => ?_) ?_
  ·match i with
   | 0 => simp at hx; simp [wrC] at hy; subst hx; subst hy; exact .inr ⟨rfl, 1, rfl⟩
   | 1 => simp at hx; simp [wrC] at hy; subst hx; subst hy; exact .inl rfl
   | i + 2 => simp at hx
  subst hx
  (focus (have hF := @q24; (repeat' (first | refine go1 (k:=?_) | with_reducible refine Ny.of ?_ ?_ | (refine Hyp.of ?_; intro hc; (try simp only [hc]); (try simp only [Bh] at hc)))); all_goals clear hF))
  refine stWr 4 [.sl 3 (q1i l)] (hs := by simp [q0m, AVal.stb, q0p]) (he := qzz [] l (by have := hp.2; simp only [q19, List.length_append] at this; simp; omega) hp.1) (kk := ?_)
  rw [List.nil_append]
  have h0 : q19 l ≠ [] := fun e => by
   have := congrArg List.length e
   have h1 := q25 l.length
   simp only [q19, List.length_append, List.length_nil] at this
   omega
  (focus (have hF := @q24; (repeat' (first | refine go1 (k:=?_) | with_reducible refine Ny.of ?_ ?_ | (refine Hyp.of ?_; intro hc; (try simp only [hc]); (try simp only [Bh] at hc)))); all_goals clear hF))
  refine q5o 900000 4 (f := 48) (by with_unfolding_all rfl) (by with_unfolding_all rfl) (by with_unfolding_all rfl) (by with_unfolding_all rfl) (by with_unfolding_all rfl) (qa9 _) rfl (by simp [AVal.stb, q0m, q01]) (qmp (q19 l) h0 (by have := hp.2; omega)) ?_
  dsimp only [AS.put]
  (focus (have hF := @q24; (repeat' (first | refine go1 (k:=?_) | with_reducible refine Ny.of ?_ ?_ | (refine Hyp.of ?_; intro hc; (try simp only [hc]); (try simp only [Bh] at hc)))); all_goals clear hF))
  exact Fin.two rfl (q01 _) rfl rfl (.inl rfl) (.inl rfl)

def z4g : List SOp := [zO 2 (.assign (.const (.slice none 0 0)))]
instance : Live z4g := ⟨[0]⟩
def z4f : List SOp := [zO 3 (.assign (.const (.slice none 0 0)))]
instance : Live z4f := ⟨[0]⟩
def z4e : List SOp := [zO 4 (.assign (.const (.int .i64 0))),zO 5 (.assign (.const (.int .i64 1)))]
instance : Live z4e := ⟨[0,3]⟩
def z4d : List SOp := [zM 9 0,zO 10 (.call ⟨.value (.func 105),#[.tmp 9,.const (.int .i64 5)],#[140,3]⟩),zO 11 (.move (.const (.int .i64 0)))]
instance : Live z4d := ⟨[0,3,4,5]⟩
def z4c : List SOp := [zO 12 (.binOp .lss 3 (.tmp 11) (.tmp 10) 3)]
instance : Live z4c := ⟨[0,3,4,5,10,11]⟩
def z4b : List SOp := [zM 13 0,zO 14 (.call ⟨.value (.func 104),#[.tmp 13,.const (.int .i64 16)],#[140,3]⟩),zG 6 14]
instance : Live z4b := ⟨[0,3,4,5,10,11]⟩
def z4a : List SOp := [zM 15 6,zO 16 (.binOp .gtr 3 (.tmp 15) (.const (.int .i64 0)) 3)]
instance : Live z4a := ⟨[0,3,4,5,6,10,11]⟩
def z49 : List SOp := [zM 17 4,zM 18 6,zO 19 (.binOp .add 3 (.tmp 17) (.tmp 18) 3),zG 4 19,zO 5 (.assign (.const (.int .i64 1)))]
instance : Live z49 := ⟨[0,3,4,6,10,11]⟩
def z48 : List SOp := [zM 20 4,zM 21 5,zM 22 0,zO 23 (.call ⟨.value (.func 104),#[.tmp 22,.const (.int .i64 1000000000)],#[140,3]⟩),zO 24 (.binOp .add 3 (.tmp 21) (.tmp 23) 3),zO 25 (.build 43 #[(0,.tmp 20),(1,.tmp 24)]),zO 7 (.alloc 43),⟨none,.store 43 (.tmp 7) (.tmp 25),none⟩]
instance : Live z48 := ⟨[0,3,4,5,10,11]⟩
def qp3 : List SOp := [zF 26 43 7 0,zL 27 3 26,zO 28 (.binOp .geq 3 (.tmp 27) (.const (.int .i64 16)) 3),zM 29 28,⟨some 30,.fieldAddr 43 (.tmp 7) 1,some ((some 29),false)⟩,⟨some 31,.load 3 (.tmp 30),some ((some 29),false)⟩,⟨some 32,.binOp .gtr 3 (.tmp 31) (.const (.int .i64 1000000000)) 3,some ((some 29),false)⟩,zO 33 (.pick (.tmp 29) (.const (.bool true)) (.tmp 32))]
instance : Live qp3 := ⟨[0,3,4,7,10,11]⟩
def qp2 : List SOp := [zM 34 0,zO 35 (.call ⟨.value (.func 106),#[.tmp 34,.const (.int .i64 8)],#[140,35]⟩)]
instance : Live qp2 := ⟨[0,3,4,7,10,11]⟩
def qp1 : List SOp := [zM 36 0,zO 37 (.call ⟨.value (.func 108),#[.tmp 36,.const (.int .i64 24)],#[140,3]⟩),zG 8 37]
instance : Live qp1 := ⟨[0,3,4,7,10,11]⟩
def qdx : List SOp := [zM 38 3,zL 39 43 7,zM 40 8,zM 41 0,zO 42 (.call ⟨.value (.func 104),#[.tmp 41,.const (.int .i64 1000000)],#[140,3]⟩),zO 43 (.binOp .add 3 (.tmp 42) (.const (.int .i64 1)) 3),zO 44 (.build 45 #[(0,.tmp 39),(1,.tmp 40),(2,.tmp 43)]),zO 45 (.buildSlice 26 1 #[(0,.tmp 44)]),zO 46 (.call ⟨.builtin .append,#[.tmp 38,.tmp 45],#[26,26]⟩),zG 3 46]
instance : Live qdx := ⟨[0,3,4,7,8,10,11]⟩
instance : Rd qdx := ⟨fun j => j == 7⟩
def qp0 : List SOp := [zF 47 43 7 1,zL 48 3 47,zO 49 (.binOp .add 3 (.tmp 48) (.const (.int .i64 1)) 3),zG 5 49]
instance : Live qp0 := ⟨[0,3,4,7,10,11]⟩
def qoz : List SOp := [zO 50 (.binOp .add 3 (.tmp 11) (.const (.int .i64 1)) 3),zM 11 50]
instance : Live qoz := ⟨[0,3,4,5,10,11]⟩
def qoy : List SOp := [zM 51 3,zG 2 51]
instance : Live qoy := ⟨[3]⟩
def qnl : SC :=
 (.seq (.ops false z4c) (.seq (.cond (.tmp 12) .skip (.exit 0)) (.seq (.block 1 (.seq (.ops false z4b) (.seq (.seq (.ops false z4a) (.cond (.tmp 16) (.ops false z49) .skip)) (.seq (.ops false z48) (.seq (.seq (.ops false qp3) (.cond (.tmp 33) (.ops false qp2) .skip)) (.seq (.ops false qp1) (.seq (.opsW [38, 42] qdx) (.ops false qp0)))))))) (.ops false qoz))))
def t_k62 : SC :=
 (.seq (.ops false z4g) (.seq (.ops false z4f) (.seq (.ops false z4e) (.seq (.seq (.ops false z4d) (.block 0 (.loop qnl))) (.seq (.ops false qoy) .ret)))))
theorem it_k62 : FnIs Tryz.prog 62 52 [.tmp 2] t_k62 := ⟨Tryz.f62, _, Tryz.func62, rfl, rfl, rfl, rfl, by kernel_rfl⟩

def z3q : List SOp := [zO 2 (.assign (.const (.slice none 0 0)))]
instance : Live z3q := ⟨[0]⟩
def z3p : List SOp := [zO 3 (.assign (.const (.slice none 0 0)))]
instance : Live z3p := ⟨[0]⟩
def z3o : List SOp := [zM 5 0,zO 6 (.call ⟨.value (.func 105),#[.tmp 5,.const (.int .i64 4)],#[140,3]⟩),zO 7 (.move (.const (.int .i64 0)))]
instance : Live z3o := ⟨[0,3]⟩
def z3n : List SOp := [zO 8 (.binOp .lss 3 (.tmp 7) (.tmp 6) 3)]
instance : Live z3n := ⟨[0,3,6,7]⟩
def z3m : List SOp := [zM 9 0,zO 10 (.call ⟨.value (.func 108),#[.tmp 9,.const (.int .i64 24)],#[140,3]⟩),zG 4 10]
instance : Live z3m := ⟨[0,3,6,7]⟩
def z3l : List SOp := [zM 11 3,zM 12 4,zM 13 0,zO 14 (.call ⟨.value (.func 60),#[.tmp 13],#[140]⟩),zO 15 (.build 84 #[(0,.tmp 12),(1,.tmp 14)]),zO 16 (.buildSlice 27 1 #[(0,.tmp 15)]),zO 17 (.call ⟨.builtin .append,#[.tmp 11,.tmp 16],#[27,27]⟩),zG 3 17]
instance : Live z3l := ⟨[0,3,4,6,7]⟩
def z3k : List SOp := [zO 18 (.binOp .add 3 (.tmp 7) (.const (.int .i64 1)) 3),zM 7 18]
instance : Live z3k := ⟨[0,3,6,7]⟩
def z3j : List SOp := [zM 19 3,zG 2 19]
instance : Live z3j := ⟨[3]⟩
def qnk : SC :=
 (.seq (.ops false z3n) (.seq (.cond (.tmp 8) .skip (.exit 0)) (.seq (.block 1 (.seq (.ops false z3m) (.ops false z3l))) (.ops false z3k))))
def t_k66 : SC :=
 (.seq (.ops false z3q) (.seq (.ops false z3p) (.seq (.seq (.ops false z3o) (.block 0 (.loop qnk))) (.seq (.ops false z3j) .ret))))
theorem it_k66 : FnIs Tryz.prog 66 20 [.tmp 2] t_k66 := ⟨Tryz.f66, _, Tryz.func66, rfl, rfl, rfl, rfl, by kernel_rfl⟩

def qcb (b : Bs) : (k rep next : Nat) → List Ent → Nat → Rs (List Ent)
 | 0, _, _, acc, p => .ok (acc, p)
 | k + 1, rep, next, acc, p => (qc5 16 b p).bind fun s a1 => (qc5 1000000000 b a1).bind fun x a2 =>
  if 16 ≤ rep + s ∨ 1000000000 < (if 0 < s then 1 else next) + x then .error (8, a2) else
   (qe8 24 b a2).bind fun sku a3 => (qc5 1000000 b a3).bind fun q a4 =>
    qcb b k (rep + s) ((if 0 < s then 1 else next) + x + 1) (acc ++ [⟨((rep + s : Nat) : Int), (((if 0 < s then 1 else next) + x : Nat) : Int), sku, ((q + 1 : Nat) : Int)⟩]) a4
def q0g (b : Bs) (p : Nat) : Rs (List Ent) := (q4g 5 b p).bind fun m a => qcb b m 0 1 [] a
def qca (b : Bs) : (k : Nat) → List Rec → Nat → Rs (List Rec)
 | 0, acc, p => .ok (acc, p)
 | k + 1, acc, p => (qe8 24 b p).bind fun sku a1 => (qe9 b a1).bind fun q a2 => qca b k (acc ++ [⟨sku, q⟩]) a2
def q0f (b : Bs) (p : Nat) : Rs (List Rec) := (q4g 4 b p).bind fun m a => qca b m [] a
theorem encP_eq (q : Pst) : q1k q = .agg [.sl 1 (q04 q.vec), .sl 3 (q0e q.cloud)] := rfl
theorem Rs.bind_le {α β : Type} {r : Rs α} {f : α → Nat → Rs β} {y : β} {c : Nat} (h : r.bind f = .ok (y, c)) : ∃ x a, r = .ok (x, a) ∧ f x a = .ok (y, c) := by
 cases r with
 | ok q => obtain ⟨x, a⟩ := q; exact ⟨x, a, rfl, h⟩
 | error e => cases h
theorem rTake_ok {most : Nat} {b : Bs} {p a : Nat} {l : Bs} (h : qc9 most b p = .ok (l, a)) : p < a ∧ a ≤ b.length ∧ l.length ≤ most ∧ p + l.length < a := by
 unfold qc9 at h
 split at h
 ·cases h
 ·rename_i n a' h0
  obtain ⟨q1, q2, q3, q4⟩ := q1w h0
  split at h
  ·cases h
  ·rename_i hc
   simp only [Except.ok.injEq, Prod.mk.injEq] at h
   obtain ⟨rfl, rfl⟩ := h
   simp only [List.length_drop, List.length_take]
   omega
theorem qe7 {most : Nat} {b : Bs} {p a : Nat} {s : ByteArray} (h : qe8 most b p = .ok (s, a)) : p < a ∧ a ≤ b.length := by
 obtain ⟨l, h1, _⟩ := Rs.map_ok h
 have := rTake_ok h1
 omega
theorem za6 {b : Bs} : ∀ {k : Nat} {acc : List Int} {p a : Nat} {l : List Int}, p ≤ b.length → qzm b k acc p = .ok (l, a) → p ≤ a ∧ a ≤ b.length
 | 0, acc, p, a, l, hp, h => by simp only [qzm, Except.ok.injEq, Prod.mk.injEq] at h; omega
 | k + 1, acc, p, a, l, hp, h => by
  rw [qzm] at h
  obtain ⟨x, a1, h1, h2⟩ := Rs.bind_le h
  obtain ⟨q1, q2, q3, q4⟩ := q1w h1
  have := za6 q3 h2
  omega
theorem qj9 {vec : List Int} {b : Bs} : ∀ {k rep : Nat} {acc : List Sn} {p a : Nat} {l : List Sn}, p ≤ b.length → q4h vec b k rep acc p = .ok (l, a) → p ≤ a ∧ a ≤ b.length
 | 0, rep, acc, p, a, l, hp, h => by simp only [q4h, Except.ok.injEq, Prod.mk.injEq] at h; omega
 | k + 1, rep, acc, p, a, l, hp, h => by
  rw [q4h] at h
  obtain ⟨s, a1, h1, h2⟩ := Rs.bind_le h
  split at h2
  ·cases h2
  obtain ⟨x, a2, h3, h4⟩ := Rs.bind_le h2
  obtain ⟨y, a3, h5, h6⟩ := Rs.bind_le h4
  split at h6
  ·cases h6
  obtain ⟨_, q2, _, _⟩ := q1w h1
  obtain ⟨_, q5, _, _⟩ := q1w h3
  obtain ⟨_, q6, q3, _⟩ := q1w h5
  have := qj9 q3 h6
  omega
theorem rPast_ok {b : Bs} {p a : Nat} {q : Pst} (h : qe9 b p = .ok (q, a)) : p < a ∧ a ≤ b.length := by
 unfold qe9 at h
 obtain ⟨n, a1, h1, h2⟩ := Rs.bind_le h
 obtain ⟨vec, a2, h3, h4⟩ := Rs.bind_le h2
 obtain ⟨m, a3, h5, h6⟩ := Rs.bind_le h4
 obtain ⟨cl, a4, h7, h8⟩ := Rs.bind_le h6
 simp only [Except.ok.injEq, Prod.mk.injEq] at h8
 obtain ⟨_, q2, q3, _⟩ := q1w h1
 have r3 := za6 q3 h3
 have r4 : a2 ≤ a3 := by
  unfold q4g at h5
  split at h5
  ·cases h5
  ·rename_i h9
   obtain ⟨_, t2, _, _⟩ := q1w h9
   split at h5
   ·cases h5
   ·simp only [Except.ok.injEq, Prod.mk.injEq] at h5; omega
 obtain ⟨_, r5⟩ := q7y (by omega) h5
 have r6 := qj9 r5 h7
 omega
theorem qex (b : Bs) (p : Nat) (hb : b.length ≤ 900000000000) (hp : p ≤ b.length) : EvR (En Tryz.prog rfl).P 62 [] b p ((q0g b p).map fun l => .sl 4 (q1j l)) := by
 refine EvR.of_body it_k62 (by simp) (fun v a h => by obtain ⟨x, _, rfl⟩ := Rs.map_ok h; exact q0i x) fun v => Run.start ?_
 unfold t_k62
 (focus (have hF := @q07; (repeat' (first | refine go1 (k:=?_) | with_reducible refine Ny.of ?_ ?_ | (refine Hyp.of ?_; intro hc; (try simp only [hc]); (try simp only [Bh] at hc)))); all_goals clear hF))
 generalize hr : q0g b p = r
 unfold q0g at hr
 refine q74 [.int .i64 5] (he := qey 5 (by omega) b p hb hp) (kok := ?_) (kerr := ?_)
 rotate_left
 ·rintro e a h s' h1 h2
  have h := Rs.map_error h
  rw [h] at hr
  exact KQ.pan (FnRd.pan (by rw [← hr]; rfl) h1 h2)
 rintro _ a0 h0
 obtain ⟨m, h, rfl⟩ := Rs.map_ok h0
 obtain ⟨q1, q2⟩ := q7y (by omega) h
 rw [h, Rs.bind_ok] at hr
 clear h h0
 (focus (have hF := (aI @q07 @q3q); (repeat' (first | refine go1 (k:=?_) | with_reducible refine Ny.of ?_ ?_ | (refine Hyp.of ?_; intro hc; (try simp only [hc]); (try simp only [Bh] at hc)))); all_goals clear hF))
 refine Run.wk (Wk.own_nil 3 100 4 rfl rfl) ?_
 refine Run.while (σ := Nat × Nat × Nat × List Ent × Nat) (fun z => ⟨tms [(0, .ptr 900000 0), (3, .os 100 z.1), (4, .int .i64 (z.2.1 : Int)), (5, .int .i64 (z.2.2.1 : Int)), (10, .int .i64 (m : Int)), (11, .int .i64 (z.1 : Int))], mms [(100, .arr z.1 4 (q1j z.2.2.2.1)), (900000, .cells (rdC b z.2.2.2.2 0)), (1900000, nt v)]⟩)
  (fun z => z.1 ≤ m ∧ z.1 = z.2.2.2.1.length ∧ z.2.2.2.2 ≤ b.length ∧ z.2.1 < 16 ∧ z.2.2.1 ≤ 1000000001 ∧ qcb b (m - z.1) z.2.1 z.2.2.1 z.2.2.2.1 z.2.2.2.2 = r) (fun z => m - z.1) (0, 0, 1, [], a0) (have hW := (aI @q07 @q0i); q0v) ⟨by omega, rfl, q2, show (0 : Nat) < 16 by omega, show (1 : Nat) ≤ 1000000001 by omega, hr⟩ ?_
 rintro ⟨i, rep, next, acc, a⟩ ⟨hi, hia, ha, hrep, hnx, hr⟩
 simp only at hi hia ha hrep hnx hr
 unfold qnl
 by_cases hlt : i < m
 ·have hlt2 : (i : Int) < (m : Int) := by omega
  obtain ⟨k, hk⟩ : ∃ k, m - i = k + 1 := ⟨m - i - 1, by omega⟩
  rw [hk, qcb] at hr
  have e1 := q53 acc
  (focus (have hF := (aI @q07 @hlt2); (repeat' (first | refine go1 (k:=?_) | with_reducible refine Ny.of ?_ ?_ | (refine Hyp.of ?_; intro hc; (try simp only [hc]); (try simp only [Bh] at hc)))); all_goals clear hF))
  refine q74 [.int .i64 16] (he := q5u 16 b a hb ha) (kok := ?_) (kerr := ?_)
  rotate_left
  ·rintro e a h s' h1 h2
   have h := Rs.map_error h
   rw [h] at hr
   exact KQ.pan (LoopW.pan (KQ.pan (FnRd.pan (by rw [← hr]; rfl) h1 h2)))
  rintro _ a1 h0
  obtain ⟨s, h, rfl⟩ := Rs.map_ok h0
  obtain ⟨s1, s2, s3, s4⟩ := q1w h
  rw [h, Rs.bind_ok] at hr
  clear h h0
  have w1 : IntKind.i64.wrap ((rep : Int) + (s : Int)) = ((rep + s : Nat) : Int) := q6i (by omega)
  by_cases hs : 0 < s
  ·simp only [if_pos hs] at hr
   have hs2 : (0 : Int) < (s : Int) := by omega
   (focus (have hF := (aI (aI @q07 @q3q) (aI @w1 @hs2)); (repeat' (first | refine go1 (k:=?_) | with_reducible refine Ny.of ?_ ?_ | (refine Hyp.of ?_; intro hc; (try simp only [hc]); (try simp only [Bh] at hc)))); all_goals clear hF))
   refine q74 [.int .i64 1000000000] (he := q5u 1000000000 b a1 hb s3) (kok := ?_) (kerr := ?_)
   rotate_left
   ·rintro e a h s' h1 h2
    have h := Rs.map_error h
    rw [h] at hr
    exact KQ.pan (LoopW.pan (KQ.pan (FnRd.pan (by rw [← hr]; rfl) h1 h2)))
   rintro _ a2 h0
   obtain ⟨x, h, rfl⟩ := Rs.map_ok h0
   obtain ⟨x1, x2, x3, x4⟩ := q1w h
   rw [h, Rs.bind_ok] at hr
   clear h h0
   have w2 : IntKind.i64.wrap (1 + (x : Int)) = ((1 + x : Nat) : Int) := by rw [q0a (by omega)]; omega
   by_cases hbad : 16 ≤ rep + s ∨ 1000000000 < 1 + x
   ·rw [if_pos hbad] at hr
    by_cases h16 : 16 ≤ rep + s
    ·have h16' : (16 : Int) ≤ ((rep + s : Nat) : Int) := by omega
     (focus (have hF := (aI (aI @q07 @q3q) (aI @w1 (aI @w2 @h16'))); (repeat' (first | refine go1 (k:=?_) | with_reducible refine Ny.of ?_ ?_ | (refine Hyp.of ?_; intro hc; (try simp only [hc]); (try simp only [Bh] at hc)))); all_goals clear hF))
     refine q74 [.int .i64 8] (he := q92 8 (by decide) b a2) (kok := ?_) (kerr := ?_)
     ·rintro _ _ h; cases h
     rintro _ _ h s' h1 h2
     cases h
     exact KQ.pan (LoopW.pan (KQ.pan (FnRd.pan (by rw [← hr]; rfl) h1 h2)))
    ·have h16' : ¬ (16 : Int) ≤ ((rep + s : Nat) : Int) := by omega
     have hbig : (1000000000 : Int) < ((1 + x : Nat) : Int) := by omega
     (focus (have hF := (aI (aI @q07 (aI @q3q @w1)) (aI @w2 (aI @h16' @hbig))); (repeat' (first | refine go1 (k:=?_) | with_reducible refine Ny.of ?_ ?_ | (refine Hyp.of ?_; intro hc; (try simp only [hc]); (try simp only [Bh] at hc)))); all_goals clear hF))
     refine q74 [.int .i64 8] (he := q92 8 (by decide) b a2) (kok := ?_) (kerr := ?_)
     ·rintro _ _ h; cases h
     rintro _ _ h s' h1 h2
     cases h
     exact KQ.pan (LoopW.pan (KQ.pan (FnRd.pan (by rw [← hr]; rfl) h1 h2)))
   rw [if_neg hbad] at hr
   have h16' : ¬ (16 : Int) ≤ ((rep + s : Nat) : Int) := by omega
   have hbig : ¬ (1000000000 : Int) < ((1 + x : Nat) : Int) := by omega
   have w3 : IntKind.i64.wrap (((1 + x : Nat) : Int) + 1) = ((1 + x + 1 : Nat) : Int) := q0t (by omega)
   (focus (have hF := (aI (aI @q07 (aI @q3q @w1)) (aI @w2 (aI @h16' @hbig))); (repeat' (first | refine go1 (k:=?_) | with_reducible refine Ny.of ?_ ?_ | (refine Hyp.of ?_; intro hc; (try simp only [hc]); (try simp only [Bh] at hc)))); all_goals clear hF))
   refine q74 [.int .i64 24] (he := qml 24 b a2 hb x3) (kok := ?_) (kerr := ?_)
   rotate_left
   ·rintro e a h s' h1 h2
    have h := Rs.map_error h
    rw [h] at hr
    exact KQ.pan (LoopW.pan (KQ.pan (FnRd.pan (by rw [← hr]; rfl) h1 h2)))
   rintro _ a3 h0
   obtain ⟨sku, h, rfl⟩ := Rs.map_ok h0
   obtain ⟨y2, y3⟩ := qe7 h
   rw [h, Rs.bind_ok] at hr
   clear h h0
   (focus (have hF := @q07; (repeat' (first | refine go1 (k:=?_) | with_reducible refine Ny.of ?_ ?_ | (refine Hyp.of ?_; intro hc; (try simp only [hc]); (try simp only [Bh] at hc)))); all_goals clear hF))
   ((with_reducible apply toW); refine stW (fun j => j == 7) (k:=?_))
   (focus (have hF := @q07; (repeat' (first | refine go1 (k:=?_) | with_reducible refine Ny.of ?_ ?_ | (refine Hyp.of ?_; intro hc; (try simp only [hc]); (try simp only [Bh] at hc)))); all_goals clear hF))
   refine stRdW [.int .i64 1000000] (he := q5u 1000000 b a3 hb y3) (kok := ?_) (kerr := ?_)
   rotate_left
   ·rintro e a h s' h1 h2
    have h := Rs.map_error h
    rw [h] at hr
    exact KQ.pan (LoopW.pan (KQ.pan (FnRd.pan (by rw [← hr]; rfl) h1 h2)))
   rintro _ a4 h0
   obtain ⟨q, h, rfl⟩ := Rs.map_ok h0
   obtain ⟨z1, z2, z3, z4⟩ := q1w h
   rw [h, Rs.bind_ok] at hr
   clear h h0
   have w4 := q0t (i := i) (by omega)
   have w5 : IntKind.i64.wrap ((q : Int) + 1) = ((q + 1 : Nat) : Int) := q0t (by omega)
   (focus (have hF := (aI (aI @q07 (aI @q3q @e1)) (aI @w3 (aI @w4 @w5))); (repeat' (first | refine go1 (k:=?_) | with_reducible refine Ny.of ?_ ?_ | (refine Hyp.of ?_; intro hc; (try simp only [hc]); (try simp only [Bh] at hc)))); all_goals clear hF))
   (refine Fin.nextW ((i + 1, rep + s, 1 + x + 1, acc ++ [⟨((rep + s : Nat) : Int), ((1 + x : Nat) : Int), sku, ((q + 1 : Nat) : Int)⟩], a4)) ?_ (have hW := (aI @q07 (aI @qd8 @q0i)); q0v); (try dsimp only))
   exact ⟨⟨hlt, show i + 1 = (acc ++ [_]).length by simp [hia], z3, show rep + s < 16 by omega, show 1 + x + 1 ≤ 1000000001 by omega, by rw [show m - (i + 1) = k by omega]; exact hr⟩, show m - (i + 1) < m - i by omega⟩
  ·simp only [if_neg hs] at hr
   have hs2 : ¬ (0 : Int) < (s : Int) := by omega
   have hs0 : s = 0 := by omega
   subst hs0
   simp only [Nat.add_zero] at hr
   (focus (have hF := (aI (aI @q07 @q3q) (aI @w1 @hs2)); (repeat' (first | refine go1 (k:=?_) | with_reducible refine Ny.of ?_ ?_ | (refine Hyp.of ?_; intro hc; (try simp only [hc]); (try simp only [Bh] at hc)))); all_goals clear hF))
   refine q74 [.int .i64 1000000000] (he := q5u 1000000000 b a1 hb s3) (kok := ?_) (kerr := ?_)
   rotate_left
   ·rintro e a h s' h1 h2
    have h := Rs.map_error h
    rw [h] at hr
    exact KQ.pan (LoopW.pan (KQ.pan (FnRd.pan (by rw [← hr]; rfl) h1 h2)))
   rintro _ a2 h0
   obtain ⟨x, h, rfl⟩ := Rs.map_ok h0
   obtain ⟨x1, x2, x3, x4⟩ := q1w h
   rw [h, Rs.bind_ok] at hr
   clear h h0
   have w2 : IntKind.i64.wrap ((next : Int) + (x : Int)) = ((next + x : Nat) : Int) := by rw [q0a (by omega)]; omega
   by_cases hbad : 16 ≤ rep ∨ 1000000000 < next + x
   ·rw [if_pos hbad] at hr
    by_cases h16 : 16 ≤ rep
    ·have h16' : (16 : Int) ≤ ((rep : Nat) : Int) := by omega
     (focus (have hF := (aI (aI @q07 @q3q) (aI @w1 (aI @w2 @h16'))); (repeat' (first | refine go1 (k:=?_) | with_reducible refine Ny.of ?_ ?_ | (refine Hyp.of ?_; intro hc; (try simp only [hc]); (try simp only [Bh] at hc)))); all_goals clear hF))
     refine q74 [.int .i64 8] (he := q92 8 (by decide) b a2) (kok := ?_) (kerr := ?_)
     ·rintro _ _ h; cases h
     rintro _ _ h s' h1 h2
     cases h
     exact KQ.pan (LoopW.pan (KQ.pan (FnRd.pan (by rw [← hr]; rfl) h1 h2)))
    ·have h16' : ¬ (16 : Int) ≤ ((rep : Nat) : Int) := by omega
     have hbig : (1000000000 : Int) < ((next + x : Nat) : Int) := by omega
     (focus (have hF := (aI (aI @q07 (aI @q3q @w1)) (aI @w2 (aI @h16' @hbig))); (repeat' (first | refine go1 (k:=?_) | with_reducible refine Ny.of ?_ ?_ | (refine Hyp.of ?_; intro hc; (try simp only [hc]); (try simp only [Bh] at hc)))); all_goals clear hF))
     refine q74 [.int .i64 8] (he := q92 8 (by decide) b a2) (kok := ?_) (kerr := ?_)
     ·rintro _ _ h; cases h
     rintro _ _ h s' h1 h2
     cases h
     exact KQ.pan (LoopW.pan (KQ.pan (FnRd.pan (by rw [← hr]; rfl) h1 h2)))
   rw [if_neg hbad] at hr
   have h16' : ¬ (16 : Int) ≤ ((rep : Nat) : Int) := by omega
   have hbig : ¬ (1000000000 : Int) < ((next + x : Nat) : Int) := by omega
   have w3 : IntKind.i64.wrap (((next + x : Nat) : Int) + 1) = ((next + x + 1 : Nat) : Int) := q0t (by omega)
   (focus (have hF := (aI (aI @q07 (aI @q3q @w1)) (aI @w2 (aI @h16' @hbig))); (repeat' (first | refine go1 (k:=?_) | with_reducible refine Ny.of ?_ ?_ | (refine Hyp.of ?_; intro hc; (try simp only [hc]); (try simp only [Bh] at hc)))); all_goals clear hF))
   refine q74 [.int .i64 24] (he := qml 24 b a2 hb x3) (kok := ?_) (kerr := ?_)
   rotate_left
   ·rintro e a h s' h1 h2
    have h := Rs.map_error h
    rw [h] at hr
    exact KQ.pan (LoopW.pan (KQ.pan (FnRd.pan (by rw [← hr]; rfl) h1 h2)))
   rintro _ a3 h0
   obtain ⟨sku, h, rfl⟩ := Rs.map_ok h0
   obtain ⟨y2, y3⟩ := qe7 h
   rw [h, Rs.bind_ok] at hr
   clear h h0
   (focus (have hF := @q07; (repeat' (first | refine go1 (k:=?_) | with_reducible refine Ny.of ?_ ?_ | (refine Hyp.of ?_; intro hc; (try simp only [hc]); (try simp only [Bh] at hc)))); all_goals clear hF))
   ((with_reducible apply toW); refine stW (fun j => j == 7) (k:=?_))
   (focus (have hF := @q07; (repeat' (first | refine go1 (k:=?_) | with_reducible refine Ny.of ?_ ?_ | (refine Hyp.of ?_; intro hc; (try simp only [hc]); (try simp only [Bh] at hc)))); all_goals clear hF))
   refine stRdW [.int .i64 1000000] (he := q5u 1000000 b a3 hb y3) (kok := ?_) (kerr := ?_)
   rotate_left
   ·rintro e a h s' h1 h2
    have h := Rs.map_error h
    rw [h] at hr
    exact KQ.pan (LoopW.pan (KQ.pan (FnRd.pan (by rw [← hr]; rfl) h1 h2)))
   rintro _ a4 h0
   obtain ⟨q, h, rfl⟩ := Rs.map_ok h0
   obtain ⟨z1, z2, z3, z4⟩ := q1w h
   rw [h, Rs.bind_ok] at hr
   clear h h0
   have w4 := q0t (i := i) (by omega)
   have w5 : IntKind.i64.wrap ((q : Int) + 1) = ((q + 1 : Nat) : Int) := q0t (by omega)
   (focus (have hF := (aI (aI @q07 (aI @q3q @e1)) (aI @w3 (aI @w4 @w5))); (repeat' (first | refine go1 (k:=?_) | with_reducible refine Ny.of ?_ ?_ | (refine Hyp.of ?_; intro hc; (try simp only [hc]); (try simp only [Bh] at hc)))); all_goals clear hF))
   (refine Fin.nextW ((i + 1, rep, next + x + 1, acc ++ [⟨((rep : Nat) : Int), ((next + x : Nat) : Int), sku, ((q + 1 : Nat) : Int)⟩], a4)) ?_ (have hW := (aI @q07 (aI @qd8 @q0i)); q0v); (try dsimp only))
   exact ⟨⟨hlt, show i + 1 = (acc ++ [_]).length by simp [hia], z3, show rep < 16 by omega, show next + x + 1 ≤ 1000000001 by omega, by rw [show m - (i + 1) = k by omega]; exact hr⟩, show m - (i + 1) < m - i by omega⟩
 ·have him : i = m := by omega
  subst him
  have hlt2 : ¬ (i : Int) < (i : Int) := by omega
  rw [Nat.sub_self, qcb] at hr
  subst hr
  (focus (have hF := (aI @q07 @hlt2); (repeat' (first | refine go1 (k:=?_) | with_reducible refine Ny.of ?_ ?_ | (refine Hyp.of ?_; intro hc; (try simp only [hc]); (try simp only [Bh] at hc)))); all_goals clear hF))
  refine FnRd.all (xs := [.sl 4 (q1j acc)]) rfl ?_ (by simp [q0m, AVal.stb, q0i]) rfl
  simp [q28, q4m, fz, KRd, fzc, upd, tms, mms]
theorem qew (b : Bs) (p : Nat) (hb : b.length ≤ 900000000000) (hp : p ≤ b.length) : EvR (En Tryz.prog rfl).P 66 [] b p ((q0f b p).map fun l => .sl 3 (q1i l)) := by
 refine EvR.of_body it_k66 (by simp) (fun v a h => by obtain ⟨x, _, rfl⟩ := Rs.map_ok h; exact q0p x) fun v => Run.start ?_
 unfold t_k66
 (focus (have hF := @q07; (repeat' (first | refine go1 (k:=?_) | with_reducible refine Ny.of ?_ ?_ | (refine Hyp.of ?_; intro hc; (try simp only [hc]); (try simp only [Bh] at hc)))); all_goals clear hF))
 generalize hr : q0f b p = r
 unfold q0f at hr
 refine q74 [.int .i64 4] (he := qey 4 (by omega) b p hb hp) (kok := ?_) (kerr := ?_)
 rotate_left
 ·rintro e a h s' h1 h2
  have h := Rs.map_error h
  rw [h] at hr
  exact KQ.pan (FnRd.pan (by rw [← hr]; rfl) h1 h2)
 rintro _ a0 h0
 obtain ⟨m, h, rfl⟩ := Rs.map_ok h0
 obtain ⟨q1, q2⟩ := q7y (by omega) h
 rw [h, Rs.bind_ok] at hr
 clear h h0
 (focus (have hF := (aI @q07 @q3q); (repeat' (first | refine go1 (k:=?_) | with_reducible refine Ny.of ?_ ?_ | (refine Hyp.of ?_; intro hc; (try simp only [hc]); (try simp only [Bh] at hc)))); all_goals clear hF))
 refine Run.wk (Wk.own_nil 3 100 3 rfl rfl) ?_
 refine Run.while (σ := Nat × List Rec × Nat) (fun z => ⟨tms [(0, .ptr 900000 0), (3, .os 100 z.1), (6, .int .i64 (m : Int)), (7, .int .i64 (z.1 : Int))], mms [(100, .arr z.1 3 (q1i z.2.1)), (900000, .cells (rdC b z.2.2 0)), (1900000, nt v)]⟩)
  (fun z => z.1 ≤ m ∧ z.1 = z.2.1.length ∧ z.2.2 ≤ b.length ∧ qca b (m - z.1) z.2.1 z.2.2 = r) (fun z => m - z.1) (0, [], a0) (have hW := (aI @q07 @q0p); q0v) ⟨by omega, rfl, q2, hr⟩ ?_
 rintro ⟨i, acc, a⟩ ⟨hi, hia, ha, hr⟩
 simp only at hi hia ha hr
 unfold qnk
 by_cases hlt : i < m
 ·have hlt2 : (i : Int) < (m : Int) := by omega
  obtain ⟨k, hk⟩ : ∃ k, m - i = k + 1 := ⟨m - i - 1, by omega⟩
  rw [hk, qca] at hr
  have e1 := q51 acc
  (focus (have hF := (aI @q07 @hlt2); (repeat' (first | refine go1 (k:=?_) | with_reducible refine Ny.of ?_ ?_ | (refine Hyp.of ?_; intro hc; (try simp only [hc]); (try simp only [Bh] at hc)))); all_goals clear hF))
  refine q74 [.int .i64 24] (he := qml 24 b a hb ha) (kok := ?_) (kerr := ?_)
  rotate_left
  ·rintro e a h s' h1 h2
   have h := Rs.map_error h
   rw [h] at hr
   exact KQ.pan (LoopW.pan (KQ.pan (FnRd.pan (by rw [← hr]; rfl) h1 h2)))
  rintro _ a1 h0
  obtain ⟨sku, h, rfl⟩ := Rs.map_ok h0
  obtain ⟨y2, y3⟩ := qe7 h
  rw [h, Rs.bind_ok] at hr
  clear h h0
  (focus (have hF := @q07; (repeat' (first | refine go1 (k:=?_) | with_reducible refine Ny.of ?_ ?_ | (refine Hyp.of ?_; intro hc; (try simp only [hc]); (try simp only [Bh] at hc)))); all_goals clear hF))
  refine q74 [] (he := z04 b a1 hb y3) (kok := ?_) (kerr := ?_)
  rotate_left
  ·rintro e a h s' h1 h2
   have h := Rs.map_error h
   rw [h] at hr
   exact KQ.pan (LoopW.pan (KQ.pan (FnRd.pan (by rw [← hr]; rfl) h1 h2)))
  rintro _ a2 h0
  obtain ⟨q, h, rfl⟩ := Rs.map_ok h0
  obtain ⟨z2, z3⟩ := rPast_ok h
  rw [h, Rs.bind_ok] at hr
  clear h h0
  have w4 := q0t (i := i) (by omega)
  (focus (have hF := (aI (aI @q07 @encP_eq) (aI @e1 @w4)); (repeat' (first | refine go1 (k:=?_) | with_reducible refine Ny.of ?_ ?_ | (refine Hyp.of ?_; intro hc; (try simp only [hc]); (try simp only [Bh] at hc)))); all_goals clear hF))
  (refine Fin.nextW ((i + 1, acc ++ [⟨sku, q⟩], a2)) ?_ (have hW := (aI @q07 (aI @z08 @q0p)); q0v); (try dsimp only))
  exact ⟨⟨hlt, show i + 1 = (acc ++ [_]).length by simp [hia], z3, by rw [show m - (i + 1) = k by omega]; exact hr⟩, show m - (i + 1) < m - i by omega⟩
 ·have him : i = m := by omega
  subst him
  have hlt2 : ¬ (i : Int) < (i : Int) := by omega
  rw [Nat.sub_self, qca] at hr
  subst hr
  (focus (have hF := (aI @q07 @hlt2); (repeat' (first | refine go1 (k:=?_) | with_reducible refine Ny.of ?_ ?_ | (refine Hyp.of ?_; intro hc; (try simp only [hc]); (try simp only [Bh] at hc)))); all_goals clear hF))
  refine FnRd.all (xs := [.sl 3 (q1i acc)]) rfl ?_ (by simp [q0m, AVal.stb, q0p]) rfl
  simp [q28, q4m, fz, KRd, fzc, upd, tms, mms]

def St (b : Bs) (p : Nat) (x : Bs) (q : Nat) : Prop := q = p + x.length ∧ q ≤ b.length ∧ b.drop p = x ++ b.drop q
theorem St.nil {b : Bs} {p : Nat} (h : p ≤ b.length) : St b p [] p := ⟨by simp, h, by simp⟩
theorem St.fst {b x y : Bs} {p r : Nat} (h : St b p (x ++ y) r) : St b p x (p + x.length) := by
 obtain ⟨a1, a2, a3⟩ := h
 rw [List.length_append] at a1
 refine ⟨rfl, by omega, ?_⟩
 have e : b.drop (p + x.length) = (b.drop p).drop x.length := by rw [List.drop_drop]
 rw [e, a3, List.append_assoc, List.drop_left]
theorem St.snd {b x y : Bs} {p r : Nat} (h : St b p (x ++ y) r) : St b (p + x.length) y r := by
 have hf := h.fst
 obtain ⟨a1, a2, a3⟩ := h
 rw [List.length_append] at a1
 refine ⟨by omega, a2, ?_⟩
 have e : b.drop (p + x.length) = (b.drop p).drop x.length := by rw [List.drop_drop]
 rw [e, a3, List.append_assoc, List.drop_left]
theorem St.len {b x : Bs} {p q : Nat} (h : St b p x q) : q = p + x.length := h.1
theorem St.le {b x : Bs} {p q : Nat} (h : St b p x q) : q ≤ b.length := h.2.1
theorem St.all (b : Bs) : St b 0 b b.length := ⟨by simp, Nat.le_refl _, by simp⟩
theorem St.ext {b x : Bs} {p q : Nat} (h : St b p x q) (c : Bs) : St (b ++ c) p x q := by
 obtain ⟨a1, a2, a3⟩ := h
 refine ⟨a1, by rw [List.length_append]; omega, ?_⟩
 rw [List.drop_append_of_le_length (by omega), List.drop_append_of_le_length a2, a3, List.append_assoc]
theorem u8n {n : Nat} (h : n < 256) : (UInt8.ofNat n).toNat = n := by rw [UInt8.toNat_ofNat']; omega
theorem qyr {b r : Bs} {p : Nat} {c : UInt8} (h : b.drop p = c :: r) : b[p]? = some c ∧ b.drop (p + 1) = r := by
 have h1 : (b.drop p)[0]? = some c := by rw [h]; rfl
 rw [List.getElem?_drop, Nat.add_zero] at h1
 refine ⟨h1, ?_⟩
 have e : b.drop (p + 1) = (b.drop p).drop 1 := by rw [List.drop_drop]
 rw [e, h]
 rfl
theorem qy9 {b : Bs} {p : Nat} : ∀ (k i m acc : Nat) (r : Bs), (0 < k ∨ 0 < i) → m < 128 ^ k → (0 < i → m ≠ 0) → b.drop (p + i) = q0u m ++ r → q8y b p k i acc = (acc + m * 2 ^ (7 * i), p + i + (q0u m).length, 0)
 | 0, i, m, acc, r, hk, hm, hi, hd => by
  have hm0 : m = 0 := by simpa using hm
  exact absurd hm0 (hi (hk.resolve_left (Nat.lt_irrefl 0)))
 | k + 1, i, m, acc, r, hk, hm, hi, hd => by
  by_cases hlt : m < 128
  ·rw [q5d hlt] at hd ⊢
   obtain ⟨g1, g2⟩ := qyr (c := UInt8.ofNat m) (r := r) hd
   have hc := u8n (n := m) (by omega)
   rw [q8y, g1]
   simp only [hc, hlt, if_true]
   rw [if_neg (fun h => hi h.2 h.1), Nat.mod_eq_of_lt hlt]
   rfl
  ·rw [qb5 hlt] at hd ⊢
   obtain ⟨g1, g2⟩ := qyr (c := UInt8.ofNat (m % 128 + 128)) (r := q0u (m / 128) ++ r) hd
   have hc := u8n (n := m % 128 + 128) (by omega)
   rw [q8y, g1]
   simp only [hc]
   rw [if_neg (by omega)]
   have hm' : m / 128 < 128 ^ k := by
    rw [Nat.div_lt_iff_lt_mul (by decide)]
    rw [Nat.pow_succ] at hm
    exact hm
   rw [qy9 k (i + 1) (m / 128) _ r (.inr (Nat.succ_pos i)) hm' (fun _ => by omega) (by rw [← Nat.add_assoc]; exact g2)]
   have e1 : (m % 128 + 128) % 128 = m % 128 := by omega
   have e2 : 2 ^ (7 * (i + 1)) = 128 * 2 ^ (7 * i) := by rw [Nat.mul_add, Nat.pow_add, Nat.mul_comm]
   have e3 : m % 128 * 2 ^ (7 * i) + m / 128 * (128 * 2 ^ (7 * i)) = m * 2 ^ (7 * i) := by
    rw [← Nat.mul_assoc, ← Nat.add_mul]
    congr 1
    omega
   simp only [List.length_cons, Prod.mk.injEq, and_true]
   rw [e1, e2]
   constructor
   ·omega
   ·omega
theorem q3d {most : Nat} {b : Bs} {p n q : Nat} (h : St b p (q0u n) q) (hm : n ≤ most) (hn : n < 9223372036854775808) : qc5 most b p = .ok (n, q) := by
 have hg := qy9 (b := b) (p := p) 9 0 n 0 (b.drop q) (.inl (by decide)) (by omega) (fun h => absurd h (by decide)) (by simpa using h.2.2)
 unfold qc5
 rw [hg]
 simp only [Nat.mul_zero, Nat.pow_zero, Nat.mul_one, Nat.zero_add, Nat.add_zero, if_true]
 rw [if_neg (by omega), ← h.1]
theorem q8s {each : Nat} {b : Bs} {p n q : Nat} (he : 0 < each) (h : St b p (q0u n) q) (hn : n < 9223372036854775808) (hm : n * each ≤ b.length - q) : q4g each b p = .ok (n, q) := by
 unfold q4g
 rw [q3d h (by omega) hn]
 simp only
 rw [if_neg]
 rw [Nat.not_lt, Nat.le_div_iff_mul_le he]
 exact hm
theorem St.bytes {b x : Bs} {p q : Nat} (h : St b p x q) : (b.take q).drop p = x := by
 obtain ⟨a1, a2, a3⟩ := h
 rw [List.drop_take, a3, show q - p = x.length by omega, List.take_left]
theorem za7 {most : Nat} {b x : Bs} {p q : Nat} (h : St b p (q0u x.length ++ x) q) (hm : x.length ≤ most) (hn : x.length < 9223372036854775808) : qc9 most b p = .ok (x, q) := by
 unfold qc9
 rw [q3d h.fst hm hn]
 have hs := h.snd
 have hl := hs.le
 have h1 := hs.1
 simp only
 rw [if_neg (by omega), ← h1, hs.bytes]
theorem qj4 {most : Nat} {b : Bs} {s : ByteArray} {p q : Nat} (h : St b p (q0u s.size ++ s.data.toList) q) (hm : s.size ≤ most) (hn : s.size < 9223372036854775808) : qe8 most b p = .ok (s, q) := by
 unfold qe8
 have hl : s.data.toList.length = s.size := rfl
 rw [← hl] at h hm hn
 rw [za7 h hm hn]
 rfl

theorem Rs.bind_put {α β : Type} {r : Rs α} {f : α → Nat → Rs β} {x : α} {a : Nat} (h : r = .ok (x, a)) : r.bind f = f x a := by rw [h]; rfl
theorem qfg (x : Int) (l : List Int) : q9k (x :: l) = q0u x.toNat ++ q9k l := rfl
theorem qy0 {b : Bs} : ∀ (l acc : List Int) (p q : Nat), St b p (q9k l) q → okVr l → qzm b l.length acc p = .ok (acc ++ l, q)
 | [], acc, p, q, h, hl => by
  have : q = p := by simpa [q9k] using h.1
  simp [qzm, this]
 | x :: l, acc, p, q, h, hl => by
  have hx := hl x (by simp)
  rw [qfg] at h
  rw [List.length_cons, qzm, Rs.bind_put (q3d h.fst (by omega) (by omega)), qy0 l _ _ q h.snd fun y hy => hl y (by simp [hy])]
  have : ((x.toNat : Nat) : Int) = x := by omega
  simp [this]
def spanF (vec : List Int) (sf : List Sn) (s : Sn) : Prop := 0 ≤ q37 sf ∧ q37 sf ≤ s.1 ∧ s.1 ≤ 15 ∧ q1a vec s.1.toNat sf ≤ s.2.1 ∧ s.2.1 ≤ s.2.2 ∧ s.2.2 ≤ 1000000000
def CldF (vec : List Int) : List Sn → List Sn → Prop
 | _, [] => True
 | sf, s :: l => spanF vec sf s ∧ CldF vec (sf ++ [s]) l
theorem qjh {vec : List Int} {sf : List Sn} {s : Sn} (hv : okVr vec) (hc : okCr sf) (h : spanF vec sf s) : okCr (sf ++ [s]) := fun x hx => by
 rcases List.mem_append.1 hx with hx | hx
 ·exact hc x hx
 ·have hx := List.mem_singleton.1 hx
  subst hx
  have := q66 (rep := x.1.toNat) hv hc
  obtain ⟨h1, h2, h3, h4, h5, h6⟩ := h
  omega
theorem qct {vec : List Int} {b : Bs} (hv : okVr vec) : ∀ (l acc : List Sn) (rep p q : Nat), St b p (q1z vec acc l) q → CldF vec acc l → okCr acc → q37 acc = (rep : Int) → q4h vec b l.length rep acc p = .ok (acc ++ l, q)
 | [], acc, rep, p, q, h, _, _, _ => by
  have : q = p := by simpa [q1z] using h.1
  simp [q4h, this]
 | (sr, lo, hi) :: l, acc, rep, p, q, h, hf, hc, hr => by
  obtain ⟨hs, hl⟩ := hf
  have hc' := qjh hv hc hs
  obtain ⟨h1, h2, h3, h4, h5, h6⟩ := hs
  simp only at h1 h2 h3 h4 h5 h6
  obtain ⟨r, rfl⟩ : ∃ r : Nat, sr = (r : Int) := ⟨sr.toNat, by omega⟩
  simp only [Int.toNat_natCast] at h4
  have hle := q66 (rep := r) hv hc
  rw [q1z] at h
  unfold qan at h
  simp only [Int.toNat_natCast] at h
  rw [hr] at h h1 h2
  have t1 := h.fst.fst
  have t2 := h.fst.snd.fst
  have t3 := h.fst.snd.snd
  have t4 := h.snd
  rw [List.length_cons, q4h, Rs.bind_put (q3d t1 (by omega) (by omega))]
  have hrr : rep + ((r : Int) - (rep : Int)).toNat = r := by omega
  rw [hrr, if_neg (by omega), Rs.bind_put (q3d t2 (by omega) (by omega)), Rs.bind_put (q3d t3 (by omega) (by omega))]
  generalize hle' : q1a vec r acc = ls at *
  have e1 : ls + (((lo - ls).toNat : Nat) : Int) = lo := by omega
  have e2 : lo + (((hi - lo).toNat : Nat) : Int) = hi := by omega
  rw [e1, e2, if_neg (by omega)]
  rw [qct hv l _ r _ q t4 hl hc' (by rw [q4x])]
  simp
structure PF (p : Pst) : Prop where
 vl : p.vec.length ≤ 16
 v : okVr p.vec
 c : CldF p.vec [] p.cloud
theorem qbv (vec : List Int) : ∀ (l sf : List Sn), 3 * l.length ≤ (q1z vec sf l).length
 | [], sf => by simp
 | s :: l, sf => by
  have := qbv vec l (sf ++ [s])
  have h1 := q25 (s.1 - q37 sf).toNat
  have h2 := q25 (s.2.1 - q1a vec s.1.toNat sf).toNat
  have h3 := q25 (s.2.2 - s.2.1).toNat
  simp only [q1z, qan, List.length_append, List.length_cons]
  omega
theorem za8 {b : Bs} {x : Pst} {p q : Nat} (h : St b p (q34 x) q) (hf : PF x) (hb : b.length ≤ 900000000000) : qe9 b p = .ok (x, q) := by
 unfold q34 at h
 have t1 := h.fst
 have t2 := h.snd.fst
 have t3 := h.snd.snd.fst
 have t4 := h.snd.snd.snd
 have hl := hf.vl
 have hge := qbv x.vec x.cloud []
 have e4 := t4.1
 have e5 := t4.le
 unfold qe9
 rw [Rs.bind_put (q3d t1 hl (by omega)), Rs.bind_put (qy0 x.vec [] _ _ t2 hf.v), Rs.bind_put (q8s (by decide) t3 (by omega) (by omega))]
 rw [List.nil_append, Rs.bind_put (qct hf.v x.cloud [] 0 _ q t4 hf.c (fun s hs => by cases hs) rfl)]
 rfl
def entF (sf : List Ent) (e : Ent) : Prop := 0 ≤ q9d sf ∧ q9d sf ≤ e.rep ∧ e.rep ≤ 15 ∧ 1 ≤ q4p sf ∧ q4p sf ≤ 1000000001 ∧ q3w sf e ≤ e.num ∧ e.num ≤ 1000000000 ∧ e.sku.size ≤ 24 ∧ 1 ≤ e.qty ∧ e.qty ≤ 1000001
def zch : List Ent → List Ent → Prop
 | _, [] => True
 | sf, e :: l => entF sf e ∧ zch (sf ++ [e]) l
theorem qj7 {b : Bs} : ∀ (l acc : List Ent) (rep next p q : Nat), St b p (q46 acc l) q → zch acc l → (∀ e ∈ l, e.qty ≤ 1000000) → q9d acc = (rep : Int) → q4p acc = (next : Int) → qcb b l.length rep next acc p = .ok (acc ++ l, q)
 | [], acc, rep, next, p, q, h, _, _, _, _ => by
  have : q = p := by simpa [q46] using h.1
  simp [qcb, this]
 | e :: l, acc, rep, next, p, q, h, hf, hq, hr, hn => by
  obtain ⟨hs, hl⟩ := hf
  have hq0 := hq e (by simp)
  obtain ⟨h1, h2, h3, h4, h5, h6, h7, h8, h9, h10⟩ := hs
  rw [q46] at h
  unfold entB at h
  have hbe : q3w acc e = if e.rep = q9d acc then q4p acc else 1 := rfl
  rw [hr, hn] at hbe
  rw [hr] at h h1 h2
  have t1 := h.fst.fst
  have t2 := h.fst.snd.fst
  have t3 := h.fst.snd.snd.fst
  have t4 := h.fst.snd.snd.snd
  have t5 := h.snd
  have hrr : rep + (e.rep - (rep : Int)).toNat = e.rep.toNat := by omega
  have hx : ((if 0 < (e.rep - (rep : Int)).toNat then 1 else next : Nat) : Int) = q3w acc e := by
   rw [hbe]
   by_cases hc : e.rep = (rep : Int)
   ·rw [if_pos hc, if_neg (by omega)]
   ·rw [if_neg hc, if_pos (by omega)]
    rfl
  have hbn : 0 ≤ q3w acc e := by rw [← hx]; omega
  have hxx : (if 0 < (e.rep - (rep : Int)).toNat then 1 else next) + (e.num - q3w acc e).toNat = e.num.toNat := by omega
  rw [List.length_cons, qcb, Rs.bind_put (q3d t1 (by omega) (by omega)), Rs.bind_put (q3d t2 (by omega) (by omega))]
  rw [hrr, hxx, if_neg (by omega), Rs.bind_put (qj4 t3 h8 (by omega)), Rs.bind_put (q3d t4 (by omega) (by omega))]
  have he : (⟨((e.rep.toNat : Nat) : Int), ((e.num.toNat : Nat) : Int), e.sku, (((e.qty - 1).toNat + 1 : Nat) : Int)⟩ : Ent) = e := by
   obtain ⟨a, b, c, d⟩ := e
   simp only at *
   congr 1 <;> omega
  rw [he, qj7 l _ _ _ _ q t5 hl (fun x hx => hq x (by simp [hx])) (by rw [q4w]; omega) (by rw [q3x]; omega)]
  simp
theorem qyi : ∀ (l sf : List Ent), (∀ e ∈ l, 1 ≤ e.sku.size) → 5 * l.length ≤ (q46 sf l).length
 | [], sf, _ => by simp
 | e :: l, sf, h => by
  have := qyi l (sf ++ [e]) fun x hx => h x (by simp [hx])
  have h0 := h e (by simp)
  have h1 := q25 (e.rep - q9d sf).toNat
  have h2 := q25 (e.num - q3w sf e).toNat
  have h3 := q25 e.sku.size
  have h4 := q25 (e.qty - 1).toNat
  have h5 : e.sku.data.toList.length = e.sku.size := rfl
  simp only [q46, entB, List.length_append, List.length_cons]
  omega
theorem qj8 {b : Bs} {l : List Ent} {p q : Nat} (h : St b p (q1q l) q) (hf : zch [] l) (hs : ∀ e ∈ l, 1 ≤ e.sku.size ∧ e.qty ≤ 1000000) (hb : b.length ≤ 900000000000) : q0g b p = .ok (l, q) := by
 unfold q1q at h
 have t1 := h.fst
 have t2 := h.snd
 have hge := qyi l [] fun e he => (hs e he).1
 have e4 := t2.1
 have e5 := t2.le
 unfold q0g
 rw [Rs.bind_put (q8s (by decide) t1 (by omega) (by omega)), qj7 l [] 0 1 _ q t2 hf (fun e he => (hs e he).2) rfl rfl]
 rfl
theorem qj5 {b : Bs} (hb : b.length ≤ 900000000000) : ∀ (l acc : List Rec) (p q : Nat), St b p (q2q l) q → (∀ r ∈ l, r.sku.size ≤ 24 ∧ PF r.past) → qca b l.length acc p = .ok (acc ++ l, q)
 | [], acc, p, q, h, _ => by
  have : q = p := by simpa [q2q] using h.1
  simp [qca, this]
 | r :: l, acc, p, q, h, hf => by
  obtain ⟨h1, h2⟩ := hf r (by simp)
  have h : St b p (((q0u r.sku.size ++ r.sku.data.toList) ++ q34 r.past) ++ q2q l) q := h
  rw [List.length_cons, qca, Rs.bind_put (qj4 h.fst.fst h1 (by omega)), Rs.bind_put (za8 h.fst.snd h2 hb), qj5 hb l _ _ q h.snd fun x hx => hf x (by simp [hx])]
  simp
theorem recB_ge {r : Rec} (h : r.past.vec ≠ [] ∨ r.past.cloud ≠ []) : 4 ≤ (recB r).length := by
 have h1 := q25 r.sku.size
 have h2 := q25 r.past.vec.length
 have h3 := q25 r.past.cloud.length
 have h4 := qbv r.past.vec r.past.cloud []
 have h5 : 1 ≤ (q9k r.past.vec).length + (q1z r.past.vec [] r.past.cloud).length := by
  rcases h with h | h
  ·cases hv : r.past.vec with
   | nil => exact absurd hv h
   | cons x l =>
    have := q25 x.toNat
    rw [qfg, List.length_append]
    omega
  ·have : 0 < r.past.cloud.length := List.length_pos_iff.2 h
   omega
 simp only [recB, q34, List.length_append]
 omega
theorem qob : ∀ (l : List Rec), (∀ r ∈ l, r.past.vec ≠ [] ∨ r.past.cloud ≠ []) → 4 * l.length ≤ (q2q l).length
 | [], _ => by simp
 | r :: l, h => by
  have h1 := qob l fun x hx => h x (by simp [hx])
  have h2 := recB_ge (h r (by simp))
  simp only [q2q, List.flatMap_cons, List.length_append, List.length_cons] at h1 ⊢
  omega
theorem qj6 {b : Bs} {l : List Rec} {p q : Nat} (h : St b p (q19 l) q) (hf : ∀ r ∈ l, r.sku.size ≤ 24 ∧ PF r.past) (hs : ∀ r ∈ l, r.past.vec ≠ [] ∨ r.past.cloud ≠ []) (hb : b.length ≤ 900000000000) : q0f b p = .ok (l, q) := by
 unfold q19 at h
 have t1 := h.fst
 have t2 := h.snd
 have hge := qob l hs
 have e4 := t2.1
 have e5 := t2.le
 unfold q0f
 rw [Rs.bind_put (q8s (by decide) t1 (by omega) (by omega)), qj5 hb l [] _ q t2 hf]
 rfl

section
def Act.sh (a : Act) (ds : List Deferred) : Act := { a with defers := a.defers ++ ds }
theorem qja (a : Act) (ds : List Deferred) (d : Option Tmp) (v : Value) : (Act.sh a ds).put d v = Act.sh (a.put d v) ds := by cases d <;> rfl
theorem eval_sh (a : Act) (ds : List Deferred) : (Act.sh a ds).eval = a.eval := rfl
section
variable {P : Program}
theorem upon_sh {o : Oper} {a : Act} {ds : List Deferred} {K : Act → World → Prop} {Q : Exit → Act → World → Prop} {r : Result Next} (h : o.upon P a (fun a' w' => K (Act.sh a' ds) w') (fun e a' w' => Q e (Act.sh a' ds) w') r) :
 o.upon P (Act.sh a ds) K Q r := by
 cases r with
 | ok n w' =>
  cases n <;> simp only [Oper.upon] at h ⊢
  case value v => rw [qja]; exact h
  case skip => rw [qja]; exact h
  case defer d =>
   have e : (({ Act.sh a ds with defers := d :: (Act.sh a ds).defers } : Act).put o.dst undef) = Act.sh (({ a with defers := d :: a.defers } : Act).put o.dst undef) ds := by cases o.dst <;> rfl
   rw [e]
   exact h
  case enter f args =>
   refine Calls.mono h fun e w'' he => ?_
   cases e with
   | returned v =>
    show K ((Act.sh a ds).put o.dst v) w''
    rw [qja]
    exact he
   | panicked c => exact he
   | outgrown => obtain ⟨a0, w0, hq⟩ := he; exact ⟨_, _, hq⟩
  case row row args => exact Rows.mono h fun v w'' he => by rw [qja]; exact he
 | halt x w' =>
  cases x <;> simp only [Oper.upon] at h ⊢
  exact h
theorem q9r {ops : Array Oper} {ds : List Deferred} {Q : Exit → Act → World → Prop} : ∀ (l : List Nat) (a : Act) (w : World), wpOps P ops (fun e a' w' => Q e (Act.sh a' ds) w') l a w → wpOps P ops Q l (Act.sh a ds) w
 | [], a, w, h => h
 | i :: l, a, w, h => by
  simp only [wpOps] at h ⊢
  cases ho : ops[i]? with
  | none => simp only [ho] at h ⊢; exact q9r l a w h
  | some o =>
   simp only [ho] at h ⊢
   show if Region.wanted o (yielded ops a.tmps) = true then _ else _
   split at h
   ·rename_i hw
    rw [if_pos hw]
    rcases h with h | ⟨h1, a0, w0, h2⟩
    ·left
     unfold Oper.wp at h ⊢
     rw [eval_sh]
     refine upon_sh (?_ : o.upon P a (fun a' w' => wpOps P ops Q l (Act.sh a' ds) w') _ _)
     have mono : ∀ {K K' : Act → World → Prop} {r : Result Next}, (∀ a w, K a w → K' a w) → o.upon P a K (fun e a' w' => Q e (Act.sh a' ds) w') r → o.upon P a K' (fun e a' w' => Q e (Act.sh a' ds) w') r := by
      intro K K' r hk h
      cases r with
      | ok n w' =>
       cases n <;> simp only [Oper.upon] at h ⊢
       case value v => exact hk _ _ h
       case skip => exact hk _ _ h
       case defer d => exact hk _ _ h
       case enter f args =>
        refine Calls.mono h fun e w'' he => ?_
        cases e with
        | returned v => exact hk _ _ he
        | panicked c => exact he
        | outgrown => exact he
       case row row args => exact Rows.mono h fun v w'' he => hk _ _ he
      | halt x w' => cases x <;> exact h
     exact mono (fun a w h => q9r l a w h) h
    ·exact .inr ⟨h1, _, _, h2⟩
   ·rename_i hw
    rw [if_neg hw, qja]
    exact q9r l _ w h
end
def AWd (E : Env) (n : Nat) (ds : List Deferred) (x : SC) (Q : Ex → AS → Prop) (s : AS) : Prop :=
 ∀ c, q7d n c = some x → ∀ B G a w, Rel n B G s a w → ∀ Q', Post n B G w Q (fun e a' w' => Q' e (Act.sh a' ds) w') → c.wp E.P Q' (Act.sh a ds) w
section
variable {E : Env} {n : Nat} {ds : List Deferred} {Q : Ex → AS → Prop} {s : AS}
theorem AWd.skip (h : Q .normal s) : AWd E n ds .skip Q s := by
 intro c hc B G a w hR Q' hP
 cases c <;> simp only [q7d, reduceCtorEq] at hc
 case skip => exact wp_skip (hP .normal _ _ _ _ (.refl G w) hR h)
 all_goals first | (simp at hc; done) | ((repeat' split at hc) <;> simp at hc; done) | skip
theorem AWd.ret (h : Q .ret s) : AWd E n ds .ret Q s := by
 intro c hc B G a w hR Q' hP
 cases c <;> simp only [q7d, reduceCtorEq] at hc
 case ret => exact wp_ret (hP .ret _ _ _ _ (.refl G w) hR h)
 all_goals first | (simp at hc; done) | ((repeat' split at hc) <;> simp at hc; done) | skip
theorem AWd.seq {x y : SC} (h : AWd E n ds x (Ex.then (AWd E n ds y Q) Q) s) : AWd E n ds (.seq x y) Q s := by
 intro c hc B G a w hR Q' hP
 cases c <;> simp only [q7d, reduceCtorEq] at hc
 case seq cx cy =>
  split at hc
  case h_2 => simp at hc
  rename_i x' y' hx hy
  simp only [Option.some.injEq, SC.seq.injEq] at hc
  obtain ⟨rfl, rfl⟩ := hc
  refine wp_seq (h cx hx B G a w hR _ fun e s1 a' w' G' hA hR' hq => ?_)
  cases e with
  | normal => exact hq cy hy B G' a' w' hR' Q' (hP.adv hA)
  | exit id => exact hP (.exit id) _ _ _ _ hA hR' hq
  | ret => exact hP .ret _ _ _ _ hA hR' hq
  | pan v => exact hP (.pan v) _ _ _ _ hA hR' hq
 all_goals first | (simp at hc; done) | ((repeat' split at hc) <;> simp at hc; done) | skip
theorem AWd.cond {o : Operand} {x y : SC} {b : Bool} (hb : ev s.T o = .bool b) (ht : b = true → AWd E n ds x Q s) (hf : b = false → AWd E n ds y Q s) : AWd E n ds (.cond o x y) Q s := by
 intro c hc B G a w hR Q' hP
 cases c <;> simp only [q7d, reduceCtorEq] at hc
 case cond co cx cy =>
  split at hc
  case h_2 => simp at hc
  rename_i x' y' hx hy
  simp only [Option.some.injEq, SC.cond.injEq] at hc
  obtain ⟨rfl, rfl, rfl⟩ := hc
  have hv := hR.ev co
  rw [hb] at hv
  have hv' : a.eval co = .bool b := by generalize a.eval co = cv at hv; cases hv; rfl
  exact wp_cond_split (a := Act.sh a ds) hv' (fun h1 => ht h1 cx hx B G a w hR Q' hP) (fun h1 => hf h1 cy hy B G a w hR Q' hP)
 all_goals first | (simp at hc; done) | ((repeat' split at hc) <;> simp at hc; done) | skip
theorem AWd.ops {l : List SOp} (h : q06 E false none Q l s) : AWd E n ds (.ops false l) Q s := by
 intro c hc B G a w hR Q' hP
 cases c <;> simp only [q7d, reduceCtorEq] at hc
 case region id ops d =>
  split at hc
  case isFalse => split at hc <;> simp at hc
  rename_i hb
  simp only [Bool.and_eq_true, Bool.or_eq_true, Bool.not_eq_true'] at hb
  simp only [Option.some.injEq, SC.ops.injEq] at hc
  obtain ⟨rfl, rfl⟩ := hc
  have hn := qf1 hb.1
  refine wp_region ?_
  have := q3j hn ops.toList 0 s G a w (by simp) hR hP h
  rw [List.range_eq_range']
  exact q9r _ a w (by simpa using this)
 all_goals first | (simp at hc; done) | ((repeat' split at hc) <;> simp at hc; done) | skip
theorem qo8 {c : Code} {l : List SOp} (hc : q7d n c = some (.ops false l)) : ∃ id ops, c = .region id ops false ∧ qmq n ops ∧ ops.toList.map (q4v ops) = l := by
 cases c <;> simp only [q7d, reduceCtorEq] at hc
 case region id ops d =>
  split at hc
  case isFalse => split at hc <;> simp at hc
  rename_i hb
  simp only [Bool.and_eq_true, Bool.or_eq_true, Bool.not_eq_true'] at hb
  simp only [Option.some.injEq, SC.ops.injEq] at hc
  obtain ⟨rfl, rfl⟩ := hc
  exact ⟨id, ops, rfl, qf1 hb.1, rfl⟩
 all_goals first | (simp at hc; done) | ((repeat' split at hc) <;> simp at hc; done) | skip
theorem q9v {c : Code} {x y : SC} (hc : q7d n c = some (.seq x y)) : ∃ cx cy, c = .seq cx cy ∧ q7d n cx = some x ∧ q7d n cy = some y := by
 cases c <;> simp only [q7d, reduceCtorEq] at hc
 case seq cx cy =>
  split at hc
  case h_2 => simp at hc
  rename_i x' y' hx hy
  simp only [Option.some.injEq, SC.seq.injEq] at hc
  obtain ⟨rfl, rfl⟩ := hc
  exact ⟨cx, cy, rfl, hx, hy⟩
 all_goals first | (simp at hc; done) | ((repeat' split at hc) <;> simp at hc; done) | skip
end
end
def q9z : List SOp := [zO 4 (.alloc 35)]
instance : Live q9z := ⟨[0,1]⟩
def q9y : List SOp := [zM 6 0,zO 7 (.build 163 #[(0,.tmp 6),(2,.const (.bool true))]),zO 8 (.box 163 (.tmp 7)),zO 5 (.alloc 140),⟨none,.store 140 (.tmp 5) (.tmp 8),none⟩]
instance : Live q9y := ⟨[0,1,4]⟩
def q9x : List SOp := [zO 9 (.makeFunc (.func 130) #[] #[.tmp 5,.tmp 4]),⟨none,.defer ⟨.value (.tmp 9),#[],#[]⟩,none⟩]
instance : Live q9x := ⟨[1,4,5]⟩
def qxo : List SOp := [zM 10 1,zO 11 (.binOp .neq 141 (.tmp 10) (.const .nilFunc) 141)]
instance : Live qxo := ⟨[1,4,5]⟩
def qxn : List SOp := [zM 12 1,zL 13 140 5,zO 14 (.call ⟨.value (.tmp 12),#[.tmp 13],#[140]⟩)]
instance : Live qxn := ⟨[1,4,5]⟩
def qxm : List SOp := [⟨none,.store 35 (.tmp 4) (.const (.int .i64 0)),none⟩]
instance : Live qxm := ⟨[4]⟩
def qg6 : SC :=
 (.seq (.ops false q9z) (.seq (.ops false q9y) (.seq (.ops false q9x) (.seq (.seq (.ops false qxo) (.cond (.tmp 11) (.ops false qxn) .skip)) (.seq (.ops false qxm) .ret)))))
theorem it_k102 : FnIs Tryz.prog 102 15 [.cell 4 35] qg6 := ⟨Tryz.f102, _, Tryz.func102, rfl, rfl, rfl, rfl, by kernel_rfl⟩

def qe5 : List SOp := [zO 6 (.call ⟨.builtin .recover,#[],#[]⟩),zG 2 6]
instance : Live qe5 := ⟨[0,1]⟩
def quy : List SOp := [zL 7 140 0,zO 8 (.nilCheck (.tmp 7)),zF 9 163 8 1,zL 10 3 9,zL 11 140 0,zO 12 (.nilCheck (.tmp 11)),zF 13 163 12 0,zL 14 28 13,zO 15 (.call ⟨.builtin .len,#[.tmp 14],#[28]⟩),zO 16 (.binOp .lss 3 (.tmp 10) (.tmp 15) 3),zG 3 16]
instance : Live quy := ⟨[0,1,2]⟩
def qux : List SOp := [zL 17 140 0,zL 18 140 0,zO 19 (.nilCheck (.tmp 17)),zF 20 163 19 2,⟨none,.store 4 (.tmp 20) (.const (.bool false)),none⟩,zO 21 (.nilCheck (.tmp 18)),zF 22 163 21 0,⟨none,.store 28 (.tmp 22) (.const (.slice none 0 0)),none⟩]
instance : Live qux := ⟨[0,1,2,3]⟩
def quw : List SOp := [zM 24 2,zO 25 (.typeAssert (.tmp 24) 20 165 true),zM 23 25,zX 26 23 0,zX 27 23 1,zO 4 (.alloc 165),⟨none,.store 165 (.tmp 4) (.tmp 26),none⟩,zG 5 27]
instance : Live quw := ⟨[0,1,2,3]⟩
def quv : List SOp := [zM 28 5,zM 29 28,⟨some 30,.fieldAddr 165 (.tmp 4) 0,some ((some 29),true)⟩,⟨some 31,.load 140 (.tmp 30),some ((some 29),true)⟩,⟨some 32,.load 140 (.tmp 0),some ((some 29),true)⟩,⟨some 33,.binOp .neq 140 (.tmp 31) (.tmp 32) 140,some ((some 29),true)⟩,zO 34 (.pick (.tmp 29) (.tmp 33) (.const (.bool false))),zM 35 34,⟨some 36,.fieldAddr 165 (.tmp 4) 0,some ((some 35),true)⟩,⟨some 37,.load 140 (.tmp 36),some ((some 35),true)⟩,⟨some 38,.nilCheck (.tmp 37),some ((some 35),true)⟩,⟨some 39,.fieldAddr 163 (.tmp 38) 2,some ((some 35),true)⟩,⟨some 40,.load 4 (.tmp 39),some ((some 35),true)⟩,zO 41 (.pick (.tmp 35) (.tmp 40) (.const (.bool false)))]
instance : Live quv := ⟨[0,1,2,3,4,5]⟩
def quu : List SOp := [zL 42 165 4,zO 43 (.makeInterface 165 (.tmp 42)),⟨none,.panic (.tmp 43),none⟩]
instance : Live quu := ⟨[0,1,2,3,4]⟩
def qut : List SOp := [zL 45 140 0,zO 46 (.nilCheck (.tmp 45)),zF 47 163 46 3,zL 48 35 47,zO 49 (.binOp .neq 35 (.tmp 48) (.const (.int .i64 0)) 35),zG 44 49]
instance : Live qut := ⟨[0,1,2,3]⟩
def qus : List SOp := [zL 50 140 0,zO 51 (.nilCheck (.tmp 50)),zF 52 163 51 3,zL 53 35 52,⟨none,.store 35 (.tmp 1) (.tmp 53),none⟩]
instance : Live qus := ⟨[0,1]⟩
def qur : List SOp := [zM 55 2,zO 56 (.binOp .neq 20 (.tmp 55) (.const .nilIface) 20),zG 54 56]
instance : Live qur := ⟨[1,2,3]⟩
def qhk : List SOp := [⟨none,.store 35 (.tmp 1) (.const (.int .i64 8)),none⟩]
instance : Live qhk := ⟨[1]⟩
def qhj : List SOp := [zM 58 3,zG 57 58]
instance : Live qhj := ⟨[1,3]⟩
def qhi : List SOp := [⟨none,.store 35 (.tmp 1) (.const (.int .i64 52)),none⟩]
instance : Live qhi := ⟨[1]⟩
def qai : SC :=
 (.seq (.ops false qe5) (.seq (.ops true quy) (.seq (.ops false qux) (.seq (.seq (.ops false quw) (.seq (.ops false quv) (.cond (.tmp 41) (.ops false quu) .skip))) (.block 0 (.seq (.ops false qut) (.cond (.tmp 44) (.ops false qus) (.seq (.ops false qur) (.cond (.tmp 54) (.ops false qhk) (.seq (.ops false qhj) (.cond (.tmp 57) (.ops false qhi) .skip)))))))))))
theorem zaw : FnIs Tryz.prog 130 59 [] qai := ⟨Tryz.f130, _, Tryz.func130, rfl, rfl, rfl, rfl, by kernel_rfl⟩

end Go.Proofs.YtkionmommpgcmaaGreat.Avm
