/- Part 1 of the proof: lemmas. -/
import Derived.WalkKit
import Derived.Laws.StructEq
import Derived.Lib.ConvBytes
import Derived.MapKept
import Derived.WideKeyRuns
set_option maxRecDepth 100000
set_option maxHeartbeats 4000000
set_option linter.unusedVariables false
set_option linter.unusedSimpArgs false
set_option linter.unusedSectionVars false
set_option linter.defProp false
namespace Go.Proofs.YtkionmommpgcmaaGreat.Avm
open Go.Proofs
theorem aI {a b : Prop} (x : a) (y : b) : a ∧ b := ⟨x, y⟩
inductive AVal where
 | undef
 | int (k : IntKind) (n : Int)
 | bool (b : Bool)
 | str (s : ByteArray)
 | nil
 | sl (sz : Nat) (xs : List AVal)
 | agg (cs : List AVal)
 | tup (vs : List AVal)
 | ptr (k off : Nat)
 | nilptr
 | eptr (k e sz i off : Nat)
 | sptr (cs : List AVal)
 | os (k e : Nat)
 | fn (f : FuncId) (caps : List AVal)
 | nilfn
 | niliface
 | iface (t : TypeId) (v : AVal)
 | own (sz : Nat) (xs : List AVal)
 | hole
 | ref (cs : List AVal)
 | vw (k e sz i n : Nat)
 | mp (k : Nat)
 deriving Inhabited
def AVal.cells : AVal → List AVal
 | .agg cs => cs
 | v => [v]
def AVal.one : AVal → Bool
 | .undef | .agg _ | .tup _ | .own _ _ | .hole | .ref _ => false
 | _ => true
def flat (xs : List AVal) : List AVal := xs.flatMap AVal.cells
theorem q2l (x : AVal) (xs : List AVal) : flat (x :: xs) = x.cells ++ flat xs := rfl
theorem q3e (xs ys : List AVal) : flat (xs ++ ys) = flat xs ++ flat ys := by simp [flat]
theorem q0q {sz : Nat} {xs : List AVal} (h : ∀ x ∈ xs, x.cells.length = sz) : (flat xs).length = xs.length * sz := by
 induction xs with
 | nil => simp [flat]
 | cons x xs ih =>
  rw [q2l, List.length_append, h x (by simp), ih fun y hy => h y (by simp [hy]), List.length_cons, Nat.succ_mul]
  omega
theorem q9d {sz : Nat} {xs : List AVal} (h : ∀ x ∈ xs, x.cells.length = sz) {i j : Nat} {x : AVal} (hi : xs[i]? = some x) (hj : j < sz) :
 (flat xs)[i * sz + j]? = x.cells[j]? := by
 induction xs generalizing i with
 | nil => simp at hi
 | cons y xs ih =>
  rw [q2l]
  have hy : y.cells.length = sz := h y (by simp)
  cases i with
  | zero =>
   simp only [List.getElem?_cons_zero, Option.some.injEq] at hi
   subst hi
   rw [Nat.zero_mul, Nat.zero_add, List.getElem?_append_left (by omega)]
  | succ i =>
   simp only [List.getElem?_cons_succ] at hi
   rw [List.getElem?_append_right (by rw [hy, Nat.succ_mul]; omega), hy]
   have e : (i + 1) * sz + j - sz = i * sz + j := by rw [Nat.succ_mul]; omega
   rw [e]
   exact ih (fun z hz => h z (by simp [hz])) hi
inductive ABlk where
 | cells (cs : List AVal)
 | arr (e sz : Nat) (xs : List AVal)
 | dead
 | map (es : List (AVal × AVal))
 | note (x : AVal) (v : Value)
 deriving Inhabited
abbrev Mem := Nat → Option ABlk
abbrev q12 := Nat → AVal
def upd {α : Type} (f : Nat → α) (k : Nat) (v : α) : Nat → α := fun j => if j = k then v else f j
theorem q00 {α : Type} (f : Nat → α) (k : Nat) (v : α) : upd f k v k = v := by simp [upd]
theorem q0h {α : Type} (f : Nat → α) {k j : Nat} (v : α) (h : j ≠ k) : upd f k v j = f j := by simp [upd, h]
theorem q7w {α : Type} (f : Nat → α) {k j : Nat} (v u : α) (h : j ≠ k) : upd (upd f k v) j u = upd (upd f j u) k v := by
 funext i; simp only [upd]; by_cases h1 : i = j <;> by_cases h2 : i = k <;> simp_all
def Dm (M : Mem) (k e : Nat) : Prop :=
 match M k with
 | none => False
 | some (.arr e0 _ _) => e ≤ e0
 | some _ => True
theorem q5w {M : Mem} {k e : Nat} (h : M k = none) : ¬ Dm M k e := by simp [Dm, h]
theorem qax {M : Mem} {k e : Nat} {cs : List AVal} (h : M k = some (.cells cs)) : Dm M k e := by simp [Dm, h]
theorem Dm_arr {M : Mem} {k e e0 sz : Nat} {xs : List AVal} (h : M k = some (.arr e0 sz xs)) (he : e ≤ e0) : Dm M k e := by simp [Dm, h, he]
def qmm (b : Option ABlk) (b' : ABlk) : Prop :=
 match b, b' with
 | some (.arr e _ _), .arr e' _ _ => e ≤ e'
 | some (.cells _), .arr _ _ _ => False
 | some .dead, .arr _ _ _ => False
 | some (.map _), .arr _ _ _ => False
 | some (.note _ _), .arr _ _ _ => False
 | _, _ => True
theorem q35 {M : Mem} {k : Nat} {b : ABlk} (hs : qmm (M k) b) {j e : Nat} (h : Dm M j e) : Dm (upd M k (some b)) j e := by
 by_cases hj : j = k
 ·subst hj
  simp only [Dm, q00] at *
  revert hs h
  cases hm : M j with
  | none => simp
  | some x => cases x <;> cases b <;> simp [qmm] <;> omega
 ·simpa [Dm, q0h _ _ hj] using h
inductive OKey where
 | box (k : Nat)
 | arr (k : Nat)
 | cell (k i : Nat)
 deriving DecidableEq
structure Gh where
 β : Nat → Nat
 hd : Nat → Nat → Value
 ow : Nat → Option OKey
 hd1 : ∀ k e, (hd k e).oneCell' = true
inductive VR (D : Nat → Nat → Prop) (G : Gh) (B : Nat → Prop) (w : World) : AVal → Value → Prop where
 | undef (v : Value) : VR D G B w .undef v
 | int (k : IntKind) (n : Int) : VR D G B w (.int k n) (.int k n)
 | bool (b : Bool) : VR D G B w (.bool b) (.bool b)
 | str (s : ByteArray) : VR D G B w (.str s) (.string s)
 | nil : VR D G B w .nil (.slice none 0 0)
 | slnil (sz : Nat) : VR D G B w (.sl sz []) (.slice none 0 0)
 | slemp (sz : Nat) (a : Addr) (cap : Nat) : VR D G B w (.sl sz []) (.slice (some a) 0 cap)
 | sl (sz : Nat) (xs : List AVal) (b off cap : Nat) (f : Nat → Value) (hcap : xs.length ≤ cap)
  (hB : flat xs ≠ [] → ¬ B b ∧ G.ow b = none) (hone : ∀ x ∈ flat xs, x.one = true) (hsz : ∀ x ∈ xs, x.cells.length = sz)
  (hc : ∀ (n : Nat) (x : AVal), (flat xs)[n]? = some x → w.cell? ⟨b, off + n, none⟩ = some (f n))
  (hv : ∀ (n : Nat) (x : AVal), (flat xs)[n]? = some x → VR D G B w x (f n)) :
  VR D G B w (.sl sz xs) (.slice (some ⟨b, off, none⟩) xs.length cap)
 | agg (cs : List AVal) (vs : Array Value) (hl : vs.size = cs.length)
  (h : ∀ (n : Nat) (x : AVal) (v : Value), cs[n]? = some x → vs[n]? = some v → VR D G B w x v) : VR D G B w (.agg cs) (.agg vs)
 | tup (cs : List AVal) (vs : Array Value) (hl : vs.size = cs.length)
  (h : ∀ (n : Nat) (x : AVal) (v : Value), cs[n]? = some x → vs[n]? = some v → VR D G B w x v) : VR D G B w (.tup cs) (.tuple vs)
 | ptr (k off : Nat) (hD : D k 0) : VR D G B w (.ptr k off) (.pointer (some ⟨G.β k, off, none⟩))
 | mp (k : Nat) (hD : D k 0) : VR D G B w (.mp k) (.map (some (G.β k)))
 | nilptr : VR D G B w .nilptr (.pointer none)
 | eptr (k e sz i off b o len cap : Nat) (hD : D k e) (hh : G.hd k e = .slice (some ⟨b, o, none⟩) len cap) :
  VR D G B w (.eptr k e sz i off) (.pointer (some ⟨b, o + i * sz + off, none⟩))
 | vw (k e sz i n b o len cap : Nat) (hD : D k e) (hh : G.hd k e = .slice (some ⟨b, o, none⟩) len cap) (hn : i + n ≤ len ∧ len ≤ cap) :
  VR D G B w (.vw k e sz i n) (.slice (some ⟨b, o + i * sz, none⟩) n (cap - i))
 | sptr (cs : List AVal) (b off : Nat) (f : Nat → Value) (hB : cs ≠ [] → ¬ B b ∧ G.ow b = none)
  (hc : ∀ (n : Nat) (x : AVal), cs[n]? = some x → w.cell? ⟨b, off + n, none⟩ = some (f n))
  (hv : ∀ (n : Nat) (x : AVal), cs[n]? = some x → VR D G B w x (f n)) : VR D G B w (.sptr cs) (.pointer (some ⟨b, off, none⟩))
 | os (k e : Nat) (hD : D k e) (v : Value) (hv : v = G.hd k e) : VR D G B w (.os k e) v
 | fn (f : FuncId) (cs : List AVal) (vs : Array Value) (hl : vs.size = cs.length)
  (h : ∀ (n : Nat) (x : AVal) (v : Value), cs[n]? = some x → vs[n]? = some v → VR D G B w x v) : VR D G B w (.fn f cs) (.func (.func f) #[] vs)
 | nilfn : VR D G B w .nilfn .nilFunc
 | niliface : VR D G B w .niliface .nilIface
 | iface (t : TypeId) (x : AVal) (v : Value) (h : VR D G B w x v) : VR D G B w (.iface t x) (.iface t v)
theorem qg2 {w : World} {a : Addr} {v : Value} (h : w.cell? a = some v) : a.block < w.heap.size := by
 unfold World.cell? at h
 rcases Nat.lt_or_ge a.block w.heap.size with h' | h'
 ·exact h'
 ·rw [Array.getElem?_eq_none h'] at h; simp at h
theorem q2u {w w' : World} {a : Addr} (h : w'.heap[a.block]? = w.heap[a.block]?) : w'.cell? a = w.cell? a := by
 unfold World.cell?; rw [h]
theorem VR.mono {D D' : Nat → Nat → Prop} {G G' : Gh} {B B' : Nat → Prop} {w w' : World} {x : AVal} {v : Value}
 (hD : ∀ k e, D k e → D' k e) (hG : ∀ k e, D k e → G'.β k = G.β k ∧ G'.hd k e = G.hd k e)
 (hw : ∀ b, b < w.heap.size → ¬ B b → G.ow b = none → w'.heap[b]? = w.heap[b]? ∧ ¬ B' b ∧ G'.ow b = none)
 (h : VR D G B w x v) : VR D' G' B' w' x v := by
 induction h with
 | undef v => exact .undef v
 | int k n => exact .int k n
 | bool b => exact .bool b
 | str s => exact .str s
 | nil => exact .nil
 | slnil sz => exact .slnil sz
 | slemp sz a cap => exact .slemp sz a cap
 | sl sz xs b off cap f hcap hB hone hsz hc hv ih =>
  by_cases hne : flat xs = []
  ·exact .sl sz xs b off cap f hcap (fun h => absurd hne h) hone hsz (fun n x hx => by simp [hne] at hx) (fun n x hx => by simp [hne] at hx)
  ·obtain ⟨h1, h2⟩ := hB hne
   have h0 : ∃ x, (flat xs)[0]? = some x := by
    cases hf : flat xs with
    | nil => exact absurd hf hne
    | cons y ys => exact ⟨y, rfl⟩
   obtain ⟨x0, hx0⟩ := h0
   have hlt : b < w.heap.size := qg2 (hc 0 x0 hx0)
   obtain ⟨e1, e2, e3⟩ := hw b hlt h1 h2
   exact .sl sz xs b off cap f hcap (fun _ => ⟨e2, e3⟩) hone hsz (fun n x hx => by rw [q2u (w := w) e1]; exact hc n x hx) (fun n x hx => ih n x hx)
 | agg cs vs hl h ih => exact .agg cs vs hl fun n x v h1 h2 => ih n x v h1 h2
 | tup cs vs hl h ih => exact .tup cs vs hl fun n x v h1 h2 => ih n x v h1 h2
 | ptr k off h => rw [← (hG k 0 h).1]; exact .ptr k off (hD k 0 h)
 | mp k h => rw [← (hG k 0 h).1]; exact .mp k (hD k 0 h)
 | nilptr => exact .nilptr
 | eptr k e sz i off b o len cap h hh => exact .eptr k e sz i off b o len cap (hD k e h) (by rw [(hG k e h).2]; exact hh)
 | vw k e sz i n b o len cap h hh hn => exact .vw k e sz i n b o len cap (hD k e h) (by rw [(hG k e h).2]; exact hh) hn
 | sptr cs b off f hB hc hv ih =>
  by_cases hne : cs = []
  ·exact .sptr cs b off f (fun h => absurd hne h) (fun n x hx => by simp [hne] at hx) (fun n x hx => by simp [hne] at hx)
  ·obtain ⟨h1, h2⟩ := hB hne
   have h0 : ∃ x, cs[0]? = some x := by
    cases hf : cs with
    | nil => exact absurd hf hne
    | cons y ys => exact ⟨y, rfl⟩
   obtain ⟨x0, hx0⟩ := h0
   have hlt : b < w.heap.size := qg2 (hc 0 x0 hx0)
   obtain ⟨e1, e2, e3⟩ := hw b hlt h1 h2
   exact .sptr cs b off f (fun _ => ⟨e2, e3⟩) (fun n x hx => by rw [q2u (w := w) e1]; exact hc n x hx) (fun n x hx => ih n x hx)
 | os k e h v hv => exact .os k e (hD k e h) v (by rw [hv, (hG k e h).2])
 | fn f cs vs hl h ih => exact .fn f cs vs hl fun n x v h1 h2 => ih n x v h1 h2
 | nilfn => exact .nilfn
 | niliface => exact .niliface
 | iface t x v h ih => exact .iface t x v ih
theorem VR.oneCell {D : Nat → Nat → Prop} {G : Gh} {B : Nat → Prop} {w : World} {x : AVal} {u : Value} (h : VR D G B w x u) (h1 : x.one = true) : u.oneCell' = true := by
 cases h <;> first | rfl | (simp [AVal.one] at h1; done) | (rename_i hv; rw [hv]; exact G.hd1 _ _)
def OwnAt (D : Nat → Nat → Prop) (G : Gh) (B : Nat → Prop) (w : World) (key : OKey) (sz : Nat) (xs : List AVal) (v : Value) : Prop :=
 (v = .slice none 0 0 ∧ xs = []) ∨
 ∃ b off cap c el, v = .slice (some ⟨b, off, none⟩) xs.length cap ∧ xs.length ≤ cap ∧ G.ow b = some key ∧ ¬ B b ∧
  w.heap[b]? = some (.cells c el (0, 0)) ∧ off + cap * sz ≤ c.size ∧ (∀ x ∈ xs, x.cells.length = sz) ∧ (∀ x ∈ flat xs, x.one = true) ∧
  ∀ (n : Nat) (x : AVal), (flat xs)[n]? = some x → ∃ u, c[off + n]? = some u ∧ VR D G B w x u
def CellRel (D : Nat → Nat → Prop) (G : Gh) (B : Nat → Prop) (w : World) (k i : Nat) : AVal → Value → Prop
 | .own sz xs, u => OwnAt D G B w (.cell k i) sz xs u
 | .hole, _ => True
 | x, u => VR D G B w x u
def BlkRel (D : Nat → Nat → Prop) (G : Gh) (B : Nat → Prop) (w : World) (k : Nat) : ABlk → Prop
 | .cells cs => ∃ c el, G.ow (G.β k) = some (.box k) ∧ ¬ B (G.β k) ∧ w.heap[G.β k]? = some (.cells c el (0, 0)) ∧ c.size = cs.length ∧
  ∀ (i : Nat) (x : AVal), cs[i]? = some x → ∃ u, c[i]? = some u ∧ CellRel D G B w k i x u
 | .arr e sz xs => OwnAt D G B w (.arr k) sz xs (G.hd k e)
 | .dead => True
 | .map es => ∃ es' clock, G.ow (G.β k) = some (.box k) ∧ ¬ B (G.β k) ∧ w.heap[G.β k]? = some (.map es' clock) ∧ es'.size = es.length ∧
  ∀ (i : Nat) (p : AVal × AVal), es[i]? = some p → ∃ q, es'[i]? = some q ∧ VR D G B w p.1 q.key ∧ VR D G B w p.2 q.val
 | .note x v => VR D G B w x v
structure AS where
 T : q12
 M : Mem
structure Rel (n : Nat) (B : Nat → Prop) (G : Gh) (s : AS) (a : Act) (w : World) : Prop where
 size : a.tmps.size = n
 defers : a.defers = []
 temps : ∀ t, VR (Dm s.M) G B w (s.T t) (a.tmps.getD t undef)
 mem : ∀ k blk, s.M k = some blk → BlkRel (Dm s.M) G B w k blk
 fr : ∀ b, B b → b < w.heap.size ∧ G.ow b = none
 ol : ∀ b, G.ow b ≠ none → b < w.heap.size
structure Ext (O : Nat → Prop) (w w' : World) : Prop where
 os : w'.os = w.os
 tape : w'.tape = w.tape
 output : w'.output = w.output
 size : w.heap.size ≤ w'.heap.size
 block : ∀ b, b < w.heap.size → ¬ O b → w'.heap[b]? = w.heap[b]?
theorem Ext.refl (O : Nat → Prop) (w : World) : Ext O w w := ⟨rfl, rfl, rfl, Nat.le_refl _, fun _ _ _ => rfl⟩
theorem Ext.trans {O : Nat → Prop} {w w1 w2 : World} (h : Ext O w w1) (h' : Ext O w1 w2) : Ext O w w2 :=
 ⟨h'.os.trans h.os, h'.tape.trans h.tape, h'.output.trans h.output, Nat.le_trans h.size h'.size,
  fun b hb ho => (h'.block b (Nat.lt_of_lt_of_le hb h.size) ho).trans (h.block b hb ho)⟩
theorem Ext.mono {O O' : Nat → Prop} {w w' : World} (h : Ext O w w') (ho : ∀ b, b < w.heap.size → O b → O' b) : Ext O' w w' :=
 ⟨h.os, h.tape, h.output, h.size, fun b hb hn => h.block b hb fun hb' => hn (ho b hb hb')⟩
theorem Ext.drew (O : Nat → Prop) (w : World) (n : Nat) : Ext O w { w with drawn := n } := ⟨rfl, rfl, rfl, Nat.le_refl _, fun _ _ _ => rfl⟩
theorem OwnAt.mono {D D' : Nat → Nat → Prop} {G G' : Gh} {B B' : Nat → Prop} {w w' : World} {key : OKey} {sz : Nat} {xs : List AVal} {v : Value}
 (hD : ∀ k e, D k e → D' k e) (hG : ∀ k e, D k e → G'.β k = G.β k ∧ G'.hd k e = G.hd k e)
 (hw : ∀ b, b < w.heap.size → ¬ B b → G.ow b = none → w'.heap[b]? = w.heap[b]? ∧ ¬ B' b ∧ G'.ow b = none)
 (hk : ∀ b, b < w.heap.size → ¬ B b → G.ow b = some key → w'.heap[b]? = w.heap[b]? ∧ ¬ B' b ∧ G'.ow b = some key)
 (h : OwnAt D G B w key sz xs v) : OwnAt D' G' B' w' key sz xs v := by
 rcases h with h | ⟨b, off, cap, c, el, h1, h2, h3, h4, h5, h6, h7, h7', h8⟩
 ·exact .inl h
 ·have hlt : b < w.heap.size := by
   rcases Nat.lt_or_ge b w.heap.size with h' | h'
   ·exact h'
   ·rw [Array.getElem?_eq_none h'] at h5; cases h5
  obtain ⟨e1, e2, e3⟩ := hk b hlt h4 h3
  exact .inr ⟨b, off, cap, c, el, h1, h2, e3, e2, e1.trans h5, h6, h7, h7', fun n x hx => let ⟨u, hu, hr⟩ := h8 n x hx; ⟨u, hu, hr.mono hD hG hw⟩⟩
theorem CellRel.of_VR {D : Nat → Nat → Prop} {G : Gh} {B : Nat → Prop} {w : World} {k i : Nat} {x : AVal} {u : Value} (h : VR D G B w x u) : CellRel D G B w k i x u := by
 cases h <;> simp only [CellRel] <;> constructor <;> assumption

structure Adv (G : Gh) (w : World) (G' : Gh) (w' : World) : Prop where
 os : w'.os = w.os ∧ w.drawn ≤ w'.drawn
 tape : w'.tape = w.tape
 output : w'.output = w.output
 size : w.heap.size ≤ w'.heap.size
 keep : ∀ b, b < w.heap.size → G.ow b = none → w'.heap[b]? = w.heap[b]? ∧ G'.ow b = none
theorem Adv.refl (G : Gh) (w : World) : Adv G w G w := ⟨⟨rfl, Nat.le_refl _⟩, rfl, rfl, Nat.le_refl _, fun _ _ h => ⟨rfl, h⟩⟩
theorem Adv.trans {G G1 G2 : Gh} {w w1 w2 : World} (h : Adv G w G1 w1) (h' : Adv G1 w1 G2 w2) : Adv G w G2 w2 :=
 ⟨⟨h'.os.1.trans h.os.1, Nat.le_trans h.os.2 h'.os.2⟩, h'.tape.trans h.tape, h'.output.trans h.output, Nat.le_trans h.size h'.size, fun b hb ho =>
  let ⟨e1, o1⟩ := h.keep b hb ho
  let ⟨e2, o2⟩ := h'.keep b (Nat.lt_of_lt_of_le hb h.size) o1
  ⟨e2.trans e1, o2⟩⟩
theorem Adv.drawn (G : Gh) (w : World) (n : Nat) : Adv G w G { w with drawn := w.drawn + n } := ⟨⟨rfl, Nat.le_add_right _ _⟩, rfl, rfl, Nat.le_refl _, fun _ _ h => ⟨rfl, h⟩⟩
def OKey.of : OKey → Nat
 | .box k => k
 | .arr k => k
 | .cell k _ => k
def LiveB (D : Nat → Nat → Prop) (k : Nat) : ABlk → Prop
 | .cells _ => D k 0
 | .arr e _ _ => D k e
 | .dead => True
 | .map _ => D k 0
 | .note _ _ => True
theorem BlkRel.mono {D D' : Nat → Nat → Prop} {G G' : Gh} {B B' : Nat → Prop} {w w' : World} {k : Nat} {blk : ABlk}
 (hD : ∀ k e, D k e → D' k e) (hG : ∀ k e, D k e → G'.β k = G.β k ∧ G'.hd k e = G.hd k e)
 (hw : ∀ b, b < w.heap.size → ¬ B b → G.ow b = none → w'.heap[b]? = w.heap[b]? ∧ ¬ B' b ∧ G'.ow b = none)
 (hk : ∀ b key, key.of = k → b < w.heap.size → ¬ B b → G.ow b = some key → w'.heap[b]? = w.heap[b]? ∧ ¬ B' b ∧ G'.ow b = some key)
 (hl : LiveB D k blk)
 (h : BlkRel D G B w k blk) : BlkRel D' G' B' w' k blk := by
 cases blk with
 | cells cs =>
  obtain ⟨c, el, h1, h2, h3, h4, h5⟩ := h
  have hb := (hG k 0 hl).1
  have hlt : G.β k < w.heap.size := by
   rcases Nat.lt_or_ge (G.β k) w.heap.size with h' | h'
   ·exact h'
   ·rw [Array.getElem?_eq_none h'] at h3; cases h3
  obtain ⟨e1, e2, e3⟩ := hk _ _ rfl hlt h2 h1
  refine ⟨c, el, by rw [hb]; exact e3, by rw [hb]; exact e2, by rw [hb, e1]; exact h3, h4, fun i x hx => ?_⟩
  obtain ⟨u, hu, hr⟩ := h5 i x hx
  refine ⟨u, hu, ?_⟩
  cases x with
  | own sz xs => exact OwnAt.mono hD hG hw (fun b hb1 hb2 hb3 => hk b _ rfl hb1 hb2 hb3) hr
  | hole => trivial
  | _ => exact VR.mono hD hG hw hr
 | arr e sz xs =>
  have hh := (hG k e hl).2
  simp only [BlkRel] at h ⊢
  rw [hh]
  exact OwnAt.mono hD hG hw (fun b hb1 hb2 hb3 => hk b _ rfl hb1 hb2 hb3) h
 | dead => trivial
 | map es =>
  obtain ⟨es', clock, h1, h2, h3, h4, h5⟩ := h
  have hb := (hG k 0 hl).1
  have hlt : G.β k < w.heap.size := by
   rcases Nat.lt_or_ge (G.β k) w.heap.size with h' | h'
   ·exact h'
   ·rw [Array.getElem?_eq_none h'] at h3; cases h3
  obtain ⟨e1, e2, e3⟩ := hk _ _ rfl hlt h2 h1
  refine ⟨es', clock, by rw [hb]; exact e3, by rw [hb]; exact e2, by rw [hb, e1]; exact h3, h4, fun i p hp => ?_⟩
  obtain ⟨q, hq, r1, r2⟩ := h5 i p hp
  exact ⟨q, hq, VR.mono hD hG hw r1, VR.mono hD hG hw r2⟩
 | note x v => exact VR.mono hD hG hw h
theorem q90 {M : Mem} {k : Nat} {blk : ABlk} (h : M k = some blk) : LiveB (Dm M) k blk := by
 cases blk <;> simp [LiveB, Dm, h]
theorem Rel.update {n : Nat} {B : Nat → Prop} {G G' : Gh} {s : AS} {a : Act} {w w' : World} (h : Rel n B G s a w) (hA : Adv G w G' w') (k : Nat) (blk : ABlk)
 (hs : qmm (s.M k) blk) (hG : ∀ j e, Dm s.M j e → G'.β j = G.β j ∧ G'.hd j e = G.hd j e)
 (ho : ∀ b key, b < w.heap.size → ¬ B b → G.ow b = some key → key.of ≠ k → w'.heap[b]? = w.heap[b]? ∧ G'.ow b = some key)
 (hl : ∀ b, G'.ow b ≠ none → b < w'.heap.size)
 (hb : BlkRel (Dm (upd s.M k (some blk))) G' B w' k blk) : Rel n B G' ⟨s.T, upd s.M k (some blk)⟩ a w' := by
 have hw : ∀ b, b < w.heap.size → ¬ B b → G.ow b = none → w'.heap[b]? = w.heap[b]? ∧ ¬ B b ∧ G'.ow b = none := fun b hb hn ho => ⟨(hA.keep b hb ho).1, hn, (hA.keep b hb ho).2⟩
 refine ⟨h.size, h.defers, fun t => (h.temps t).mono (fun j e => q35 hs) hG hw, fun j blk' hj => ?_, fun b hb' => ?_, hl⟩
 ·by_cases hjk : j = k
  ·subst hjk
   simp only [q00, Option.some.injEq] at hj
   subst hj
   exact hb
  ·simp only [q0h _ _ hjk] at hj
   exact (h.mem j blk' hj).mono (fun j e => q35 hs) hG hw
    (fun b key hkey h1 h2 h3 => by have := ho b key h1 h2 h3 (by rw [hkey]; exact hjk); exact ⟨this.1, h2, this.2⟩) (q90 hj)
 ·obtain ⟨h1, h2⟩ := h.fr b hb'
  exact ⟨Nat.lt_of_lt_of_le h1 hA.size, (hA.keep b h1 h2).2⟩
theorem Rel.adv {n : Nat} {B : Nat → Prop} {G : Gh} {s : AS} {a : Act} {w w' : World} (h : Rel n B G s a w)
 (size : w.heap.size ≤ w'.heap.size) (keep : ∀ b, b < w.heap.size → w'.heap[b]? = w.heap[b]?) : Rel n B G s a w' := by
 have hw : ∀ b, b < w.heap.size → ¬ B b → G.ow b = none → w'.heap[b]? = w.heap[b]? ∧ ¬ B b ∧ G.ow b = none := fun b hb hn ho => ⟨keep b hb, hn, ho⟩
 refine ⟨h.size, h.defers, fun t => (h.temps t).mono (fun _ _ h => h) (fun _ _ _ => ⟨rfl, rfl⟩) hw, fun j blk' hj => ?_, fun b hb' => ?_, fun b hb' => ?_⟩
 ·exact (h.mem j blk' hj).mono (fun _ _ h => h) (fun _ _ _ => ⟨rfl, rfl⟩) hw (fun b key hkey h1 h2 h3 => ⟨keep b h1, h2, h3⟩) (q90 hj)
 ·obtain ⟨h1, h2⟩ := h.fr b hb'
  exact ⟨Nat.lt_of_lt_of_le h1 size, h2⟩
 ·exact Nat.lt_of_lt_of_le (h.ol b hb') size
theorem Rel.drawn {n : Nat} {B : Nat → Prop} {G : Gh} {s : AS} {a : Act} {w : World} (h : Rel n B G s a w) (d : Nat) : Rel n B G s a { w with drawn := d } :=
 h.adv (Nat.le_refl _) (fun _ _ => rfl)
def AS.put (s : AS) (d : Option Tmp) (v : AVal) : AS :=
 match d with
 | some d => ⟨upd s.T d v, s.M⟩
 | none => s
theorem Rel.put {n : Nat} {B : Nat → Prop} {G : Gh} {s : AS} {a : Act} {w : World} (h : Rel n B G s a w) {d : Option Tmp} {v : AVal} {v' : Value} (hd : ∀ t, d = some t → t < n)
 (hv : VR (Dm s.M) G B w v v') : Rel n B G (s.put d v) (a.put d v') w := by
 cases d with
 | none => exact h
 | some t =>
  refine ⟨by simp [Act.put, h.size], h.defers, fun u => ?_, h.mem, h.fr, h.ol⟩
  have ht := hd t rfl
  simp only [AS.put, Act.put]
  by_cases hu : u = t
  ·subst hu
   rw [q00]
   simpa [Array.getD_eq_getD_getElem?, h.size, ht] using hv
  ·rw [q0h _ _ hu]
   have := h.temps u
   simpa [Array.getD_eq_getD_getElem?, Array.getElem?_setIfInBounds_ne (Ne.symm hu)] using this
theorem Rel.eval {n : Nat} {B : Nat → Prop} {G : Gh} {s : AS} {a : Act} {w : World} (h : Rel n B G s a w) (t : Nat) : VR (Dm s.M) G B w (s.T t) (a.eval (.tmp t)) := by
 simpa [Act.eval] using h.temps t
def cst : Value → AVal
 | .int k n => .int k n
 | .bool b => .bool b
 | .string s => .str s
 | .slice none 0 0 => .nil
 | .pointer none => .nilptr
 | .nilFunc => .nilfn
 | .nilIface => .niliface
 | _ => .undef
theorem z17 {D : Nat → Nat → Prop} {G : Gh} {B : Nat → Prop} {w : World} (v : Value) : VR D G B w (cst v) v := by
 unfold cst
 split <;> constructor
def ev (T : q12) : Operand → AVal
 | .tmp t => T t
 | .const v => cst v
 | .func f => .fn f []
 | .global _ => .undef
theorem Rel.ev {n : Nat} {B : Nat → Prop} {G : Gh} {s : AS} {a : Act} {w : World} (h : Rel n B G s a w) (x : Operand) : VR (Dm s.M) G B w (Avm.ev s.T x) (a.eval x) := by
 cases x with
 | tmp t => exact h.eval t
 | const v => exact z17 v
 | global g => exact .undef _
 | func f => exact .fn f [] #[] rfl (fun n x v hx _ => by simp at hx)
def ap (M : Mem) : List (Nat × ABlk) → Mem
 | [] => M
 | (k, b) :: r => ap (upd M k (some b)) r

section
inductive TD where
 | bool
 | int (k : IntKind)
 | str
 | slice (e : TypeId)
 | arr (n : Nat) (e : TypeId)
 | struct (fs : List (TypeId × Nat))
 | ptr (e : TypeId)
 | iface
 | func
 | map (k e : TypeId)
 | other
 deriving DecidableEq
def TD.of : TypeDesc → TD
 | .bool => .bool
 | .int k => .int k
 | .string => .str
 | .slice e => .slice e
 | .array n e => .arr n e
 | .struct fs => .struct (fs.toList.map fun f => (f.type, f.offset))
 | .pointer e => .ptr e
 | .interface _ => .iface
 | .func _ _ _ => .func
 | .map k e => .map k e
 | _ => .other
def TD.isAgg : TD → Bool
 | .arr _ _ => true
 | .struct _ => true
 | _ => false
structure TyI where
 td : TD
 size : Nat
 bytes : Nat
 zero : Value
def TyI.zeros (i : TyI) : List AVal := i.zero.cells.toList.map cst
abbrev TyE := TypeId → Option TyI
def q2r (P : Program) (TE : TyE) : Prop :=
 ∀ t i, TE t = some i → ∃ d inf, P.underlying t = some d ∧ TD.of d = i.td ∧ P.info? t = some inf ∧ inf.size = i.size ∧ inf.bytes = i.bytes ∧ inf.zero = some i.zero ∧ i.zero.cells.size = i.size
section
variable {P : Program} {TE : TyE} (hT : q2r P TE)
include hT
theorem qdg {t : TypeId} {i : TyI} (h : TE t = some i) (w : World) : (isAgg t).run P w = .ok i.td.isAgg w := by
 obtain ⟨d, inf, h1, h2, h3, h4, h5, h6, h7⟩ := hT t i h
 unfold isAgg
 simp only [Sem.run_bind, run_underlying h1, Result.andThen]
 rw [← h2]
 cases d <;> rfl
theorem q0n {t : TypeId} {i : TyI} (h : TE t = some i) (w : World) : (sizeOf t).run P w = .ok i.size w := by
 obtain ⟨d, inf, h1, h2, h3, h4, h5, h6, h7⟩ := hT t i h
 simp [sizeOf, typeInfo, h3, h4]
theorem q0w {t : TypeId} {i : TyI} (h : TE t = some i) (w : World) : (zeroValue t).run P w = .ok i.zero w := by
 obtain ⟨d, inf, h1, h2, h3, h4, h5, h6, h7⟩ := hT t i h
 simp [zeroValue, typeInfo, h3, h6]
theorem q1z {t e : TypeId} {i : TyI} (h : TE t = some i) (hd : i.td = .slice e) : P.underlying t = some (.slice e) := by
 obtain ⟨d, inf, h1, h2, h3, h4, h5, h6, h7⟩ := hT t i h
 rw [hd] at h2
 cases d <;> simp [TD.of] at h2
 subst h2
 exact h1
theorem qb3 {t e : TypeId} {n : Nat} {i : TyI} (h : TE t = some i) (hd : i.td = .arr n e) : P.underlying t = some (.array n e) := by
 obtain ⟨d, inf, h1, h2, h3, h4, h5, h6, h7⟩ := hT t i h
 rw [hd] at h2
 cases d <;> simp [TD.of] at h2
 obtain ⟨rfl, rfl⟩ := h2
 exact h1
theorem q2s {t : TypeId} {fs : List (TypeId × Nat)} {i : TyI} (h : TE t = some i) (hd : i.td = .struct fs) :
 ∃ a : Array Field, P.underlying t = some (.struct a) ∧ a.toList.map (fun f => (f.type, f.offset)) = fs := by
 obtain ⟨d, inf, h1, h2, h3, h4, h5, h6, h7⟩ := hT t i h
 rw [hd] at h2
 cases d <;> simp only [TD.of, reduceCtorEq, TD.struct.injEq] at h2
 exact ⟨_, h1, h2⟩
theorem qb2 {t : TypeId} {i : TyI} (h : TE t = some i) (hd : i.td = .str) : P.underlying t = some .string := by
 obtain ⟨d, inf, h1, h2, h3, h4, h5, h6, h7⟩ := hT t i h
 rw [hd] at h2
 cases d <;> simp [TD.of] at h2
 exact h1
theorem z31 {t : TypeId} {k : IntKind} {i : TyI} (h : TE t = some i) (hd : i.td = .int k) : P.underlying t = some (.int k) := by
 obtain ⟨d, inf, h1, h2, h3, h4, h5, h6, h7⟩ := hT t i h
 rw [hd] at h2
 cases d <;> simp [TD.of] at h2
 subst h2
 exact h1
theorem q1y {t : TypeId} {i : TyI} (h : TE t = some i) (b off : Nat) (f : Nat → Value) (w : World) (hc : ∀ j, j < (if i.td.isAgg then i.size else 1) → w.cell? ⟨b, off + j, none⟩ = some (f j)) :
 (loadVar t ⟨b, off, none⟩).run P w = .ok (if i.td.isAgg then .agg ((List.range i.size).map f).toArray else f 0) w := by
 unfold loadVar
 simp only [Sem.run_bind, qdg hT h, Result.andThen]
 cases ha : i.td.isAgg
 ·have h0 := hc 0 (by simp [ha])
  simp only [Nat.add_zero] at h0
  simp [h0]
 ·simp only [ha, if_true] at hc
  have := run_loadCells (P := P) w ⟨b, off, none⟩ i.size f (fun j hj => by rw [Addr.add_lit]; exact hc j hj)
  simp [q0n hT h, this]
theorem q85 {t : TypeId} {i : TyI} (h : TE t = some i) (b off : Nat) (v : Value) (w : World) (c : Array Value) (el : TypeId) (hb : w.heap[b]? = some (.cells c el (0, 0)))
 (hs : v.cells.size = i.size) (hf : off + i.size ≤ c.size) (h1 : ∀ u ∈ v.cells.toList, u.oneCell' = true) :
 (storeVar t ⟨b, off, none⟩ v).run P w = .ok () (w.setRow b (c.toList.take off ++ v.cells.toList ++ c.toList.drop (off + i.size)).toArray) := by
 unfold storeVar
 have := run_storeCells_at P b off el v.cells.toList 0 c w hb (by simpa [hs] using hf) h1
 simp only [Nat.add_zero, Array.length_toList, hs] at this
 simp [q0n hT h, hs, this]
end
def q4s (i : TyI) (off : Nat) (cs : List AVal) : Option AVal :=
 if i.td.isAgg then (if off + i.size ≤ cs.length then some (.agg ((cs.drop off).take i.size)) else none) else cs[off]?
def AVal.plain : AVal → Bool
 | .own _ _ | .hole | .ref _ => false
 | _ => true
abbrev AR := Option (AVal × List (Nat × ABlk))
def qa6 (TE : TyE) (M : Mem) (t : TypeId) (d : Option Tmp) (x : AVal) : AR :=
 match TE t with
 | none => none
 | some i =>
  match x with
  | .ptr k off =>
   match M k with
   | some (.cells cs) =>
    if i.td.isAgg then
     (if off + i.size ≤ cs.length ∧ ((cs.drop off).take i.size).all AVal.plain = true then some (.agg ((cs.drop off).take i.size), []) else none)
    else
     match cs[off]? with
     | none => none
     | some (.own sz xs) =>
      match d with
      | some d => match M d with
       | none => some (.os d 0, [(k, .cells (cs.set off .hole)), (d, .arr 0 sz xs)])
       | some _ => none
      | none => none
     | some .hole => none
     | some (.ref _) => none
     | some c => some (c, [])
   | _ => none
  | .eptr k e sz j off =>
   match M k with
   | some (.arr e' sz' xs) => if e = e' ∧ sz = sz' then (match xs[j]? with | some y => (q4s i off y.cells).map fun v => (v, []) | none => none) else none
   | _ => none
  | .sptr cs => (q4s i 0 cs).map fun v => (v, [])
  | _ => none
end
def Res (P : Program) (n : Nat) (B : Nat → Prop) (G : Gh) (s : AS) (a : Act) (w : World) (m : Sem Value) (v : AVal) (ups : List (Nat × ABlk)) : Prop :=
 ∃ v' w' G', m.run P w = .ok v' w' ∧ Adv G w G' w' ∧ Rel n B G' ⟨s.T, ap s.M ups⟩ a w' ∧ VR (Dm (ap s.M ups)) G' B w' v v'
theorem Res.pure {P : Program} {n : Nat} {B : Nat → Prop} {G : Gh} {s : AS} {a : Act} {w : World} {m : Sem Value} {v : AVal} (h : Rel n B G s a w) {v' : Value}
 (hr : m.run P w = .ok v' w) (hv : VR (Dm s.M) G B w v v') : Res P n B G s a w m v [] :=
 ⟨v', w, G, hr, Adv.refl _ _, h, hv⟩
theorem CellRel.plain {D : Nat → Nat → Prop} {G : Gh} {B : Nat → Prop} {w : World} {k i : Nat} {x : AVal} {u : Value} (h : CellRel D G B w k i x u) (hp : x.plain = true) : VR D G B w x u := by
 cases x <;> first | exact h | (simp [AVal.plain] at hp)
theorem q29 {w : World} {b off : Nat} {c : Array Value} {el : TypeId} {fr : Nat × Nat} (h : w.heap[b]? = some (.cells c el fr)) : w.cell? ⟨b, off, none⟩ = c[off]? := by
 simp [World.cell?, h]
theorem zci {P : Program} {TE : TyE} (hT : q2r P TE) {D : Nat → Nat → Prop} {G : Gh} {B : Nat → Prop} {w : World} {t : TypeId} {i : TyI} (hi : TE t = some i) {b o off : Nat} {cs : List AVal} {v : AVal} {f : Nat → Value}
 (hc : ∀ (n : Nat) (x : AVal), cs[n]? = some x → w.cell? ⟨b, o + n, none⟩ = some (f n)) (hv : ∀ (n : Nat) (x : AVal), cs[n]? = some x → VR D G B w x (f n))
 (hp : q4s i off cs = some v) : ∃ v', (loadVar t ⟨b, o + off, none⟩).run P w = .ok v' w ∧ VR D G B w v v' := by
 unfold q4s at hp
 cases ha : i.td.isAgg
 ·simp only [ha, Bool.false_eq_true, if_false] at hp
  refine ⟨f off, ?_, hv off v hp⟩
  have := q1y hT hi b (o + off) (fun j => f (off + j)) w (fun j hj => by
   have : j = 0 := by simpa [ha] using hj
   subst this
   simpa using hc off v hp)
  simpa [ha] using this
 ·simp only [ha, if_true] at hp
  split at hp
  ·rename_i hle
   simp only [Option.some.injEq] at hp
   subst hp
   refine ⟨_, q1y hT hi b (o + off) (fun j => f (off + j)) w (fun j hj => ?_), ?_⟩
   ·simp only [ha, if_true] at hj
    have hlt : off + j < cs.length := by omega
    have := hc (off + j) cs[off + j] (List.getElem?_eq_getElem hlt)
    rwa [← Nat.add_assoc] at this
   ·simp only [ha, if_true]
    refine .agg _ _ (by simp; omega) fun n x v hx hvv => ?_
    have hn : n < i.size := by
     rcases Nat.lt_or_ge n i.size with h | h
     ·exact h
     ·rw [List.getElem?_take_eq_none h] at hx; cases hx
    simp only [List.getElem?_take, hn, if_true, List.getElem?_drop] at hx
    have e : v = f (off + n) := by
     have : ((List.range i.size).map fun j => f (off + j))[n]? = some (f (off + n)) := by simp [hn]
     rw [List.getElem?_toArray, this] at hvv
     simpa using hvv.symm
    rw [e]
    exact hv _ _ hx
  ·cases hp
theorem take_ok {n : Nat} {B : Nat → Prop} {G : Gh} {s : AS} {a : Act} {w : World} (h : Rel n B G s a w) {k off d sz : Nat} {cs xs : List AVal} (hk : s.M k = some (.cells cs)) (hd : s.M d = none)
 (hc : cs[off]? = some (.own sz xs)) {u : Value} (hu : OwnAt (Dm s.M) G B w (.cell k off) sz xs u) :
 ∃ G', Adv G w G' w ∧ Rel n B G' ⟨s.T, ap s.M [(k, .cells (cs.set off .hole)), (d, .arr 0 sz xs)]⟩ a w ∧ G'.hd d 0 = u := by
 have hkd : d ≠ k := fun e => by subst e; rw [hk] at hd; cases hd
 have hu1 : u.oneCell' = true := by rcases hu with ⟨rfl, _⟩ | ⟨b, o, cap, c, el, rfl, _⟩ <;> rfl
 let G' : Gh := { β := G.β, hd := fun j e => if j = d ∧ e = 0 then u else G.hd j e, ow := fun b => if G.ow b = some (.cell k off) then some (.arr d) else G.ow b, hd1 := fun j e => by by_cases hc' : j = d ∧ e = 0 <;> simp [hc', hu1, G.hd1] }
 have e1 : ∀ b, G.ow b = none → G'.ow b = none := fun b hb => by simp [G', hb]
 have e2 : ∀ b key, G.ow b = some key → key ≠ .cell k off → G'.ow b = some key := fun b key hb hne => by simp [G', hb, hne]
 have hA : Adv G w G' w := ⟨⟨rfl, Nat.le_refl _⟩, rfl, rfl, Nat.le_refl _, fun b hb ho => ⟨rfl, e1 b ho⟩⟩
 have hM : ap s.M [(k, .cells (cs.set off .hole)), (d, .arr 0 sz xs)] = upd (upd s.M k (some (.cells (cs.set off .hole)))) d (some (.arr 0 sz xs)) := rfl
 have hD : ∀ j e, Dm s.M j e → Dm (upd (upd s.M k (some (.cells (cs.set off .hole)))) d (some (.arr 0 sz xs))) j e := fun j e hj =>
  q35 (by rw [q0h _ _ hkd, hd]; trivial) (q35 (by rw [hk]; trivial) hj)
 have hG : ∀ j e, Dm s.M j e → G'.β j = G.β j ∧ G'.hd j e = G.hd j e := fun j e hj => by
  refine ⟨rfl, ?_⟩
  have : j ≠ d := fun e => by subst e; exact q5w hd hj
  simp [G', this]
 have hw : ∀ b, b < w.heap.size → ¬ B b → G.ow b = none → w.heap[b]? = w.heap[b]? ∧ ¬ B b ∧ G'.ow b = none := fun b _ hn ho => ⟨rfl, hn, e1 b ho⟩
 refine ⟨G', hA, ?_, by simp [G']⟩
 rw [hM]
 refine ⟨h.size, h.defers, fun t => (h.temps t).mono hD hG hw, fun j blk hj => ?_, fun b hb => ⟨(h.fr b hb).1, e1 b (h.fr b hb).2⟩, fun b hb => ?_⟩
 ·by_cases hjd : j = d
  ·subst hjd
   simp only [q00, Option.some.injEq] at hj
   subst hj
   show OwnAt _ G' B w (.arr j) sz xs (G'.hd j 0)
   have hh : G'.hd j 0 = u := by simp [G']
   rw [hh]
   rcases hu with hu | ⟨b, o, cap, c, el, h1, h2, h3, h4, h5, h6, h7, h7', h8⟩
   ·exact .inl hu
   ·exact .inr ⟨b, o, cap, c, el, h1, h2, by simp [G', h3], h4, h5, h6, h7, h7', fun m x hx => let ⟨y, hy, hr⟩ := h8 m x hx; ⟨y, hy, hr.mono hD hG hw⟩⟩
  ·simp only [q0h _ _ hjd] at hj
   by_cases hjk : j = k
   ·subst hjk
    simp only [q00, Option.some.injEq] at hj
    subst hj
    obtain ⟨c, el, b1, b2, b3, b4, b5⟩ := h.mem j _ hk
    refine ⟨c, el, e2 _ _ b1 (by simp), b2, b3, by simpa using b4, fun i x hx => ?_⟩
    by_cases hio : off = i
    ·subst hio
     have hlt : off < cs.length := by
      rcases Nat.lt_or_ge off cs.length with h' | h'
      ·exact h'
      ·rw [List.getElem?_eq_none h'] at hc; cases hc
     obtain ⟨y, hy, _⟩ := b5 off _ hc
     simp only [List.getElem?_set_self hlt, Option.some.injEq] at hx
     subst hx
     exact ⟨y, hy, trivial⟩
    ·rw [List.getElem?_set_ne hio] at hx
     obtain ⟨y, hy, hr⟩ := b5 i x hx
     refine ⟨y, hy, ?_⟩
     cases x with
     | own sz' xs' => exact OwnAt.mono hD hG hw (fun b _ hb2 hb3 => ⟨rfl, hb2, e2 _ _ hb3 (by simp; intro e; exact hio e.symm)⟩) hr
     | hole => trivial
     | _ => exact VR.mono hD hG hw hr
   ·simp only [q0h _ _ hjk] at hj
    refine (h.mem j blk hj).mono hD hG hw (fun b key hkey _ hb2 hb3 => ⟨rfl, hb2, e2 _ _ hb3 (fun e => ?_)⟩) (q90 hj)
    subst e
    exact hjk hkey.symm
 ·apply h.ol b
  intro hn
  exact hb (e1 b hn)
theorem loadA_ok {P : Program} {TE : TyE} (hT : q2r P TE) {n : Nat} {B : Nat → Prop} {G : Gh} {s : AS} {a : Act} {w : World} (h : Rel n B G s a w) {t : TypeId} {d : Option Tmp} {x : AVal} {x' : Value}
 (hx : VR (Dm s.M) G B w x x') {v : AVal} {ups : List (Nat × ABlk)} (hl : qa6 TE s.M t d x = some (v, ups)) : Res P n B G s a w (Instr.loadAt t x') v ups := by
 unfold qa6 at hl
 cases hi : TE t with
 | none => simp [hi] at hl
 | some i =>
  simp only [hi] at hl
  cases hx <;> simp only [reduceCtorEq] at hl
  case ptr k off hD =>
   cases hm : s.M k with
   | none => simp [hm] at hl
   | some blk =>
    cases blk with
    | arr e sz xs => simp [hm] at hl
    | dead => simp [hm] at hl
    | map _ => simp [hm] at hl
    | note _ _ => simp [hm] at hl
    | cells cs =>
     simp only [hm] at hl
     obtain ⟨c, el, b1, b2, b3, b4, b5⟩ := h.mem k _ hm
     have hcell : ∀ j x, cs[j]? = some x → ∃ u, w.cell? ⟨G.β k, j, none⟩ = some u ∧ CellRel (Dm s.M) G B w k j x u := fun j x hj => by
      obtain ⟨u, hu, hr⟩ := b5 j x hj
      exact ⟨u, by rw [q29 b3]; exact hu, hr⟩
     cases ha : i.td.isAgg
     ·simp only [ha, Bool.false_eq_true, if_false] at hl
      cases hc : cs[off]? with
      | none => simp [hc] at hl
      | some y =>
       obtain ⟨u, hu, hr⟩ := hcell off y hc
       have hrun : (Instr.loadAt t (.pointer (some ⟨G.β k, off, none⟩))).run P w = .ok u w := by
        have := q1y hT hi (G.β k) off (fun _ => u) w (fun j hj => by
         have : j = 0 := by simpa [ha] using hj
         subst this
         simpa using hu)
        simp only [ha, Bool.false_eq_true, if_false] at this
        simp [Instr.loadAt, Instr.sureAddr, this]
       simp only [hc] at hl
       cases y <;> simp only [reduceCtorEq, Option.some.injEq, Prod.mk.injEq] at hl
       case own sz xs =>
        cases d with
        | none => simp at hl
        | some d =>
         cases hd : s.M d with
         | some q => simp [hd] at hl
         | none =>
          simp only [hd, Option.some.injEq, Prod.mk.injEq] at hl
          obtain ⟨rfl, rfl⟩ := hl
          obtain ⟨G', hA, hR, hh⟩ := take_ok h hm hd hc hr
          refine ⟨u, w, G', hrun, hA, hR, .os d 0 ?_ u hh.symm⟩
          simp [ap, Dm, q00]
       all_goals
        obtain ⟨rfl, rfl⟩ := hl
        exact Res.pure h hrun hr
     ·simp only [ha, if_true] at hl
      split at hl
      ·rename_i hle
       simp only [Option.some.injEq, Prod.mk.injEq] at hl
       obtain ⟨rfl, rfl⟩ := hl
       obtain ⟨hle, hpl⟩ := hle
       have hr := q1y hT hi (G.β k) off (fun j => c.getD (off + j) undef) w (fun j hj => by
        simp only [ha, if_true] at hj
        have hlt : off + j < cs.length := by omega
        obtain ⟨u, hu, hr⟩ := b5 (off + j) cs[off + j] (List.getElem?_eq_getElem hlt)
        rw [q29 b3, hu]
        simp [hu])
       simp only [ha, if_true] at hr
       refine Res.pure h (v' := .agg ((List.range i.size).map fun j => c.getD (off + j) undef).toArray) (by simp [Instr.loadAt, Instr.sureAddr, hr]) (.agg _ _ (by simp; omega) fun m x v hx hv => ?_)
       have hmn : m < i.size := by
        rcases Nat.lt_or_ge m i.size with h' | h'
        ·exact h'
        ·rw [List.getElem?_take_eq_none h'] at hx; cases hx
       have hpx : x.plain = true := List.all_eq_true.1 hpl x (List.mem_of_getElem? hx)
       simp only [List.getElem?_take, hmn, if_true, List.getElem?_drop] at hx
       obtain ⟨u, hu, hru⟩ := b5 _ _ hx
       have : v = u := by
        have e : ((List.range i.size).map fun j => c.getD (off + j) undef)[m]? = some u := by simp [hmn, hu]
        rw [List.getElem?_toArray, e] at hv
        simpa using hv.symm
       rw [this]
       exact hru.plain hpx
      ·cases hl
  case eptr k e sz j off b o len cap hD hh =>
   cases hm : s.M k with
   | none => simp [hm] at hl
   | some blk =>
    cases blk with
    | cells cs => simp [hm] at hl
    | dead => simp [hm] at hl
    | map _ => simp [hm] at hl
    | note _ _ => simp [hm] at hl
    | arr e' sz' xs =>
     simp only [hm] at hl
     split at hl
     ·rename_i he
      obtain ⟨rfl, rfl⟩ := he
      cases hj : xs[j]? with
      | none => simp [hj] at hl
      | some y =>
       simp only [hj] at hl
       cases hp : q4s i off y.cells with
       | none => simp [hp] at hl
       | some v0 =>
        simp only [hp, Option.map_some, Option.some.injEq, Prod.mk.injEq] at hl
        obtain ⟨rfl, rfl⟩ := hl
        have hown := h.mem k _ hm
        simp only [BlkRel] at hown
        rcases hown with ⟨hn, _⟩ | ⟨b', o', cap', c, el, h1, h2, h3, h4, h5, h6, h7, h7', h8⟩
        ·rw [hh] at hn; cases hn
        ·rw [hh] at h1
         simp only [Value.slice.injEq, Option.some.injEq, Addr.mk.injEq] at h1
         obtain ⟨⟨rfl, rfl, _⟩, rfl, rfl⟩ := h1
         have hf : ∀ (m : Nat) (x : AVal), y.cells[m]? = some x → (flat xs)[j * sz + m]? = some x := fun m x hx => by
          have hlt : m < sz := by
           rw [← h7 y (List.mem_of_getElem? hj)]
           rcases Nat.lt_or_ge m y.cells.length with h' | h'
           ·exact h'
           ·rw [List.getElem?_eq_none h'] at hx; cases hx
          rw [q9d h7 hj hlt, hx]
         obtain ⟨v', hr, hv⟩ := zci (P := P) hT hi (D := Dm s.M) (G := G) (B := B) (w := w) (b := b) (o := o + j * sz) (off := off) (cs := y.cells) (v := v0) (f := fun m => c.getD (o + (j * sz + m)) undef)
          (fun m x hx => by
           obtain ⟨u, hu, _⟩ := h8 _ _ (hf m x hx)
           rw [q29 h5, Nat.add_assoc, hu]
           simp [hu])
          (fun m x hx => by
           obtain ⟨u, hu, hru⟩ := h8 _ _ (hf m x hx)
           have : c.getD (o + (j * sz + m)) undef = u := by simp [hu]
           simp only [this]
           exact hru) hp
         exact Res.pure h (by simp [Instr.loadAt, Instr.sureAddr, hr]) hv
     ·cases hl
  case sptr cs b off f hB hc hv =>
   cases hp : q4s i 0 cs with
   | none => simp [hp] at hl
   | some v0 =>
    simp only [hp, Option.map_some, Option.some.injEq, Prod.mk.injEq] at hl
    obtain ⟨rfl, rfl⟩ := hl
    obtain ⟨v', hr, hv'⟩ := zci (P := P) hT hi (o := off) (off := 0) hc hv hp
    exact Res.pure h (by simpa [Instr.loadAt, Instr.sureAddr] using hr) hv'

theorem q2a (w : World) (o : Obj) {b : Nat} (h : b < w.heap.size) : (w.alloc o).heap[b]? = w.heap[b]? := by
 show (w.heap.push o)[b]? = _
 rw [Array.getElem?_push, if_neg (by omega)]
theorem q8z (w : World) (o : Obj) : (w.alloc o).heap[w.heap.size]? = some o := by
 show (w.heap.push o)[w.heap.size]? = _
 rw [Array.getElem?_push, if_pos rfl]
theorem Rel.new_box {n : Nat} {B : Nat → Prop} {G : Gh} {s : AS} {a : Act} {w : World} (h : Rel n B G s a w) {d : Nat} (hd : s.M d = none) (cs : List AVal) (c : Array Value) (el : TypeId)
 (hsz : c.size = cs.length) (hc : ∀ (i : Nat) (x : AVal), cs[i]? = some x → ∃ u, c[i]? = some u ∧ VR (Dm s.M) G B w x u) :
 ∃ G', Adv G w G' (w.alloc (.cells c el)) ∧ Rel n B G' ⟨s.T, upd s.M d (some (.cells cs))⟩ a (w.alloc (.cells c el)) ∧ G'.β d = w.heap.size := by
 let G' : Gh := { β := upd G.β d w.heap.size, hd := G.hd, ow := upd G.ow w.heap.size (some (.box d)), hd1 := G.hd1 }
 have e1 : ∀ b, b < w.heap.size → G'.ow b = G.ow b := fun b hb => q0h _ _ (by omega)
 have hA : Adv G w G' (w.alloc (.cells c el)) := ⟨⟨rfl, Nat.le_refl _⟩, rfl, rfl, by simp, fun b hb ho => ⟨q2a w _ hb, by rw [e1 b hb]; exact ho⟩⟩
 have hG : ∀ j e, Dm s.M j e → G'.β j = G.β j ∧ G'.hd j e = G.hd j e := fun j e hj => ⟨q0h _ _ (fun e' => by subst e'; exact q5w hd hj), rfl⟩
 refine ⟨G', hA, h.update hA d (.cells cs) (by rw [hd]; trivial) hG (fun b key hb _ ho _ => ⟨q2a w _ hb, by rw [e1 b hb]; exact ho⟩) (fun b hb => ?_) ?_, q00 _ _ _⟩
 ·rcases Nat.lt_or_ge b w.heap.size with h' | h'
  ·simp; omega
  ·by_cases e : b = w.heap.size
   ·subst e; simp
   ·exfalso
    have : G'.ow b = G.ow b := q0h _ _ e
    rw [this] at hb
    exact absurd (h.ol b hb) (by omega)
 ·have hw : ∀ b, b < w.heap.size → ¬ B b → G.ow b = none → (w.alloc (.cells c el)).heap[b]? = w.heap[b]? ∧ ¬ B b ∧ G'.ow b = none :=
   fun b hb hn ho => ⟨q2a w _ hb, hn, by rw [e1 b hb]; exact ho⟩
  refine ⟨c, el, by simp only [G', q00], by simp only [G', q00]; exact fun hb => absurd (h.fr _ hb).1 (by omega), by simp only [G', q00]; exact q8z w _, hsz, fun i x hx => ?_⟩
  obtain ⟨u, hu, hr⟩ := hc i x hx
  exact ⟨u, hu, CellRel.of_VR (hr.mono (fun j e => q35 (by rw [hd]; trivial)) hG hw)⟩
def Fresh (M : Mem) (k e : Nat) : Prop := (M k = none) ∨ ∃ e0 sz0 xs0, M k = some (.arr e0 sz0 xs0) ∧ e = e0 + 1
theorem Fresh.succ {M : Mem} {k e sz : Nat} {xs : List AVal} (h : Fresh M k e) : qmm (M k) (.arr e sz xs) := by
 rcases h with h | ⟨e0, sz0, xs0, h, rfl⟩
 ·rw [h]; trivial
 ·rw [h]; simp [qmm]
theorem Fresh.not {M : Mem} {k e : Nat} (h : Fresh M k e) : ¬ Dm M k e := by
 rcases h with h | ⟨e0, sz0, xs0, h, rfl⟩
 ·exact q5w h
 ·simp [Dm, h]
def Gh.setHd (G : Gh) (k e : Nat) (v : Value) (hv : v.oneCell' = true) (ow : Nat → Option OKey) : Gh :=
 { β := G.β, hd := fun j e' => if j = k ∧ e' = e then v else G.hd j e', ow := ow, hd1 := fun j e' => by by_cases hc : j = k ∧ e' = e <;> simp [hc, hv, G.hd1] }
theorem q2n {G : Gh} {k e : Nat} {v : Value} {hv : v.oneCell' = true} {ow : Nat → Option OKey} : (G.setHd k e v hv ow).hd k e = v := by simp [Gh.setHd]
theorem qbi {G : Gh} {M : Mem} {k e : Nat} {v : Value} {hv : v.oneCell' = true} {ow : Nat → Option OKey} (hf : ¬ Dm M k e) :
 ∀ j e', Dm M j e' → (G.setHd k e v hv ow).β j = G.β j ∧ (G.setHd k e v hv ow).hd j e' = G.hd j e' := fun j e' hj => by
 refine ⟨rfl, ?_⟩
 have : ¬ (j = k ∧ e' = e) := fun ⟨e1, e2⟩ => by subst e1; subst e2; exact hf hj
 simp [Gh.setHd, this]
theorem Rel.new_arr {n : Nat} {B : Nat → Prop} {G : Gh} {s : AS} {a : Act} {w : World} (h : Rel n B G s a w) {k e : Nat} (hf : Fresh s.M k e) (sz cap : Nat) (xs : List AVal) (c : Array Value) (el : TypeId)
 (hcap : xs.length ≤ cap) (hcs : cap * sz ≤ c.size) (hsz : ∀ x ∈ xs, x.cells.length = sz) (hone : ∀ x ∈ flat xs, x.one = true)
 (hc : ∀ (i : Nat) (x : AVal), (flat xs)[i]? = some x → ∃ u, c[i]? = some u ∧ VR (Dm s.M) G B w x u) :
 ∃ G', Adv G w G' (w.alloc (.cells c el)) ∧ Rel n B G' ⟨s.T, upd s.M k (some (.arr e sz xs))⟩ a (w.alloc (.cells c el)) ∧ G'.hd k e = .slice (some ⟨w.heap.size, 0, none⟩) xs.length cap := by
 let G' : Gh := G.setHd k e (.slice (some ⟨w.heap.size, 0, none⟩) xs.length cap) rfl (upd G.ow w.heap.size (some (.arr k)))
 have e1 : ∀ b, b < w.heap.size → G'.ow b = G.ow b := fun b hb => q0h _ _ (by omega)
 have hA : Adv G w G' (w.alloc (.cells c el)) := ⟨⟨rfl, Nat.le_refl _⟩, rfl, rfl, by simp, fun b hb ho => ⟨q2a w _ hb, by rw [e1 b hb]; exact ho⟩⟩
 have hG := qbi (G := G) (v := .slice (some ⟨w.heap.size, 0, none⟩) xs.length cap) (hv := rfl) (ow := upd G.ow w.heap.size (some (.arr k))) hf.not
 refine ⟨G', hA, h.update hA k (.arr e sz xs) hf.succ hG (fun b key hb _ ho _ => ⟨q2a w _ hb, by rw [e1 b hb]; exact ho⟩) (fun b hb => ?_) ?_, q2n⟩
 ·rcases Nat.lt_or_ge b w.heap.size with h' | h'
  ·simp; omega
  ·by_cases e : b = w.heap.size
   ·subst e; simp
   ·exfalso
    have : G'.ow b = G.ow b := q0h _ _ e
    rw [this] at hb
    exact absurd (h.ol b hb) (by omega)
 ·have hw : ∀ b, b < w.heap.size → ¬ B b → G.ow b = none → (w.alloc (.cells c el)).heap[b]? = w.heap[b]? ∧ ¬ B b ∧ G'.ow b = none :=
   fun b hb hn ho => ⟨q2a w _ hb, hn, by rw [e1 b hb]; exact ho⟩
  show OwnAt _ G' B _ (.arr k) sz xs (G'.hd k e)
  rw [show G'.hd k e = _ from q2n]
  refine .inr ⟨w.heap.size, 0, cap, c, el, rfl, hcap, q00 _ _ _, fun hb => absurd (h.fr _ hb).1 (by omega), q8z w _, by omega, hsz, hone, fun i x hx => ?_⟩
  obtain ⟨u, hu, hr⟩ := hc i x hx
  exact ⟨u, by rw [Nat.zero_add]; exact hu, hr.mono (fun j e => q35 hf.succ) hG hw⟩
theorem Rel.nil_arr {n : Nat} {B : Nat → Prop} {G : Gh} {s : AS} {a : Act} {w : World} (h : Rel n B G s a w) {k e : Nat} (hf : Fresh s.M k e) (sz : Nat) :
 ∃ G', Adv G w G' w ∧ Rel n B G' ⟨s.T, upd s.M k (some (.arr e sz []))⟩ a w ∧ G'.hd k e = .slice none 0 0 := by
 let G' : Gh := G.setHd k e (.slice none 0 0) rfl G.ow
 have hA : Adv G w G' w := ⟨⟨rfl, Nat.le_refl _⟩, rfl, rfl, Nat.le_refl _, fun b hb ho => ⟨rfl, ho⟩⟩
 have hG := qbi (G := G) (v := .slice none 0 0) (hv := rfl) (ow := G.ow) hf.not
 refine ⟨G', hA, h.update hA k (.arr e sz []) hf.succ hG (fun b key hb _ ho _ => ⟨rfl, ho⟩) (fun b hb => h.ol b hb) ?_, q2n⟩
 show OwnAt _ G' B _ (.arr k) sz [] (G'.hd k e)
 rw [show G'.hd k e = _ from q2n]
 exact .inl ⟨rfl, rfl⟩
theorem q7k {w : World} {b : Nat} {c : Array Value} {el : TypeId} {fr : Nat × Nat} (c' : Array Value) (h : w.heap[b]? = some (.cells c el fr)) : (w.setRow b c').heap[b]? = some (.cells c' el fr) :=
 setRow_heap w b c c' el fr h
theorem q3l {w : World} {b j : Nat} (c' : Array Value) (h : j ≠ b) : (w.setRow b c').heap[j]? = w.heap[j]? := setRow_other w b j c' h
theorem Rel.set_box {n : Nat} {B : Nat → Prop} {G : Gh} {s : AS} {a : Act} {w : World} (h : Rel n B G s a w) {k : Nat} {cs : List AVal} (hk : s.M k = some (.cells cs)) {c : Array Value} {el : TypeId}
 (hb : w.heap[G.β k]? = some (.cells c el (0, 0))) (cs' : List AVal) (c' : Array Value) (hsz : c'.size = cs'.length)
 (hc : ∀ (i : Nat) (x : AVal), cs'[i]? = some x → ∃ u, c'[i]? = some u ∧ (CellRel (Dm s.M) G B w k i x u)) :
 Adv G w G (w.setRow (G.β k) c') ∧ Rel n B G ⟨s.T, upd s.M k (some (.cells cs'))⟩ a (w.setRow (G.β k) c') := by
 obtain ⟨c0, el0, b1, b2, b3, b4, b5⟩ := h.mem k _ hk
 have hne : ∀ b, G.ow b ≠ some (.box k) → b ≠ G.β k := fun b hb e => by subst e; exact hb b1
 have hlt : ∀ b, (w.setRow (G.β k) c').heap[b]? = w.heap[b]? ∨ b = G.β k := fun b => by
  by_cases e : b = G.β k
  ·exact .inr e
  ·exact .inl (q3l _ e)
 have hs : (w.setRow (G.β k) c').heap.size = w.heap.size := by simp [World.setRow]
 have hA : Adv G w G (w.setRow (G.β k) c') := ⟨⟨rfl, Nat.le_refl _⟩, rfl, rfl, by omega, fun b hb ho => ⟨q3l _ (hne b (by rw [ho]; simp)), ho⟩⟩
 refine ⟨hA, h.update hA k (.cells cs') (by rw [hk]; trivial) (fun _ _ _ => ⟨rfl, rfl⟩) (fun b key _ _ ho hkey => ⟨q3l _ (hne b (by rw [ho]; intro e; apply hkey; rw [Option.some.inj e]; rfl)), ho⟩) (fun b hb => by rw [hs]; exact h.ol b hb) ?_⟩
 have hw : ∀ b, b < w.heap.size → ¬ B b → G.ow b = none → (w.setRow (G.β k) c').heap[b]? = w.heap[b]? ∧ ¬ B b ∧ G.ow b = none :=
  fun b _ hn ho => ⟨q3l _ (hne b (by rw [ho]; simp)), hn, ho⟩
 have hD : ∀ j e, Dm s.M j e → Dm (upd s.M k (some (.cells cs'))) j e := fun j e => q35 (by rw [hk]; trivial)
 refine ⟨c', el, b1, b2, q7k _ hb, hsz, fun i x hx => ?_⟩
 obtain ⟨u, hu, hr⟩ := hc i x hx
 refine ⟨u, hu, ?_⟩
 cases x with
 | own sz' xs' => exact OwnAt.mono hD (fun _ _ _ => ⟨rfl, rfl⟩) hw (fun b _ hb2 hb3 => ⟨q3l _ (hne b (by rw [hb3]; simp)), hb2, hb3⟩) hr
 | hole => trivial
 | _ => exact VR.mono hD (fun _ _ _ => ⟨rfl, rfl⟩) hw hr
theorem Rel.set_arr {n : Nat} {B : Nat → Prop} {G : Gh} {s : AS} {a : Act} {w : World} (h : Rel n B G s a w) {k e sz : Nat} {xs : List AVal} (hk : s.M k = some (.arr e sz xs)) {b off cap : Nat}
 (hh : G.hd k e = .slice (some ⟨b, off, none⟩) xs.length cap) (e' off' : Nat) (he : e' = e + 1 ∨ (e' = e ∧ off' = off)) (xs' : List AVal) (hlen : e' = e → xs'.length = xs.length) (cap' : Nat) (hcap : xs'.length ≤ cap') (hce : e' = e → cap' = cap)
 {c : Array Value} {el : TypeId} (hb : w.heap[b]? = some (.cells c el (0, 0))) (how : G.ow b = some (.arr k)) (c' : Array Value) (hfit : off' + cap' * sz ≤ c'.size)
 (hsz : ∀ x ∈ xs', x.cells.length = sz) (hone : ∀ x ∈ flat xs', x.one = true)
 (hc : ∀ (i : Nat) (x : AVal), (flat xs')[i]? = some x → ∃ u, c'[off' + i]? = some u ∧ VR (Dm s.M) G B w x u) :
 ∃ G', Adv G w G' (w.setRow b c') ∧ Rel n B G' ⟨s.T, upd s.M k (some (.arr e' sz xs'))⟩ a (w.setRow b c') ∧ G'.hd k e' = .slice (some ⟨b, off', none⟩) xs'.length cap' := by
 have hnB : ¬ B b := by
  intro hB
  have := (h.fr b hB).2
  rw [how] at this
  cases this
 have hne : ∀ b', G.ow b' ≠ some (.arr k) → b' ≠ b := fun b' hn e => by subst e; exact hn how
 have hs : (w.setRow b c').heap.size = w.heap.size := by simp [World.setRow]
 let G' : Gh := G.setHd k e' (.slice (some ⟨b, off', none⟩) xs'.length cap') rfl G.ow
 have hA : Adv G w G' (w.setRow b c') := ⟨⟨rfl, Nat.le_refl _⟩, rfl, rfl, by omega, fun b' hb' ho => ⟨q3l _ (hne b' (by rw [ho]; simp)), ho⟩⟩
 have hG : ∀ j e'', Dm s.M j e'' → G'.β j = G.β j ∧ G'.hd j e'' = G.hd j e'' := by
  rcases he with rfl | ⟨rfl, rfl⟩
  ·exact qbi (by simp [Dm, hk])
  ·intro j e'' hj
   refine ⟨rfl, ?_⟩
   by_cases hc : j = k ∧ e'' = e'
   ·obtain ⟨rfl, rfl⟩ := hc
    rw [show G'.hd j e'' = _ from q2n, hh, hlen rfl, hce rfl]
   ·simp [G', Gh.setHd, hc]
 have hsucc : qmm (s.M k) (.arr e' sz xs') := by
  rw [hk]
  rcases he with rfl | ⟨rfl, _⟩ <;> simp [qmm]
 refine ⟨G', hA, h.update hA k (.arr e' sz xs') hsucc hG (fun b' key _ _ ho hkey => ⟨q3l _ (hne b' (by rw [ho]; intro e; apply hkey; rw [Option.some.inj e]; rfl)), ho⟩) (fun b' hb' => by rw [hs]; exact h.ol b' hb') ?_, q2n⟩
 have hw : ∀ b', b' < w.heap.size → ¬ B b' → G.ow b' = none → (w.setRow b c').heap[b']? = w.heap[b']? ∧ ¬ B b' ∧ G'.ow b' = none :=
  fun b' _ hn ho => ⟨q3l _ (hne b' (by rw [ho]; simp)), hn, ho⟩
 show OwnAt _ G' B _ (.arr k) sz xs' (G'.hd k e')
 rw [show G'.hd k e' = _ from q2n]
 refine .inr ⟨b, off', cap', c', el, rfl, hcap, how, hnB, q7k _ hb, hfit, hsz, hone, fun i x hx => ?_⟩
 obtain ⟨u, hu, hr⟩ := hc i x hx
 exact ⟨u, hu, hr.mono (fun j e => q35 hsucc) hG hw⟩

def AVal.known : AVal → Bool
 | .undef | .own _ _ | .hole | .ref _ => false
 | _ => true
theorem VR.cells {D : Nat → Nat → Prop} {G : Gh} {B : Nat → Prop} {w : World} {x : AVal} {v : Value} (h : VR D G B w x v) (hk : x.known = true) :
 v.cells.size = x.cells.length ∧ ∀ (n : Nat) (y : AVal), x.cells[n]? = some y → ∃ u, v.cells[n]? = some u ∧ VR D G B w y u := by
 have single : ∀ {x : AVal} {v : Value}, VR D G B w x v → x.cells = [x] → v.cells = #[v] → v.cells.size = x.cells.length ∧ ∀ (n : Nat) (y : AVal), x.cells[n]? = some y → ∃ u, v.cells[n]? = some u ∧ VR D G B w y u := by
  intro x v h h1 h2
  rw [h1, h2]
  refine ⟨rfl, fun n y hy => ?_⟩
  cases n with
  | zero => simp at hy; subst hy; exact ⟨v, rfl, h⟩
  | succ n => simp at hy
 cases h with
 | undef v => simp [AVal.known] at hk
 | agg cs vs hl h =>
  refine ⟨hl, fun n y hy => ?_⟩
  have hlt : n < vs.size := by
   rw [hl]
   rcases Nat.lt_or_ge n cs.length with h' | h'
   ·exact h'
   ·rw [show AVal.cells (.agg cs) = cs from rfl, List.getElem?_eq_none h'] at hy; cases hy
  exact ⟨vs[n], by simp [Value.cells, hlt], h n y _ hy (by simp [hlt])⟩
 | os k e hD _ hv =>
  refine single (.os k e hD _ hv) rfl ?_
  rw [hv]
  have := G.hd1 k e
  cases hh : G.hd k e <;> simp [hh, Value.oneCell'] at this <;> rfl
 | _ => exact single (by constructor <;> assumption) rfl rfl
def q0m {α : Type} (cs : List α) (off : Nat) (vs : List α) : List α := cs.take off ++ vs ++ cs.drop (off + vs.length)
theorem q0x {α : Type} {cs : List α} {off : Nat} {vs : List α} (h : off + vs.length ≤ cs.length) : (q0m cs off vs).length = cs.length := by
 simp [q0m]; omega
theorem q0v {α : Type} {cs : List α} {off : Nat} {vs : List α} (h : off + vs.length ≤ cs.length) (i : Nat) :
 (q0m cs off vs)[i]? = if i < off then cs[i]? else if i < off + vs.length then vs[i - off]? else cs[i]? := by
 unfold q0m
 by_cases h1 : i < off
 ·rw [if_pos h1, List.append_assoc, List.getElem?_append_left (by simp; omega), List.getElem?_take]
  simp [h1]
 ·rw [if_neg h1, List.append_assoc, List.getElem?_append_right (by simp; omega)]
  have e : (cs.take off).length = off := by simp; omega
  rw [e]
  by_cases h2 : i < off + vs.length
  ·rw [if_pos h2, List.getElem?_append_left (by omega)]
  ·rw [if_neg h2, List.getElem?_append_right (by omega), List.getElem?_drop]
   congr 1; omega
theorem z1e {R : AVal → Value → Prop} {cs : List AVal} {c : List Value} {vs : List AVal} {us : List Value} {off : Nat} (hcs : c.length = cs.length) (hvs : us.length = vs.length) (hf : off + vs.length ≤ cs.length)
 (h1 : ∀ (i : Nat) (x : AVal), cs[i]? = some x → ∃ u, c[i]? = some u ∧ (i < off ∨ off + vs.length ≤ i → R x u)) (h2 : ∀ (i : Nat) (x : AVal), vs[i]? = some x → ∃ u, us[i]? = some u ∧ R x u) :
 ∀ (i : Nat) (x : AVal), (q0m cs off vs)[i]? = some x → ∃ u, (q0m c off us)[i]? = some u ∧ R x u := by
 intro i x hx
 rw [q0v hf] at hx
 rw [q0v (by omega)]
 by_cases c1 : i < off
 ·rw [if_pos c1] at hx ⊢
  obtain ⟨u, hu, hr⟩ := h1 i x hx
  exact ⟨u, hu, hr (.inl c1)⟩
 ·rw [if_neg c1] at hx ⊢
  rw [hvs]
  by_cases c2 : i < off + vs.length
  ·rw [if_pos c2] at hx ⊢
   exact h2 _ x hx
  ·rw [if_neg c2] at hx ⊢
   obtain ⟨u, hu, hr⟩ := h1 i x hx
   exact ⟨u, hu, hr (.inr (by omega))⟩
theorem give_ok {n : Nat} {B : Nat → Prop} {G : Gh} {s : AS} {a : Act} {w : World} (h : Rel n B G s a w) {k off k' e sz : Nat} {cs xs : List AVal} (hk : s.M k = some (.cells cs)) (hk' : s.M k' = some (.arr e sz xs))
 (hc : cs[off]? = some .hole) (hcell : w.cell? ⟨G.β k, off, none⟩ = some (G.hd k' e)) :
 ∃ G', Adv G w G' w ∧ Rel n B G' ⟨s.T, ap s.M [(k, .cells (cs.set off (.own sz xs))), (k', .dead)]⟩ a w := by
 have hkk : k' ≠ k := fun e => by subst e; rw [hk] at hk'; cases hk'
 let G' : Gh := { β := G.β, hd := G.hd, ow := fun b => if G.ow b = some (.arr k') then some (.cell k off) else G.ow b, hd1 := G.hd1 }
 have e1 : ∀ b, G.ow b = none → G'.ow b = none := fun b hb => by simp [G', hb]
 have e2 : ∀ b key, G.ow b = some key → key ≠ .arr k' → G'.ow b = some key := fun b key hb hne => by simp [G', hb, hne]
 have hA : Adv G w G' w := ⟨⟨rfl, Nat.le_refl _⟩, rfl, rfl, Nat.le_refl _, fun b hb ho => ⟨rfl, e1 b ho⟩⟩
 have hD : ∀ j e', Dm s.M j e' → Dm (upd (upd s.M k (some (.cells (cs.set off (.own sz xs))))) k' (some .dead)) j e' := fun j e' hj =>
  q35 (by rw [q0h _ _ hkk, hk']; trivial) (q35 (by rw [hk]; trivial) hj)
 have hG : ∀ j e, Dm s.M j e → G'.β j = G.β j ∧ G'.hd j e = G.hd j e := fun j e hj => ⟨rfl, rfl⟩
 have hw : ∀ b, b < w.heap.size → ¬ B b → G.ow b = none → w.heap[b]? = w.heap[b]? ∧ ¬ B b ∧ G'.ow b = none := fun b _ hn ho => ⟨rfl, hn, e1 b ho⟩
 refine ⟨G', hA, ?_⟩
 show Rel n B G' ⟨s.T, upd (upd s.M k (some (.cells (cs.set off (.own sz xs))))) k' (some .dead)⟩ a w
 refine ⟨h.size, h.defers, fun t => (h.temps t).mono hD hG hw, fun j blk hj => ?_, fun b hb => ⟨(h.fr b hb).1, e1 b (h.fr b hb).2⟩, fun b hb => ?_⟩
 ·by_cases hjd : j = k'
  ·subst hjd
   simp only [q00, Option.some.injEq] at hj
   subst hj
   trivial
  ·simp only [q0h _ _ hjd] at hj
   by_cases hjk : j = k
   ·subst hjk
    simp only [q00, Option.some.injEq] at hj
    subst hj
    obtain ⟨c, el, b1, b2, b3, b4, b5⟩ := h.mem j _ hk
    refine ⟨c, el, e2 _ _ b1 (by simp), b2, b3, by simpa using b4, fun i x hx => ?_⟩
    by_cases hio : off = i
    ·subst hio
     have hlt : off < cs.length := by
      rcases Nat.lt_or_ge off cs.length with h' | h'
      ·exact h'
      ·rw [List.getElem?_eq_none h'] at hc; cases hc
     simp only [List.getElem?_set_self hlt, Option.some.injEq] at hx
     subst hx
     rw [q29 b3] at hcell
     refine ⟨_, hcell, ?_⟩
     have hown := h.mem k' _ hk'
     simp only [BlkRel] at hown
     rcases hown with hu | ⟨b, o, cap, c', el', h1, h2, h3, h4, h5, h6, h7, h7', h8⟩
     ·exact .inl hu
     ·exact .inr ⟨b, o, cap, c', el', h1, h2, by simp [G', h3], h4, h5, h6, h7, h7', fun m x hx => let ⟨y, hy, hr⟩ := h8 m x hx; ⟨y, hy, hr.mono hD hG hw⟩⟩
    ·rw [List.getElem?_set_ne hio] at hx
     obtain ⟨y, hy, hr⟩ := b5 i x hx
     refine ⟨y, hy, ?_⟩
     cases x with
     | own sz' xs' => exact OwnAt.mono hD hG hw (fun b _ hb2 hb3 => ⟨rfl, hb2, e2 _ _ hb3 (by simp)⟩) hr
     | hole => trivial
     | _ => exact VR.mono hD hG hw hr
   ·simp only [q0h _ _ hjk] at hj
    refine (h.mem j blk hj).mono hD hG hw (fun b key hkey _ hb2 hb3 => ⟨rfl, hb2, e2 _ _ hb3 (fun e => ?_)⟩) (q90 hj)
    subst e
    exact hjd hkey.symm
 ·apply h.ol b
  intro hn
  exact hb (e1 b hn)
theorem zdb {n : Nat} {B : Nat → Prop} {G : Gh} {s : AS} {a : Act} {w : World} (h : Rel n B G s a w) {k e sz : Nat} {xs : List AVal} (hk : s.M k = some (.arr e sz xs)) :
 ∃ G', Adv G w G' w ∧ Rel n B G' ⟨s.T, upd s.M k (some .dead)⟩ a w ∧ VR (Dm (upd s.M k (some .dead))) G' B w (.sl sz xs) (G.hd k e) ∧ (∀ j e, G'.hd j e = G.hd j e) ∧ (∀ b key, G'.ow b = some key → G.ow b = some key) := by
 let G' : Gh := { β := G.β, hd := G.hd, ow := fun b => if G.ow b = some (.arr k) then none else G.ow b, hd1 := G.hd1 }
 have e1 : ∀ b, G.ow b = none → G'.ow b = none := fun b hb => by simp [G', hb]
 have e2 : ∀ b key, G.ow b = some key → key ≠ .arr k → G'.ow b = some key := fun b key hb hne => by simp [G', hb, hne]
 have hA : Adv G w G' w := ⟨⟨rfl, Nat.le_refl _⟩, rfl, rfl, Nat.le_refl _, fun b hb ho => ⟨rfl, e1 b ho⟩⟩
 have hs : qmm (s.M k) .dead := by rw [hk]; trivial
 have hG : ∀ j e, Dm s.M j e → G'.β j = G.β j ∧ G'.hd j e = G.hd j e := fun j e hj => ⟨rfl, rfl⟩
 have hw : ∀ b, b < w.heap.size → ¬ B b → G.ow b = none → w.heap[b]? = w.heap[b]? ∧ ¬ B b ∧ G'.ow b = none := fun b _ hn ho => ⟨rfl, hn, e1 b ho⟩
 refine ⟨G', hA, h.update hA k .dead hs hG (fun b key _ _ ho hkey => ⟨rfl, e2 _ _ ho (fun e => by subst e; exact hkey rfl)⟩) (fun b hb => h.ol b (fun hn => hb (e1 b hn))) trivial, ?_, fun _ _ => rfl, fun b key hb => ?_⟩
 ·have hown := h.mem k _ hk
  simp only [BlkRel] at hown
  rcases hown with ⟨hv, rfl⟩ | ⟨b, o, cap, c, el, h1, h2, h3, h4, h5, h6, h7, h7', h8⟩
  ·rw [hv]; exact .slnil sz
  ·rw [h1]
   refine .sl sz xs b o cap (fun m => c.getD (o + m) undef) h2 (fun _ => ⟨h4, by simp [G', h3]⟩) h7' h7 (fun m x hx => ?_) (fun m x hx => ?_)
   ·obtain ⟨u, hu, _⟩ := h8 m x hx
    rw [q29 h5, hu]
    simp [hu]
   ·obtain ⟨u, hu, hr⟩ := h8 m x hx
    have : c.getD (o + m) undef = u := by simp [hu]
    simp only [this]
    exact hr.mono (fun j e => q35 hs) hG hw
 ·simp only [G'] at hb
  split at hb
  ·cases hb
  ·exact hb
def AVal.withCells (y : AVal) (cs : List AVal) : AVal :=
 match y with
 | .agg _ => .agg cs
 | _ => cs.headD .undef
theorem qaz {y : AVal} {cs : List AVal} (h : cs.length = y.cells.length) (h1 : ∀ z ∈ cs, z.one = true) : (y.withCells cs).cells = cs := by
 have key : ∀ cs : List AVal, cs.length = 1 → (∀ z ∈ cs, z.one = true) → (cs.headD .undef).cells = cs := by
  intro cs hl h1
  match cs, hl with
  | [z], _ =>
   have := h1 z (by simp)
   cases z <;> first | rfl | (simp [AVal.one] at this)
 cases y <;> first | rfl | exact key cs (by simpa [AVal.cells] using h) h1
def q66 (TE : TyE) (M : Mem) (t : TypeId) (x v : AVal) : Option (List (Nat × ABlk)) :=
 match TE t with
 | none => none
 | some i =>
  if v.cells.length = i.size ∧ v.cells.all AVal.one = true ∧ v.known = true then
   match x with
   | .ptr k off =>
    match M k with
    | some (.cells cs) =>
     if off + i.size ≤ cs.length then
      (match v, cs[off]? with
       | .os k' e, some .hole =>
        (match M k' with
         | some (.arr e' sz xs) => if e = e' then some [(k, .cells (cs.set off (.own sz xs))), (k', .dead)] else none
         | _ => none)
       | _, _ => some [(k, .cells (q0m cs off v.cells))])
     else none
    | _ => none
   | .eptr k e sz j off =>
    match M k with
    | some (.arr e' sz' xs) =>
     if e = e' ∧ sz = sz' then
      (match xs[j]? with
       | some y => if off + i.size ≤ y.cells.length then some [(k, .arr e sz (xs.set j (y.withCells (q0m y.cells off v.cells))))] else none
       | none => none)
     else none
    | _ => none
   | _ => none
  else none
def ResU (P : Program) (n : Nat) (B : Nat → Prop) (G : Gh) (s : AS) (a : Act) (w : World) (m : Sem Unit) (ups : List (Nat × ABlk)) : Prop :=
 ∃ w' G', m.run P w = .ok () w' ∧ Adv G w G' w' ∧ Rel n B G' ⟨s.T, ap s.M ups⟩ a w'
theorem ones_of {D : Nat → Nat → Prop} {G : Gh} {B : Nat → Prop} {w : World} {x : AVal} {v : Value} (h : VR D G B w x v) (hk : x.known = true) (h1 : x.cells.all AVal.one = true) : ∀ u ∈ v.cells.toList, u.oneCell' = true := by
 obtain ⟨hs, hc⟩ := h.cells hk
 intro u hu
 obtain ⟨i, hi, hu'⟩ := List.getElem_of_mem hu
 have hi' : i < x.cells.length := by rw [← hs]; simpa using hi
 obtain ⟨u', hu2, hr⟩ := hc i x.cells[i] (List.getElem?_eq_getElem hi')
 have e : u' = u := by
  have : v.cells[i]? = some u := by rw [← hu']; simp [Array.getElem?_eq_getElem (by simpa using hi : i < v.cells.size)]
  rw [this] at hu2
  exact (Option.some.inj hu2).symm
 subst e
 exact hr.oneCell (List.all_eq_true.1 h1 _ (List.getElem_mem hi'))
theorem z0k {sz j : Nat} {xs : List AVal} {y y' : AVal} (h : ∀ x ∈ xs, x.cells.length = sz) (hj : xs[j]? = some y) (hy : y'.cells.length = sz) : flat (xs.set j y') = q0m (flat xs) (j * sz) y'.cells := by
 induction xs generalizing j with
 | nil => simp at hj
 | cons z xs ih =>
  have hz : z.cells.length = sz := h z (by simp)
  cases j with
  | zero =>
   simp only [List.set_cons_zero, q2l, q0m, Nat.zero_mul, List.take_zero, List.nil_append, Nat.zero_add, hy]
   rw [← hz, List.drop_left]
  | succ j =>
   simp only [List.getElem?_cons_succ] at hj
   simp only [List.set_cons_succ, q2l]
   rw [ih (fun x hx => h x (by simp [hx])) hj]
   unfold q0m
   have e1 : (j + 1) * sz = z.cells.length + j * sz := by rw [hz, Nat.succ_mul]; omega
   rw [e1, List.take_length_add_append, Nat.add_assoc, List.drop_length_add_append]
   simp [List.append_assoc]
theorem qei {α : Type} {cs ds vs : List α} {o i : Nat} (ho : o + ds.length ≤ cs.length) (hd : ds = (cs.drop o).take ds.length) (hi : i + vs.length ≤ ds.length) : q0m cs o (q0m ds i vs) = q0m cs (o + i) vs := by
 apply List.ext_getElem?
 intro m
 have hl : (q0m ds i vs).length = ds.length := q0x hi
 have hds : ∀ j, j < ds.length → ds[j]? = cs[o + j]? := fun j hj => by rw [hd, List.getElem?_take, if_pos hj, List.getElem?_drop]
 have L := q0v (cs := cs) (off := o) (vs := q0m ds i vs) (by rw [hl]; exact ho) m
 have R := q0v (cs := cs) (off := o + i) (vs := vs) (by omega) m
 rw [L, R, hl]
 clear L R
 by_cases c1 : m < o
 ·rw [if_pos c1, if_pos (by omega)]
 ·rw [if_neg c1]
  by_cases c2 : m < o + ds.length
  ·rw [if_pos c2]
   have I := q0v hi (m - o)
   rw [I]
   clear I
   by_cases c3 : m - o < i
   ·have c3' : m < o + i := by omega
    rw [if_pos c3, if_pos c3', hds _ (by omega)]; congr 1; omega
   ·have c3' : ¬ m < o + i := by omega
    rw [if_neg c3, if_neg c3']
    by_cases c4 : m - o < i + vs.length
    ·have c4' : m < o + i + vs.length := by omega
     rw [if_pos c4, if_pos c4']; congr 1; omega
    ·have c4' : ¬ m < o + i + vs.length := by omega
     rw [if_neg c4, if_neg c4', hds _ (by omega)]; congr 1; omega
  ·rw [if_neg c2, if_neg (by omega), if_neg (by omega)]
theorem z3a {P : Program} {TE : TyE} (hT : q2r P TE) {n : Nat} {B : Nat → Prop} {G : Gh} {s : AS} {a : Act} {w : World} (h : Rel n B G s a w) {t : TypeId} {x v : AVal} {x' v' : Value}
 (hx : VR (Dm s.M) G B w x x') (hv : VR (Dm s.M) G B w v v') {ups : List (Nat × ABlk)} (hl : q66 TE s.M t x v = some ups) : ResU P n B G s a w (Instr.storeAt t x' v') ups := by
 unfold q66 at hl
 cases hi : TE t with
 | none => simp [hi] at hl
 | some i =>
  simp only [hi] at hl
  split at hl
  case isFalse => cases hl
  rename_i hcond
  obtain ⟨hlen, hone, hkn⟩ := hcond
  obtain ⟨hvs, hvc⟩ := hv.cells hkn
  have hones := ones_of hv hkn hone
  have hvs' : v'.cells.size = i.size := by rw [hvs, hlen]
  cases hx <;> simp only [reduceCtorEq] at hl
  case ptr k off hD =>
   cases hm : s.M k with
   | none => simp [hm] at hl
   | some blk =>
    cases blk with
    | arr e sz xs => simp [hm] at hl
    | dead => simp [hm] at hl
    | map _ => simp [hm] at hl
    | note _ _ => simp [hm] at hl
    | cells cs =>
     simp only [hm] at hl
     split at hl
     case isFalse => cases hl
     rename_i hfit
     obtain ⟨c, el, b1, b2, b3, b4, b5⟩ := h.mem k _ hm
     have hrun := q85 hT hi (G.β k) off v' w c el b3 hvs' (by rw [b4]; exact hfit) hones
     have hrun' : (Instr.storeAt t (.pointer (some ⟨G.β k, off, none⟩)) v').run P w = .ok () (w.setRow (G.β k) (q0m c.toList off v'.cells.toList).toArray) := by
      simp [Instr.storeAt, Instr.sureAddr, hrun, q0m, hvs']
     have hcells : ∀ (j : Nat) (x : AVal), (q0m cs off v.cells)[j]? = some x → ∃ u, (q0m c.toList off v'.cells.toList)[j]? = some u ∧ CellRel (Dm s.M) G B w k j x u := by
      intro j x hj
      rw [q0v (by rw [hlen]; exact hfit)] at hj
      rw [q0v (by simp [hvs', b4]; exact hfit)]
      by_cases c1 : j < off
      ·rw [if_pos c1] at hj ⊢
       obtain ⟨u, hu, hr⟩ := b5 j x hj
       exact ⟨u, by simpa using hu, hr⟩
      ·rw [if_neg c1] at hj ⊢
       have e : v'.cells.toList.length = v.cells.length := by simp [hvs]
       rw [e]
       by_cases c2 : j < off + v.cells.length
       ·rw [if_pos c2] at hj ⊢
        obtain ⟨u, hu, hr⟩ := hvc _ x hj
        exact ⟨u, by simpa using hu, CellRel.of_VR hr⟩
       ·rw [if_neg c2] at hj ⊢
        obtain ⟨u, hu, hr⟩ := b5 j x hj
        exact ⟨u, by simpa using hu, hr⟩
     have plainCase : ups = [(k, .cells (q0m cs off v.cells))] → ResU P n B G s a w (Instr.storeAt t (.pointer (some ⟨G.β k, off, none⟩)) v') ups := by
      rintro rfl
      obtain ⟨hA, hR⟩ := h.set_box hm b3 (q0m cs off v.cells) (q0m c.toList off v'.cells.toList).toArray (by
       rw [List.size_toArray, q0x (by simp [hvs', b4]; exact hfit), q0x (by rw [hlen]; exact hfit)]; simpa using b4) (fun j x hj => by
        obtain ⟨u, hu, hr⟩ := hcells j x hj
        exact ⟨u, by simpa using hu, hr⟩)
      exact ⟨_, G, hrun', hA, hR⟩
     split at hl
     ·rename_i k' e hhole
      cases hk' : s.M k' with
      | none => simp [hk'] at hl
      | some blk' =>
       cases blk' with
       | cells _ => simp [hk'] at hl
       | dead => simp [hk'] at hl
       | map _ => simp [hk'] at hl
       | note _ _ => simp [hk'] at hl
       | arr e' sz xs =>
        simp only [hk'] at hl
        split at hl
        case isFalse => cases hl
        rename_i hee
        subst hee
        simp only [Option.some.injEq] at hl
        subst hl
        have hlt : off < cs.length := by
         rcases Nat.lt_or_ge off cs.length with h' | h'
         ·exact h'
         ·rw [List.getElem?_eq_none h'] at hhole; cases hhole
        have hsz1 : i.size = 1 := by rw [← hlen]; rfl
        have hv1 : v' = G.hd k' e := by cases hv; assumption
        have hv2 : v'.cells = #[v'] := by
         have := G.hd1 k' e
         rw [hv1]
         cases hh : G.hd k' e <;> simp [hh, Value.oneCell'] at this <;> rfl
        have hself : ∀ (j : Nat) (x : AVal), cs[j]? = some x → ∃ u, (q0m c.toList off v'.cells.toList).toArray[j]? = some u ∧ CellRel (Dm s.M) G B w k j x u := by
         intro j x hj
         by_cases hjo : j = off
         ·subst hjo
          rw [hhole] at hj
          simp only [Option.some.injEq] at hj
          subst hj
          refine ⟨v', ?_, trivial⟩
          rw [List.getElem?_toArray, q0v (by simp [hvs', b4]; exact hfit), if_neg (by omega), if_pos (by simp [hv2])]
          simp [hv2]
         ·obtain ⟨u, hu, hr⟩ := b5 j x hj
          refine ⟨u, ?_, hr⟩
          rw [List.getElem?_toArray, q0v (by simp [hvs', b4]; exact hfit)]
          have : v'.cells.toList.length = 1 := by simp [hv2]
          rw [this]
          split
          ·simpa using hu
          ·rw [if_neg (by omega)]; simpa using hu
        obtain ⟨hA, hR⟩ := h.set_box hm b3 cs (q0m c.toList off v'.cells.toList).toArray (by
         rw [List.size_toArray, q0x (by simp [hvs', b4]; exact hfit)]; simpa using b4) hself
        have hM : upd s.M k (some (.cells cs)) = s.M := by
         funext j
         by_cases hj : j = k
         ·subst hj; rw [q00, hm]
         ·rw [q0h _ _ hj]
        rw [hM] at hR
        obtain ⟨G', hA', hR'⟩ := give_ok hR hm hk' hhole (by
         rw [q29 (q7k _ b3), List.getElem?_toArray, q0v (by simp [hvs', b4]; exact hfit), if_neg (by omega), if_pos (by simp [hv2]), hv2, ← hv1]
         simp)
        exact ⟨_, G', hrun', hA.trans hA', hR'⟩
     ·exact plainCase (by simpa using hl.symm)
  case eptr k e sz j off b o len cap hD hh =>
   cases hm : s.M k with
   | none => simp [hm] at hl
   | some blk =>
    cases blk with
    | cells cs => simp [hm] at hl
    | dead => simp [hm] at hl
    | map _ => simp [hm] at hl
    | note _ _ => simp [hm] at hl
    | arr e' sz' xs =>
     simp only [hm] at hl
     split at hl
     case isFalse => cases hl
     rename_i he
     obtain ⟨rfl, rfl⟩ := he
     cases hj : xs[j]? with
     | none => simp [hj] at hl
     | some y =>
      simp only [hj] at hl
      split at hl
      case isFalse => cases hl
      rename_i hfit
      simp only [Option.some.injEq] at hl
      subst hl
      have hown := h.mem k _ hm
      simp only [BlkRel] at hown
      rcases hown with ⟨hn, _⟩ | ⟨b', o', cap', c, el, h1, h2, h3, h4, h5, h6, h7, h7', h8⟩
      ·rw [hh] at hn; cases hn
      ·rw [hh] at h1
       simp only [Value.slice.injEq, Option.some.injEq, Addr.mk.injEq] at h1
       obtain ⟨⟨rfl, rfl, _⟩, rfl, rfl⟩ := h1
       have hy : y.cells.length = sz := h7 y (List.mem_of_getElem? hj)
       have hwc : (y.withCells (q0m y.cells off v.cells)).cells = q0m y.cells off v.cells := qaz (q0x (by rw [hlen]; exact hfit)) (fun z hz => by
        unfold q0m at hz
        simp only [List.mem_append] at hz
        have hin : ∀ z ∈ y.cells, z.one = true := fun z hz => h7' z (List.mem_flatMap.2 ⟨y, List.mem_of_getElem? hj, hz⟩)
        rcases hz with (hz | hz) | hz
        ·exact hin z (List.mem_of_mem_take hz)
        ·exact List.all_eq_true.1 hone z hz
        ·exact hin z (List.mem_of_mem_drop hz))
       have hjl : j < xs.length := by
        rcases Nat.lt_or_ge j xs.length with h' | h'
        ·exact h'
        ·rw [List.getElem?_eq_none h'] at hj; cases hj
       have hfl : (flat xs).length = xs.length * sz := q0q h7
       have hjsz : j * sz + sz ≤ xs.length * sz := by
        have := Nat.mul_le_mul_right sz hjl
        rw [Nat.succ_mul] at this
        exact this
       have hxc : xs.length * sz ≤ cap * sz := Nat.mul_le_mul_right _ h2
       have hyc : (q0m y.cells off v.cells).length = sz := by rw [q0x (by rw [hlen]; exact hfit), hy]
       have hrun := q85 hT hi b (o + j * sz + off) v' w c el h5 hvs' (by rw [hy] at hfit; omega) hones
       have hfs : flat (xs.set j (y.withCells (q0m y.cells off v.cells))) = q0m (flat xs) (j * sz + off) v.cells := by
        rw [z0k h7 hj (by rw [hwc]; exact hyc), hwc]
        refine qei (by rw [hy, hfl]; exact hjsz) ?_ (by rw [hlen]; exact hfit)
        apply List.ext_getElem?
        intro m
        by_cases hm' : m < sz
        ·rw [List.getElem?_take, if_pos (by omega), List.getElem?_drop, q9d h7 hj hm']
        ·rw [List.getElem?_eq_none (by omega), List.getElem?_eq_none (by simp; omega)]
       obtain ⟨G', hA, hR, _⟩ := h.set_arr hm hh e o (.inr ⟨rfl, rfl⟩) (xs.set j (y.withCells (q0m y.cells off v.cells))) (fun _ => by simp) cap (by simpa using h2) (fun _ => rfl) h5 h3
        (q0m c.toList (o + j * sz + off) v'.cells.toList).toArray (by rw [List.size_toArray, q0x (by simp [hvs']; rw [hy] at hfit; omega)]; simpa using h6)
        (fun z hz => by
         rcases List.mem_or_eq_of_mem_set hz with h' | h'
         ·exact h7 z h'
         ·subst h'; rw [hwc]; exact hyc)
        (fun z hz => by
         rw [hfs] at hz
         unfold q0m at hz
         simp only [List.mem_append] at hz
         rcases hz with (hz | hz) | hz
         ·exact h7' z (List.mem_of_mem_take hz)
         ·exact List.all_eq_true.1 hone z hz
         ·exact h7' z (List.mem_of_mem_drop hz))
        (fun m z hz => by
         rw [hfs] at hz
         have hfit2 : j * sz + off + v.cells.length ≤ (flat xs).length := by rw [hfl, hlen]; rw [hy] at hfit; omega
         rw [q0v hfit2] at hz
         rw [List.getElem?_toArray, q0v (by simp [hvs']; rw [hy] at hfit; omega)]
         have e2 : v'.cells.toList.length = v.cells.length := by simp [hvs]
         rw [e2]
         by_cases c1 : m < j * sz + off
         ·rw [if_pos c1] at hz
          rw [if_pos (by omega)]
          obtain ⟨u, hu, hr⟩ := h8 m z hz
          exact ⟨u, by simpa using hu, hr⟩
         ·rw [if_neg c1] at hz
          rw [if_neg (by omega)]
          by_cases c2 : m < j * sz + off + v.cells.length
          ·rw [if_pos c2] at hz
           rw [if_pos (by omega)]
           obtain ⟨u, hu, hr⟩ := hvc _ z hz
           exact ⟨u, by rw [show o + m - (o + j * sz + off) = m - (j * sz + off) by omega]; simpa using hu, hr⟩
          ·rw [if_neg c2] at hz
           rw [if_neg (by omega)]
           obtain ⟨u, hu, hr⟩ := h8 m z hz
           exact ⟨u, by simpa using hu, hr⟩)
       refine ⟨_, G', ?_, hA, hR⟩
       simp [Instr.storeAt, Instr.sureAddr, hrun, q0m, hvs']

theorem q36 (b o n : Nat) : Addr.add ⟨b, o, none⟩ n = ⟨b, o + n, none⟩ := Addr.add_lit b o n
theorem VR.sptr_drop {D : Nat → Nat → Prop} {G : Gh} {B : Nat → Prop} {w : World} {cs : List AVal} {b off : Nat} (h : VR D G B w (.sptr cs) (.pointer (some ⟨b, off, none⟩))) (m : Nat) :
 VR D G B w (.sptr (cs.drop m)) (.pointer (some ⟨b, off + m, none⟩)) := by
 cases h with
 | sptr cs b off f hB hc hv =>
  refine .sptr _ b (off + m) (fun n => f (m + n)) (fun hne => hB (fun e => hne (by simp [e]))) (fun n x hx => ?_) (fun n x hx => ?_)
  ·rw [List.getElem?_drop] at hx
   rw [Nat.add_assoc]
   exact hc _ x hx
  ·rw [List.getElem?_drop] at hx
   exact hv _ x hx
def qd2 (x : AVal) (m : Nat) : Option AVal :=
 match x with
 | .ptr k off => some (.ptr k (off + m))
 | .eptr k e sz j off => some (.eptr k e sz j (off + m))
 | .sptr cs => some (.sptr (cs.drop m))
 | _ => none
theorem z0b {D : Nat → Nat → Prop} {G : Gh} {B : Nat → Prop} {w : World} {x y : AVal} {v : Value} {m : Nat} (h : VR D G B w x v) (hm : qd2 x m = some y) :
 ∃ b off, v = .pointer (some ⟨b, off, none⟩) ∧ VR D G B w y (.pointer (some ⟨b, off + m, none⟩)) := by
 cases h <;> simp only [qd2, Option.some.injEq, reduceCtorEq] at hm
 case ptr k off hD => subst hm; exact ⟨_, _, rfl, .ptr _ _ hD⟩
 case eptr k e sz i off b o len cap hD hh => subst hm; exact ⟨_, _, rfl, by rw [Nat.add_assoc]; exact .eptr _ _ _ _ _ _ _ _ _ hD hh⟩
 case sptr cs b off f hB hc hv => subst hm; exact ⟨_, _, rfl, (VR.sptr cs b off f hB hc hv).sptr_drop m⟩
def q45 (TE : TyE) (t : TypeId) (x : AVal) (f : Nat) : Option AVal :=
 match TE t with
 | some ⟨.struct fs, _, _, _⟩ =>
  match fs[f]? with
  | some (ft, off) =>
   match TE ft with
   | some fi => if fi.size = 0 then none else qd2 x off
   | none => none
  | none => none
 | _ => none
theorem qfq {a : Array Field} {fs : List (TypeId × Nat)} (h : a.toList.map (fun f => (f.type, f.offset)) = fs) {f : Nat} {ft : TypeId} {off : Nat} (hf : fs[f]? = some (ft, off)) :
 ∃ fld, a[f]? = some fld ∧ fld.type = ft ∧ fld.offset = off := by
 rw [← h, List.getElem?_map] at hf
 cases ha : a[f]? with
 | none => simp [ha] at hf
 | some fld =>
  simp [ha] at hf
  exact ⟨fld, rfl, hf.1, hf.2⟩
theorem qfr {P : Program} {TE : TyE} (hT : q2r P TE) {D : Nat → Nat → Prop} {G : Gh} {B : Nat → Prop} {w : World} {t : TypeId} {x : AVal} {x' : Value} (hx : VR D G B w x x') {f : Nat} {v : AVal}
 (hl : q45 TE t x f = some v) : ∃ v', (Instr.fieldAt t x' f).run P w = .ok v' w ∧ VR D G B w v v' := by
 unfold q45 at hl
 split at hl
 ·rename_i fs s1 b1 z1 hi
  split at hl
  ·rename_i ft off hf
   split at hl
   ·rename_i fi hfi
    split at hl
    ·cases hl
    ·rename_i hne
     obtain ⟨a, ha, hm⟩ := q2s hT hi rfl
     obtain ⟨fld, h1, h2, h3⟩ := qfq hm hf
     obtain ⟨b, o, rfl, hv⟩ := z0b hx hl
     refine ⟨_, ?_, hv⟩
     have hs : (sizeOf fld.type).run P w = .ok fi.size w := by rw [h2]; exact q0n hT hfi w
     simp [Instr.fieldAt, run_underlying ha, h1, Instr.sureAddr, fieldPlace, hs, hne, q36, h3]
   ·cases hl
  ·cases hl
 ·cases hl
def q8p (TE : TyE) (t : TypeId) (x : AVal) (f : Nat) : Option AVal :=
 match TE t, x with
 | some ⟨.struct fs, _, _, _⟩, .agg cs =>
  match fs[f]? with
  | some (ft, off) =>
   match TE ft with
   | some fi => q4s fi off cs
   | none => none
  | none => none
 | _, _ => none
theorem q8c {P : Program} {TE : TyE} (hT : q2r P TE) {D : Nat → Nat → Prop} {G : Gh} {B : Nat → Prop} {w : World} {t : TypeId} {i : TyI} (hi : TE t = some i) {cs : List AVal} {vs : Array Value} {off : Nat} {v : AVal}
 (hl : vs.size = cs.length) (h : ∀ (n : Nat) (x : AVal) (v : Value), cs[n]? = some x → vs[n]? = some v → VR D G B w x v) (hp : q4s i off cs = some v) :
 ∃ v', (part t vs off).run P w = .ok v' w ∧ VR D G B w v v' := by
 unfold q4s at hp
 unfold part
 simp only [Sem.run_bind, qdg hT hi, Result.andThen]
 cases ha : i.td.isAgg
 ·simp only [ha, Bool.false_eq_true, if_false] at hp ⊢
  have hlt : off < vs.size := by
   rw [hl]
   rcases Nat.lt_or_ge off cs.length with h' | h'
   ·exact h'
   ·rw [List.getElem?_eq_none h'] at hp; cases hp
  have hv : vs[off]? = some vs[off] := by simp [hlt]
  exact ⟨vs[off], by simp [hv], h off v _ hp hv⟩
 ·simp only [ha, if_true] at hp ⊢
  split at hp
  ·rename_i hle
   simp only [Option.some.injEq] at hp
   subst hp
   refine ⟨.agg (vs.extract off (off + i.size)), by simp [q0n hT hi], .agg _ _ (by simp; omega) fun n x u hx hu => ?_⟩
   have hn : n < i.size := by
    rcases Nat.lt_or_ge n i.size with h' | h'
    ·exact h'
    ·rw [List.getElem?_take_eq_none h'] at hx; cases hx
   simp only [List.getElem?_take, hn, if_true, List.getElem?_drop] at hx
   refine h (off + n) x u hx ?_
   rw [Array.getElem?_extract] at hu
   split at hu
   ·exact hu
   ·cases hu
  ·cases hp
theorem zdg {P : Program} {TE : TyE} (hT : q2r P TE) {D : Nat → Nat → Prop} {G : Gh} {B : Nat → Prop} {w : World} {t : TypeId} {x : AVal} {x' : Value} (hx : VR D G B w x x') {f : Nat} {v : AVal}
 (hl : q8p TE t x f = some v) : ∃ v', (Instr.field t x' f).run P w = .ok v' w ∧ VR D G B w v v' := by
 unfold q8p at hl
 split at hl
 ·rename_i fs s1 b1 z1 cs hi
  split at hl
  ·rename_i ft off hf
   split at hl
   ·rename_i fi hfi
    obtain ⟨a, ha, hm⟩ := q2s hT hi rfl
    obtain ⟨fld, h1, h2, h3⟩ := qfq hm hf
    cases hx with
    | agg _ vs hlen h =>
     subst h2
     obtain ⟨v', hr, hv⟩ := q8c hT hfi hlen h hl
     refine ⟨v', ?_, hv⟩
     simp [Instr.field, run_underlying ha, h1, asAgg, h3, hr]
   ·cases hl
  ·cases hl
 ·cases hl
def q1o (TE : TyE) (M : Mem) (t : TypeId) (x i : AVal) : Option AVal :=
 match TE t, i with
 | some ⟨.slice e, _, _, _⟩, .int _ n =>
  match TE e with
  | none => none
  | some ei =>
   match x with
   | .sl sz xs => if sz = ei.size ∧ 0 ≤ n ∧ n < xs.length then (match xs[n.toNat]? with | some y => some (.sptr y.cells) | none => none) else none
   | .os k e' =>
    match M k with
    | some (.arr e0 sz xs) => if e' = e0 ∧ sz = ei.size ∧ 0 ≤ n ∧ n < xs.length then some (.eptr k e' sz n.toNat 0) else none
    | _ => none
   | .vw k e' sz i0 m => if sz = ei.size ∧ 0 ≤ n ∧ n < m then some (.eptr k e' sz (i0 + n.toNat) 0) else none
   | _ => none
 | some ⟨.arr m e, _, _, _⟩, .int _ n =>
  match TE e with
  | none => none
  | some ei => if 0 ≤ n ∧ n < m then qd2 x (n.toNat * ei.size) else none
 | _, _ => none
theorem VR.elem {D : Nat → Nat → Prop} {G : Gh} {B : Nat → Prop} {w : World} {sz : Nat} {xs : List AVal} {b off len cap : Nat} (h : VR D G B w (.sl sz xs) (.slice (some ⟨b, off, none⟩) len cap)) {j : Nat} {y : AVal}
 (hj : xs[j]? = some y) : VR D G B w (.sptr y.cells) (.pointer (some ⟨b, off + j * sz, none⟩)) := by
 cases h with
 | slemp => simp at hj
 | sl _ _ _ _ _ f hcap hB hone hsz hc hv =>
  have hy : y.cells.length = sz := hsz y (List.mem_of_getElem? hj)
  have hf : ∀ (m : Nat) (x : AVal), y.cells[m]? = some x → (flat xs)[j * sz + m]? = some x := fun m x hx => by
   have hlt : m < sz := by
    rw [← hy]
    rcases Nat.lt_or_ge m y.cells.length with h' | h'
    ·exact h'
    ·rw [List.getElem?_eq_none h'] at hx; cases hx
   rw [q9d hsz hj hlt, hx]
  refine .sptr _ b _ (fun m => f (j * sz + m)) (fun hne => hB (fun e => ?_)) (fun m x hx => ?_) (fun m x hx => hv _ x (hf m x hx))
  ·cases hc' : y.cells with
   | nil => exact hne hc'
   | cons z zs =>
    have := hf 0 z (by simp [hc'])
    rw [e] at this
    cases this
  ·rw [Nat.add_assoc]
   exact hc _ x (hf m x hx)
theorem qfi {P : Program} {TE : TyE} (hT : q2r P TE) {n : Nat} {B : Nat → Prop} {G : Gh} {s : AS} {a : Act} {w : World} (h : Rel n B G s a w) {t : TypeId} {x i : AVal} {x' i' : Value}
 (hx : VR (Dm s.M) G B w x x') (hi : VR (Dm s.M) G B w i i') {v : AVal} (hl : q1o TE s.M t x i = some v) : ∃ v', (Instr.indexAt t x' i').run P w = .ok v' w ∧ VR (Dm s.M) G B w v v' := by
 unfold q1o at hl
 split at hl
 ·rename_i e s1 b1 z1 kk m ht
  cases hi
  have hu := q1z hT ht rfl
  split at hl
  ·cases hl
  ·rename_i ei hei
   split at hl
   ·rename_i sz xs
    split at hl
    ·rename_i hc
     obtain ⟨h1, h2, h3⟩ := hc
     split at hl
     ·rename_i y hy
      simp only [Option.some.injEq] at hl
      subst hl
      cases hx with
      | slnil => simp at hy
      | slemp => simp at hy
      | sl _ _ b off cap f hcap hB hone hsz hcc hv =>
       refine ⟨_, ?_, (VR.sl sz xs b off cap f hcap hB hone hsz hcc hv).elem hy⟩
       simp [Instr.indexAt, run_underlying hu, asIntOf, h2, h3, q0n hT hei, q36, ← h1]
     ·cases hl
    ·cases hl
   ·rename_i k e'
    split at hl
    ·rename_i e0 sz xs hm
     split at hl
     ·rename_i hc
      obtain ⟨rfl, h1, h2, h3⟩ := hc
      simp only [Option.some.injEq] at hl
      subst hl
      cases hx with
      | os _ _ hD _ hv =>
       have hown := h.mem k _ hm
       simp only [BlkRel] at hown
       rcases hown with ⟨hn, rfl⟩ | ⟨b, o, cap, c, el, q1, q2, q3, q4, q5, q6, q7, q7', q8⟩
       ·simp at h3; omega
       ·rw [hv, q1]
        refine ⟨.pointer (some ⟨b, o + m.toNat * sz + 0, none⟩), ?_, .eptr k e' sz m.toNat 0 b o _ cap hD q1⟩
        simp [Instr.indexAt, run_underlying hu, asIntOf, h2, h3, q0n hT hei, q36, ← h1]
     ·cases hl
    ·cases hl
   ·rename_i k e' sz i0 m0
    split at hl
    ·rename_i hc
     obtain ⟨h1, h2, h3⟩ := hc
     simp only [Option.some.injEq] at hl
     subst hl
     cases hx with
     | vw _ _ _ _ _ b o len cap hD hh hn =>
      refine ⟨.pointer (some ⟨b, o + (i0 + m.toNat) * sz + 0, none⟩), ?_, .eptr k e' sz (i0 + m.toNat) 0 b o len cap hD hh⟩
      simp [Instr.indexAt, run_underlying hu, asIntOf, h2, h3, q0n hT hei, q36, ← h1, Nat.add_mul, Nat.add_assoc]
    ·cases hl
   ·cases hl
 ·rename_i len e s1 b1 z1 kk m ht
  cases hi
  have hu := qb3 hT ht rfl
  split at hl
  ·cases hl
  ·rename_i ei hei
   split at hl
   ·rename_i hc
    obtain ⟨b, o, rfl, hv⟩ := z0b hx hl
    refine ⟨_, ?_, hv⟩
    simp [Instr.indexAt, run_underlying hu, asIntOf, Instr.sureAddr, hc, q0n hT hei, q36]
   ·cases hl
 ·cases hl
def q8k (TE : TyE) (t : TypeId) (x i : AVal) : Option AVal :=
 match TE t, x, i with
 | some ⟨.str, _, _, _⟩, .str s, .int _ n =>
  if 0 ≤ n then (match s[n.toNat]? with | some b => some (.int .u8 b.toNat) | none => none) else none
 | some ⟨.arr m e, _, _, _⟩, .agg cs, .int _ n =>
  match TE e with
  | some ei => if 0 ≤ n ∧ n < m then q4s ei (n.toNat * ei.size) cs else none
  | none => none
 | _, _, _ => none
theorem zd4 {P : Program} {TE : TyE} (hT : q2r P TE) {D : Nat → Nat → Prop} {G : Gh} {B : Nat → Prop} {w : World} {t : TypeId} {x i : AVal} {x' i' : Value} (hx : VR D G B w x x') (hi : VR D G B w i i') {v : AVal}
 (hl : q8k TE t x i = some v) : ∃ v', (Instr.index t x' i').run P w = .ok v' w ∧ VR D G B w v v' := by
 unfold q8k at hl
 split at hl
 ·rename_i s1 b1 z1 s kk m ht
  cases hi
  cases hx
  have hu := qb2 hT ht rfl
  split at hl
  ·rename_i h0
   split at hl
   ·rename_i b hb
    simp only [Option.some.injEq] at hl
    subst hl
    exact ⟨_, by simp [Instr.index, asIntOf, run_underlying hu, h0, hb], .int _ _⟩
   ·cases hl
  ·cases hl
 ·rename_i len e s1 b1 z1 cs kk m ht
  cases hi
  have hu := qb3 hT ht rfl
  split at hl
  ·rename_i ei hei
   split at hl
   ·rename_i hc
    cases hx with
    | agg _ vs hlen h =>
     obtain ⟨v', hr, hv⟩ := q8c hT hei hlen h hl
     exact ⟨v', by simp [Instr.index, asIntOf, run_underlying hu, hc, q0n hT hei, hr], hv⟩
   ·cases hl
  ·cases hl
 ·cases hl
theorem q7v {P : Program} {TE : TyE} (hT : q2r P TE) {t : TypeId} {i : TyI} (hi : TE t = some i) {D : Nat → Nat → Prop} {G : Gh} {B : Nat → Prop} {w : World} :
 i.zero.cells.size = i.zeros.length ∧ ∀ (n : Nat) (x : AVal), i.zeros[n]? = some x → ∃ u, i.zero.cells[n]? = some u ∧ VR D G B w x u := by
 refine ⟨by simp [TyI.zeros], fun n x hx => ?_⟩
 simp only [TyI.zeros, List.getElem?_map] at hx
 cases hz : i.zero.cells[n]? with
 | none => simp [hz] at hx
 | some u =>
  simp [hz] at hx
  subst hx
  exact ⟨u, rfl, z17 u⟩
def q7e (TE : TyE) (M : Mem) (t : TypeId) (d : Option Tmp) : AR :=
 match TE t, d with
 | some i, some d => match M d with | none => some (.ptr d 0, [(d, .cells i.zeros)]) | some _ => none
 | _, _ => none
theorem zel {P : Program} {TE : TyE} (hT : q2r P TE) {n : Nat} {B : Nat → Prop} {G : Gh} {s : AS} {a : Act} {w : World} (h : Rel n B G s a w) {t : TypeId} {d : Option Tmp} {v : AVal} {ups : List (Nat × ABlk)}
 (hl : q7e TE s.M t d = some (v, ups)) : Res P n B G s a w (Instr.alloc t true (.tuple #[])) v ups := by
 unfold q7e at hl
 split at hl
 ·rename_i i d hi
  split at hl
  ·rename_i hd
   simp only [Option.some.injEq, Prod.mk.injEq] at hl
   obtain ⟨rfl, rfl⟩ := hl
   obtain ⟨z1, z2⟩ := q7v hT hi (D := Dm s.M) (G := G) (B := B) (w := w)
   obtain ⟨G', hA, hR, hb⟩ := h.new_box hd i.zeros i.zero.cells t z1 z2
   refine ⟨.pointer (some ⟨w.heap.size, 0, none⟩), w.alloc (.cells i.zero.cells t), G', ?_, hA, hR, ?_⟩
   ·simp [Instr.alloc, q0w hT hi, newVar, newRow]
   ·rw [← hb]; exact .ptr d 0 (by simp [ap, Dm, q00])
  ·cases hl
 ·cases hl
def boxA (M : Mem) (d : Option Tmp) (x : AVal) : AR :=
 match d with
 | some d => if x.known then (match M d with | none => some (.ptr d 0, [(d, .cells x.cells)]) | some _ => none) else none
 | none => none
theorem boxA_ok {P : Program} {n : Nat} {B : Nat → Prop} {G : Gh} {s : AS} {a : Act} {w : World} (h : Rel n B G s a w) {t : TypeId} {d : Option Tmp} {x : AVal} {x' : Value} (hx : VR (Dm s.M) G B w x x') {v : AVal} {ups : List (Nat × ABlk)}
 (hl : boxA s.M d x = some (v, ups)) : Res P n B G s a w (Instr.box t x') v ups := by
 unfold boxA at hl
 split at hl
 ·rename_i d
  split at hl
  ·rename_i hk
   split at hl
   ·rename_i hd
    simp only [Option.some.injEq, Prod.mk.injEq] at hl
    obtain ⟨rfl, rfl⟩ := hl
    obtain ⟨z1, z2⟩ := hx.cells hk
    obtain ⟨G', hA, hR, hb⟩ := h.new_box hd x.cells x'.cells t z1 z2
    refine ⟨.pointer (some ⟨w.heap.size, 0, none⟩), w.alloc (.cells x'.cells t), G', ?_, hA, hR, ?_⟩
    ·simp [Instr.box, newVar, newRow]
    ·rw [← hb]; exact .ptr d 0 (by simp [ap, Dm, q00])
   ·cases hl
  ·cases hl
 ·cases hl

theorem z0j (off : Nat) : ∀ (l : List Value) (k : Nat) (c : Array Value), off + k + l.length ≤ c.size →
 ((l.zipIdx k).foldl (fun (cs : Array Value) p => cs.setIfInBounds (off + p.2) p.1) c).toList = q0m c.toList (off + k) l
 | [], k, c, h => by simp [q0m]
 | x :: l, k, c, h => by
  simp only [List.zipIdx_cons, List.foldl_cons]
  rw [z0j off l (k + 1) _ (by simp only [Array.size_setIfInBounds]; simp at h; omega)]
  apply List.ext_getElem?
  intro m
  simp only [List.length_cons] at h
  rw [q0v (by simp; omega), q0v (by simp; omega)]
  simp only [Array.toList_setIfInBounds, List.length_cons]
  by_cases c1 : m < off + k
  ·rw [if_pos (by omega), if_pos c1, List.getElem?_set_ne (by omega)]
  ·rw [if_neg c1]
   by_cases c2 : m = off + k
   ·subst c2
    rw [if_pos (by omega), if_pos (by omega), List.getElem?_set_self (by simp; omega)]
    simp
   ·rw [if_neg (by omega)]
    by_cases c3 : m < off + k + (l.length + 1)
    ·rw [if_pos (by omega), if_pos c3]
     rw [show m - (off + k) = (m - (off + (k + 1))) + 1 by omega, List.getElem?_cons_succ]
    ·rw [if_neg (by omega), if_neg c3, List.getElem?_set_ne (by omega)]
def q8o (place : Nat → Option (Nat × Nat)) : List AVal → List (Nat × AVal) → Option (List AVal)
 | cs, [] => some cs
 | cs, (i, v) :: r =>
  match place i with
  | none => none
  | some (off, size) => if v.known = true ∧ v.cells.length = size ∧ off + size ≤ cs.length then q8o place (q0m cs off v.cells) r else none
theorem q8n {D : Nat → Nat → Prop} {G : Gh} {B : Nat → Prop} {w : World} {place : Nat → Option (Nat × Nat)} {place' : Nat → Option (Nat × Nat)} (hp : ∀ i p, place i = some p → place' i = some p) :
 ∀ (parts : List (Nat × AVal)) (parts' : List (Nat × Value)) (cs : List AVal) (c : Array Value) (r : List AVal), parts'.length = parts.length →
  (∀ (n : Nat) (p : Nat × AVal), parts[n]? = some p → ∃ p', parts'[n]? = some p' ∧ p'.1 = p.1 ∧ VR D G B w p.2 p'.2) →
  c.size = cs.length → (∀ (i : Nat) (x : AVal), cs[i]? = some x → ∃ u, c[i]? = some u ∧ VR D G B w x u) → q8o place cs parts = some r →
  ∃ c', Instr.fill place' c parts' = some c' ∧ c'.size = r.length ∧ ∀ (i : Nat) (x : AVal), r[i]? = some x → ∃ u, c'[i]? = some u ∧ VR D G B w x u
 | [], parts', cs, c, r, hl, _, hcs, hc, hf => by
  obtain rfl : parts' = [] := List.eq_nil_of_length_eq_zero (by simpa using hl)
  simp only [q8o, Option.some.injEq] at hf
  subst hf
  exact ⟨c, rfl, hcs, hc⟩
 | (i, v) :: parts, parts', cs, c, r, hl, hr, hcs, hc, hf => by
  match parts', hl with
  | p0 :: parts', hl =>
   obtain ⟨p', h1, h2, h3⟩ := hr 0 (i, v) rfl
   simp only [List.getElem?_cons_zero, Option.some.injEq] at h1
   subst h1
   obtain ⟨i', v'⟩ := p0
   simp only at h2 h3
   subst h2
   simp only [q8o] at hf
   cases hpl : place i' with
   | none => simp [hpl] at hf
   | some os =>
    obtain ⟨off, size⟩ := os
    simp only [hpl] at hf
    split at hf
    ·rename_i hcond
     obtain ⟨hk, hlen, hfit⟩ := hcond
     obtain ⟨hvs, hvc⟩ := h3.cells hk
     have hfold := z0j off v'.cells.toList 0 c (by simp [hvs]; omega)
     have hcells : (v'.cells.zipIdx.foldl (fun (cs : Array Value) (p : Value × Nat) => cs.setIfInBounds (off + p.2) p.1) c) = (q0m c.toList off v'.cells.toList).toArray := by
      apply Array.ext'
      have e : (v'.cells.zipIdx.foldl (fun (cs : Array Value) (p : Value × Nat) => cs.setIfInBounds (off + p.2) p.1) c) = ((v'.cells.toList.zipIdx 0).foldl (fun (cs : Array Value) p => cs.setIfInBounds (off + p.2) p.1) c) := by
       rw [← Array.foldl_toList, Array.toList_zipIdx]
      rw [e, hfold]
      simp
     have hsp : (q0m c.toList off v'.cells.toList).length = (q0m cs off v.cells).length := by
      rw [q0x (by simp [hvs]; omega), q0x (by omega)]; simpa using hcs
     obtain ⟨c', f1, f2, f3⟩ := q8n hp parts parts' (q0m cs off v.cells) (q0m c.toList off v'.cells.toList).toArray r (by simpa using hl)
      (fun n p hn => by
       obtain ⟨p', q1, q2, q3⟩ := hr (n + 1) p (by simpa using hn)
       exact ⟨p', by simpa using q1, q2, q3⟩) (by simpa using hsp)
      (fun j x hj => by
       have := z1e (R := VR D G B w) (cs := cs) (c := c.toList) (vs := v.cells) (us := v'.cells.toList) (off := off) (by simpa using hcs) (by simp [hvs]) (by omega)
        (fun i x hx => by obtain ⟨u, hu, hr⟩ := hc i x hx; exact ⟨u, by simpa using hu, fun _ => hr⟩) (fun i x hx => by obtain ⟨u, hu, hr⟩ := hvc i x hx; exact ⟨u, by simpa using hu, hr⟩) j x hj
       obtain ⟨u, hu, hr⟩ := this
       exact ⟨u, by simpa using hu, hr⟩) hf
     refine ⟨c', ?_, f2, f3⟩
     simp only [Instr.fill, hp _ _ hpl]
     have e1 : v'.cells.size = size := by rw [hvs, hlen]
     have e2 : ¬ (v'.cells.size ≠ size ∨ off + v'.cells.size > c.size) := by rw [e1, hcs]; omega
     have e3 : (decide (v'.cells.size ≠ size) || decide (off + v'.cells.size > c.size)) = false := by
      rw [e1, hcs]; simp; omega
     rw [if_neg (by first | exact e2 | (simp only [← Bool.or_eq_true, decide_eq_true_eq] at *; simpa using e2) | (simpa using e2))]
     rw [hcells]
     exact f1
    ·cases hf
theorem z1i {P : Program} {TE : TyE} (hT : q2r P TE) (w : World) (a : Array Field) (h : ∀ f ∈ a.toList, (TE f.type).isSome = true) :
 ∃ r : Array (Nat × Nat), (a.mapM fun f => do pure (f.offset, ← sizeOf f.type) : Sem (Array (Nat × Nat))).run P w = .ok r w ∧
  ∀ (i : Nat) (f : Field) (fi : TyI), a[i]? = some f → TE f.type = some fi → r[i]? = some (f.offset, fi.size) := by
 have key : ∀ l : List Field, (∀ f ∈ l, (TE f.type).isSome = true) → (l.mapM fun f => do pure (f.offset, ← sizeOf f.type) : Sem (List (Nat × Nat))).run P w =
  .ok (l.map fun f => (f.offset, ((TE f.type).map (·.size)).getD 0)) w := by
  intro l
  induction l with
  | nil => intro _; rfl
  | cons f l ih =>
   intro hl
   obtain ⟨fi, hfi⟩ := Option.isSome_iff_exists.1 (hl f (by simp))
   simp only [List.mapM_cons, Sem.run_bind, q0n hT hfi, Result.andThen, Sem.run_pure, ih (fun g hg => hl g (by simp [hg])), List.map_cons, hfi, Option.map_some, Option.getD_some]
 refine ⟨(a.toList.map fun f => (f.offset, ((TE f.type).map (·.size)).getD 0)).toArray, ?_, fun i f fi hf hfi => ?_⟩
 ·rw [Array.mapM_eq_mapM_toList]
  simp only [Sem.run_map, key a.toList h, Result.andThen]
 ·simp [hf, hfi]
def qbs (TE : TyE) (fs : List (TypeId × Nat)) (i : Nat) : Option (Nat × Nat) :=
 match fs[i]? with
 | some (ft, off) => (TE ft).map fun fi => (off, fi.size)
 | none => none
def qe5 (TE : TyE) (t : TypeId) (parts : List (Nat × AVal)) : Option AVal :=
 match TE t with
 | some ⟨.struct fs, sz, by_, z⟩ => if fs.all (fun p => (TE p.1).isSome) = true then (q8o (qbs TE fs) (TyI.zeros ⟨.struct fs, sz, by_, z⟩) parts).map .agg else none
 | some ⟨.arr m e, sz, by_, z⟩ =>
  match TE e with
  | some ei => (q8o (fun i => some (i * ei.size, ei.size)) (TyI.zeros ⟨.arr m e, sz, by_, z⟩) parts).map .agg
  | none => none
 | _ => none
theorem agg_of {D : Nat → Nat → Prop} {G : Gh} {B : Nat → Prop} {w : World} {r : List AVal} {c' : Array Value} (f2 : c'.size = r.length) (f3 : ∀ (i : Nat) (x : AVal), r[i]? = some x → ∃ u, c'[i]? = some u ∧ VR D G B w x u) :
 VR D G B w (.agg r) (.agg c') :=
 .agg r c' f2 fun n x v hx hv => by
  obtain ⟨u, hu, hr⟩ := f3 n x hx
  rw [hu] at hv
  exact (Option.some.inj hv) ▸ hr
theorem zei {P : Program} {TE : TyE} (hT : q2r P TE) {D : Nat → Nat → Prop} {G : Gh} {B : Nat → Prop} {w : World} {t : TypeId} {parts : List (Nat × AVal)} {parts' : Array (Nat × Value)} (hl : parts'.size = parts.length)
 (hr : ∀ (n : Nat) (p : Nat × AVal), parts[n]? = some p → ∃ p', parts'[n]? = some p' ∧ p'.1 = p.1 ∧ VR D G B w p.2 p'.2) {v : AVal} (hb : qe5 TE t parts = some v) :
 ∃ v', (Instr.build t parts').run P w = .ok v' w ∧ VR D G B w v v' := by
 unfold qe5 at hb
 split at hb
 ·rename_i fs sz by_ z hi
  split at hb
  case isFalse => cases hb
  rename_i hall
  cases hf : q8o (qbs TE fs) (TyI.zeros ⟨.struct fs, sz, by_, z⟩) parts with
  | none => simp [hf] at hb
  | some r =>
   simp only [hf, Option.map_some, Option.some.injEq] at hb
   subst hb
   obtain ⟨a, ha, hm⟩ := q2s hT hi rfl
   obtain ⟨z1, z2⟩ := q7v hT hi (D := D) (G := G) (B := B) (w := w)
   obtain ⟨pl, p1, p2⟩ := z1i hT w a (fun f hfa => by
    have : (f.type, f.offset) ∈ fs := by rw [← hm]; exact List.mem_map_of_mem hfa
    exact List.all_eq_true.1 hall _ this)
   obtain ⟨c', f1, f2, f3⟩ := q8n (D := D) (G := G) (B := B) (w := w) (place := qbs TE fs) (place' := fun i => pl[i]?) (fun i p hp => by
    unfold qbs at hp
    split at hp
    ·rename_i ft off hft
     obtain ⟨fld, q1, q2, q3⟩ := qfq hm hft
     cases hti : TE ft with
     | none => simp [hti] at hp
     | some fi =>
      simp only [hti, Option.map_some, Option.some.injEq] at hp
      subst hp
      rw [← q3]
      exact p2 i fld fi q1 (by rw [q2]; exact hti)
    ·cases hp) parts parts'.toList _ z.cells r (by simpa using hl) (fun n p hn => by obtain ⟨p', q1, q2, q3⟩ := hr n p hn; exact ⟨p', by simpa using q1, q2, q3⟩) z1 z2 hf
   refine ⟨.agg c', ?_, agg_of f2 f3⟩
   have hz := q0w hT hi w
   simp only [] at hz
   simp only [Instr.build, Sem.run_bind, hz, Result.andThen, run_underlying ha, p1, f1, Sem.run_pure]
 ·rename_i m e sz by_ z hi
  split at hb
  case h_2 => cases hb
  rename_i ei hei
  cases hf : q8o (fun i => some (i * ei.size, ei.size)) (TyI.zeros ⟨.arr m e, sz, by_, z⟩) parts with
  | none => simp [hf] at hb
  | some r =>
   simp only [hf, Option.map_some, Option.some.injEq] at hb
   subst hb
   have ha := qb3 hT hi rfl
   obtain ⟨z1, z2⟩ := q7v hT hi (D := D) (G := G) (B := B) (w := w)
   obtain ⟨c', f1, f2, f3⟩ := q8n (D := D) (G := G) (B := B) (w := w) (place := fun i => some (i * ei.size, ei.size)) (place' := fun i => some (i * ei.size, ei.size)) (fun i p hp => hp) parts parts'.toList _ z.cells r (by simpa using hl)
    (fun n p hn => by obtain ⟨p', q1, q2, q3⟩ := hr n p hn; exact ⟨p', by simpa using q1, q2, q3⟩) z1 z2 hf
   refine ⟨.agg c', ?_, agg_of f2 f3⟩
   have hz := q0w hT hi w
   simp only [] at hz
   simp [Instr.build, hz, run_underlying ha, q0n hT hei, f1]
 ·cases hb

def TyI.zeroElem (i : TyI) : AVal := if i.td.isAgg then .agg i.zeros else i.zeros.headD .undef
def setP (sz : Nat) : List AVal → List (Nat × AVal) → Option (List AVal)
 | xs, [] => some xs
 | xs, (i, v) :: r => if v.known = true ∧ v.cells.length = sz ∧ i < xs.length then setP sz (xs.set i v) r else none
theorem qmw {sz : Nat} : ∀ (parts : List (Nat × AVal)) (xs xs' : List AVal), (∀ x ∈ xs, x.cells.length = sz) → setP sz xs parts = some xs' →
 q8o (fun i => some (i * sz, sz)) (flat xs) parts = some (flat xs') ∧ (∀ x ∈ xs', x.cells.length = sz) ∧ xs'.length = xs.length
 | [], xs, xs', h, hp => by
  simp only [setP, Option.some.injEq] at hp
  subst hp
  exact ⟨rfl, h, rfl⟩
 | (i, v) :: r, xs, xs', h, hp => by
  simp only [setP] at hp
  split at hp
  ·rename_i hc
   obtain ⟨h1, h2, h3⟩ := hc
   have hs : ∀ x ∈ xs.set i v, x.cells.length = sz := fun x hx => by
    rcases List.mem_or_eq_of_mem_set hx with h' | h'
    ·exact h x h'
    ·subst h'; exact h2
   obtain ⟨g1, g2, g3⟩ := qmw r (xs.set i v) xs' hs hp
   refine ⟨?_, g2, by simpa using g3⟩
   have hi : xs[i]? = some xs[i] := List.getElem?_eq_getElem h3
   have hb : i * sz + sz ≤ (flat xs).length := by
    rw [q0q h]
    have := Nat.mul_le_mul_right sz h3
    rw [Nat.succ_mul] at this
    exact this
   simp only [q8o]
   rw [if_pos ⟨h1, h2, hb⟩, ← z0k h hi h2]
   exact g1
  ·cases hp
theorem qd5 {sz : Nat} {z : AVal} (hz : z.cells.length = sz) (n i : Nat) (hi : i < n * sz) : (flat (List.replicate n z))[i]? = z.cells[i % sz]? := by
 have hs : 0 < sz := by
  rcases Nat.eq_zero_or_pos sz with h | h
  ·subst h; simp at hi
  ·exact h
 have hd : i / sz < n := by rw [Nat.div_lt_iff_lt_mul hs]; exact hi
 have hm : i % sz < sz := Nat.mod_lt _ hs
 have := q9d (sz := sz) (xs := List.replicate n z) (fun x hx => by rw [List.eq_of_mem_replicate hx]; exact hz) (i := i / sz) (j := i % sz) (x := z) (by simp [hd]) hm
 rwa [show i / sz * sz + i % sz = i by rw [Nat.mul_comm]; exact Nat.div_add_mod i sz] at this
theorem qcx {i : TyI} (h : i.zeros.length = i.size) (ha : i.td.isAgg = true ∨ i.size = 1) (h1 : i.zeros.all AVal.one = true) : i.zeroElem.cells = i.zeros := by
 unfold TyI.zeroElem
 split
 ·rfl
 ·rename_i hn
  rcases ha with ha | ha
  ·exact absurd ha hn
  ·rw [ha] at h
   match hz : i.zeros, h with
   | [z], _ =>
    rw [hz] at h1
    simp only [List.all_cons, List.all_nil, Bool.and_true] at h1
    simp only [List.headD_cons]
    cases z <;> first | rfl | (simp [AVal.one] at h1)
theorem qac {P : Program} {TE : TyE} (hT : q2r P TE) {e : TypeId} {ei : TyI} (he : TE e = some ei) {D : Nat → Nat → Prop} {G : Gh} {B : Nat → Prop} {w : World} (hz : ei.zeroElem.cells = ei.zeros) (hs : 0 < ei.size) (n m : Nat) (hmn : m ≤ n) :
 ∀ (i : Nat) (x : AVal), (flat (List.replicate m ei.zeroElem))[i]? = some x → ∃ u, ((Array.range (n * ei.size)).map fun j => ei.zero.cells[j % ei.zero.cells.size]!)[i]? = some u ∧ VR D G B w x u := by
 intro i x hx
 obtain ⟨z1, z2⟩ := q7v hT he (D := D) (G := G) (B := B) (w := w)
 obtain ⟨d, inf, q1, q2, q3, q4, q5, q6, q7⟩ := hT e ei he
 have hzl : ei.zeroElem.cells.length = ei.size := by rw [hz, ← z1, q7]
 have hi : i < m * ei.size := by
  rcases Nat.lt_or_ge i (m * ei.size) with h' | h'
  ·exact h'
  ·rw [List.getElem?_eq_none (by rw [q0q (sz := ei.size) (fun x hx => by rw [List.eq_of_mem_replicate hx]; exact hzl)]; simpa using h')] at hx
   cases hx
 rw [qd5 hzl m i hi, hz] at hx
 obtain ⟨u, hu, hr⟩ := z2 _ x hx
 refine ⟨u, ?_, hr⟩
 have hin : i < n * ei.size := Nat.lt_of_lt_of_le hi (Nat.mul_le_mul_right _ hmn)
 have hu' : ei.zero.cells[i % ei.zero.cells.size]? = some u := by rw [q7]; exact hu
 simp [hin, getElem!_def, hu']
def TyI.okElem (i : TyI) : Bool := decide (0 < i.size) && (i.td.isAgg || i.size == 1) && i.zeros.all AVal.one
theorem q5h {P : Program} {TE : TyE} (hT : q2r P TE) {e : TypeId} {ei : TyI} (he : TE e = some ei) (h : ei.okElem = true) :
 0 < ei.size ∧ ei.zeroElem.cells = ei.zeros ∧ ei.zeros.length = ei.size ∧ ∀ x ∈ ei.zeros, x.one = true := by
 simp only [TyI.okElem, Bool.and_eq_true, decide_eq_true_eq, Bool.or_eq_true, beq_iff_eq] at h
 obtain ⟨⟨h1, h2⟩, h3⟩ := h
 obtain ⟨d, inf, q1, q2, q3, q4, q5, q6, q7⟩ := hT e ei he
 have hl : ei.zeros.length = ei.size := by rw [← q7]; simp [TyI.zeros]
 exact ⟨h1, qcx hl h2 h3, hl, List.all_eq_true.1 h3⟩
def q1l (TE : TyE) (M : Mem) (t : TypeId) (len : Nat) (parts : List (Nat × AVal)) (d : Option Tmp) : AR :=
 match TE t with
 | some ⟨.slice e, _, _, _⟩ =>
  match TE e with
  | some ei =>
   if ei.okElem = true ∧ len * ei.size ≤ 16777216 then
    (match setP ei.size (List.replicate len ei.zeroElem) parts with
     | some xs =>
      if (flat xs).all AVal.one = true then
       (if len = 0 then (match d with | some d => (match M d with | none => some (.os d 0, [(d, .arr 0 ei.size [])]) | some _ => none) | none => none)
        else some (.sl ei.size xs, []))
      else none
     | none => none)
   else none
  | none => none
 | _ => none
theorem qd7 {P : Program} {TE : TyE} (hT : q2r P TE) {n : Nat} {B : Nat → Prop} {G : Gh} {s : AS} {a : Act} {w : World} (h : Rel n B G s a w) {t : TypeId} {len : Nat} {parts : List (Nat × AVal)} {parts' : Array (Nat × Value)}
 (hl : parts'.size = parts.length) (hr : ∀ (n : Nat) (p : Nat × AVal), parts[n]? = some p → ∃ p', parts'[n]? = some p' ∧ p'.1 = p.1 ∧ VR (Dm s.M) G B w p.2 p'.2)
 {d : Option Tmp} {v : AVal} {ups : List (Nat × ABlk)} (hb : q1l TE s.M t len parts d = some (v, ups)) : Res P n B G s a w (Instr.buildSlice t len parts') v ups := by
 unfold q1l at hb
 split at hb
 case h_2 => cases hb
 rename_i e s1 b1 z1 ht
 split at hb
 case h_2 => cases hb
 rename_i ei he
 split at hb
 case isFalse => cases hb
 rename_i hc
 obtain ⟨hok, hlim⟩ := hc
 obtain ⟨o1, o2, o3, o4⟩ := q5h hT he hok
 split at hb
 case h_2 => cases hb
 rename_i xs hxs
 split at hb
 case isFalse => cases hb
 rename_i hone
 have hone' : ∀ x ∈ flat xs, x.one = true := List.all_eq_true.1 hone
 obtain ⟨g1, g2, g3⟩ := qmw parts (List.replicate len ei.zeroElem) xs (fun x hx => by rw [List.eq_of_mem_replicate hx, o2, o3]) hxs
 have hlen : xs.length = len := by simpa using g3
 obtain ⟨z1', z2'⟩ := q7v hT he (D := Dm s.M) (G := G) (B := B) (w := w)
 have hu := q1z hT ht rfl
 have hflr : (flat (List.replicate len ei.zeroElem)).length = len * ei.size := by
  rw [q0q (sz := ei.size) (fun x hx => by rw [List.eq_of_mem_replicate hx, o2, o3])]; simp
 by_cases h0 : len = 0
 ·subst h0
  rw [if_pos rfl] at hb
  split at hb
  case h_2 => cases hb
  rename_i d
  split at hb
  case h_2 => cases hb
  rename_i hd
  simp only [Option.some.injEq, Prod.mk.injEq] at hb
  obtain ⟨rfl, rfl⟩ := hb
  have hxs0 : xs = [] := List.eq_nil_of_length_eq_zero hlen
  have hp0 : parts = [] := by
   match parts, hxs with
   | [], _ => rfl
   | (i, v) :: r, hxs => simp [setP] at hxs
  subst hp0
  have hp0' : parts' = #[] := by
   apply Array.eq_empty_of_size_eq_zero
   simpa using hl
  subst hp0'
  obtain ⟨G', hA, hR, hh⟩ := h.new_arr (k := d) (e := 0) (.inl hd) ei.size 0 [] #[] e (by simp) (by simp) (by simp) (by simp [flat]) (by simp [flat])
  refine ⟨_, _, G', ?_, hA, hR, .os d 0 (by simp [ap, Dm, q00]) _ rfl⟩
  simp only [hh]
  have r0 : Array.range 0 = #[] := rfl
  simp [Instr.buildSlice, run_underlying hu, q0n hT he, Instr.fill, newRow, r0]
 ·rw [if_neg h0] at hb
  simp only [Option.some.injEq, Prod.mk.injEq] at hb
  obtain ⟨rfl, rfl⟩ := hb
  have hne : ¬ (len * ei.size = 0) := by
   intro hz
   rcases Nat.mul_eq_zero.1 hz with hz | hz <;> omega
  obtain ⟨c', f1, f2, f3⟩ := q8n (D := Dm s.M) (G := G) (B := B) (w := w) (place := fun i => some (i * ei.size, ei.size)) (place' := fun i => some (i * ei.size, ei.size)) (fun i p hp => hp) parts parts'.toList _
   ((Array.range (len * ei.size)).map fun j => ei.zero.cells[j % ei.zero.cells.size]!) (flat xs) (by simpa using hl)
   (fun n p hn => by obtain ⟨p', q1, q2, q3⟩ := hr n p hn; exact ⟨p', by simpa using q1, q2, q3⟩) (by simp [hflr]) (qac hT he o2 o1 len len (Nat.le_refl _)) g1
  have hA : Adv G w G (w.alloc (.cells c' e)) := ⟨⟨rfl, Nat.le_refl _⟩, rfl, rfl, by simp, fun b hb ho => ⟨q2a w _ hb, ho⟩⟩
  refine ⟨.slice (some ⟨w.heap.size, 0, none⟩) len len, w.alloc (.cells c' e), G, ?_, hA, h.adv (by simp) (fun b hb => q2a w _ hb), ?_⟩
  ·have hlim' : ¬ (len * ei.size > 16777216) := by omega
   have hlim2 : len * ei.size ≤ 2 ^ 24 := by simpa using hlim
   simp only [Instr.buildSlice, Sem.run_bind, run_underlying hu, q0n hT he, Result.andThen]
   rw [if_neg (by omega), if_neg hne]
   simp [q0w hT he, f1, newRow]
  ·have := VR.sl (D := Dm s.M) (G := G) (B := B) (w := w.alloc (.cells c' e)) ei.size xs w.heap.size 0 len (fun m => c'.getD m undef) (by omega)
    (fun _ => ⟨fun hB => absurd (h.fr _ hB).1 (by omega), by
     cases ho : G.ow w.heap.size with
     | none => rfl
     | some k => exact absurd (h.ol w.heap.size (by rw [ho]; simp)) (by omega)⟩) hone' g2
    (fun m x hx => by
     obtain ⟨u, hu, _⟩ := f3 m x hx
     rw [q29 (q8z w _), Nat.zero_add, hu]
     simp [hu])
    (fun m x hx => by
     obtain ⟨u, hu, hr⟩ := f3 m x hx
     have : c'.getD m undef = u := by simp [hu]
     simp only [this]
     exact hr.mono (fun _ _ h => h) (fun _ _ _ => ⟨rfl, rfl⟩) (fun b hb hn ho => ⟨q2a w _ hb, hn, ho⟩))
   rw [hlen] at this
   exact this
def q22 (TE : TyE) (M : Mem) (t : TypeId) (len cap : AVal) (d : Option Tmp) : AR :=
 match TE t, len, cap, d with
 | some ⟨.slice e, _, _, _⟩, .int _ n, .int _ m, some d =>
  match TE e, M d with
  | some ei, none =>
   if ei.okElem = true ∧ 0 ≤ n ∧ n ≤ m ∧ m ≤ 4611686018427387904 ∧ m * ei.bytes ≤ 140737488355328 then some (.os d 0, [(d, .arr 0 ei.size (List.replicate n.toNat ei.zeroElem))]) else none
  | _, _ => none
 | _, _, _, _ => none
theorem qay {n : Int} (h0 : 0 ≤ n) (h : n ≤ 4611686018427387904) : IntKind.i64.wrap n = n := by
 have e : n % (2 ^ 64 : Int) = n := Int.emod_eq_of_lt h0 (by omega)
 simp only [IntKind.wrap, IntKind.bits, IntKind.signed, e, Bool.true_and, decide_eq_true_eq]
 rw [if_neg (by omega)]
theorem qfe {P : Program} {TE : TyE} (hT : q2r P TE) {n : Nat} {B : Nat → Prop} {G : Gh} {s : AS} {a : Act} {w : World} (h : Rel n B G s a w) {t : TypeId} {x y : AVal} {x' y' : Value}
 (hx : VR (Dm s.M) G B w x x') (hy : VR (Dm s.M) G B w y y') {d : Option Tmp} {v : AVal} {ups : List (Nat × ABlk)} (hb : q22 TE s.M t x y d = some (v, ups)) : Res P n B G s a w (Instr.makeSlice t x' y') v ups := by
 unfold q22 at hb
 split at hb
 case h_2 => cases hb
 rename_i e s1 b1 z1 k1 l k2 m d ht
 cases hx
 cases hy
 split at hb
 case h_2 => cases hb
 rename_i ei he hd
 split at hb
 case isFalse => cases hb
 rename_i hc
 obtain ⟨hok, c1, c2, c3, c4⟩ := hc
 simp only [Option.some.injEq, Prod.mk.injEq] at hb
 obtain ⟨rfl, rfl⟩ := hb
 obtain ⟨o1, o2, o3, o4⟩ := q5h hT he hok
 have hu := q1z hT ht rfl
 have e1 := qay c1 (by omega)
 have e2 := qay (n := m) (by omega) c3
 obtain ⟨dd, inf, q1, q2, q3, q4, q5, q6, q7⟩ := hT e ei he
 obtain ⟨l, rfl⟩ := Int.eq_ofNat_of_zero_le c1
 obtain ⟨m, rfl⟩ := Int.eq_ofNat_of_zero_le (show 0 ≤ m by omega)
 have hlm : l ≤ m := by omega
 have hzl : ei.zeroElem.cells.length = ei.size := by rw [o2, o3]
 have hzs : ∀ x ∈ List.replicate l ei.zeroElem, x.cells.length = ei.size := fun x hx => by rw [List.eq_of_mem_replicate hx]; exact hzl
 obtain ⟨G', hA, hR, hh⟩ := h.new_arr (k := d) (e := 0) (.inl hd) ei.size m (List.replicate l ei.zeroElem) ((Array.range (m * ei.size)).map fun j => ei.zero.cells[j % ei.zero.cells.size]!) e (by simpa using hlm) (by simp) hzs
  (fun x hx => by
   obtain ⟨y, hy, hx⟩ := List.mem_flatMap.1 hx
   rw [List.eq_of_mem_replicate hy, o2] at hx
   exact o4 x hx) (qac hT he o2 o1 m l hlm)
 refine ⟨_, _, G', ?_, hA, hR, .os d 0 (by simp [ap, Dm, q00]) _ rfl⟩
 simp only [hh, List.length_replicate]
 have hby : inf.bytes = ei.bytes := q5
 have hsmall : (inf.bytes : Int) * (m : Int) ≤ 140737488355328 := by rw [hby, Int.mul_comm]; exact c4
 have e3 : (m : Int).toNat = m := by omega
 have e4 : (l : Int).toNat = l := by omega
 simp only [Instr.makeSlice, Sem.run_bind, run_underlying hu, Result.andThen, asInt, asIntOf, Sem.run_pure, typeInfo, run_program, q3, e1, e2, q0n hT he, e3, e4]
 rw [if_neg (by
  simp only [Bool.or_eq_true, decide_eq_true_eq]
  omega)]
 by_cases hz : m * ei.size = 0
 ·have r0 : Array.range 0 = #[] := rfl
  simp [hz, newRow, q0n hT he, r0]
 ·simp [hz, q0w hT he, newRow, q0n hT he]

def q2g (o : Option AVal) (dflt : Nat) : Option Nat :=
 match o with
 | none => some dflt
 | some (.int _ n) => if 0 ≤ n then some n.toNat else none
 | some _ => none
def OVR (D : Nat → Nat → Prop) (G : Gh) (B : Nat → Prop) (w : World) (o : Option AVal) (o' : Option Value) : Prop :=
 match o, o' with
 | none, none => True
 | some x, some v => VR D G B w x v
 | _, _ => False
theorem qm6 {P : Program} {D : Nat → Nat → Prop} {G : Gh} {B : Nat → Prop} {w : World} {o : Option AVal} {o' : Option Value} (h : OVR D G B w o o') {dflt l y : Nat} {code : BoundsCode} (hb : q2g o dflt = some l) (hl : l ≤ y) :
 (match o' with | some v => Instr.sliceBound v y code | none => pure dflt : Sem Nat).run P w = .ok l w := by
 cases o with
 | none =>
  cases o' with
  | none => simp only [q2g, Option.some.injEq] at hb; subst hb; rfl
  | some v => exact h.elim
 | some x =>
  cases o' with
  | none => exact h.elim
  | some v =>
   cases x <;> simp only [q2g, reduceCtorEq] at hb
   case int k n =>
    cases h
    split at hb
    ·rename_i h0
     simp only [Option.some.injEq] at hb
     subst hb
     simp only []
     rw [run_sliceBound w k n y code h0 (by omega)]
    ·cases hb
theorem q2m {P : Program} {D : Nat → Nat → Prop} {G : Gh} {B : Nat → Prop} {w : World} {lo hi : Option AVal} {lo' hi' : Option Value} (h1 : OVR D G B w lo lo') (h2 : OVR D G B w hi hi') {isS : Bool} {len cap l h : Nat}
 (hl : q2g lo 0 = some l) (hh : q2g hi len = some h) (hlh : l ≤ h) (hhc : h ≤ cap) : (Instr.sliceBounds isS len cap lo' hi' none).run P w = .ok (l, h, cap) w := by
 have e1 := qm6 (P := P) h2 (dflt := len) (l := h) (y := cap) (code := if isS then .sliceAcap else .sliceAlen) hh hhc
 have e2 := qm6 (P := P) h1 (dflt := 0) (l := l) (y := h) (code := .sliceB) hl hlh
 unfold Instr.sliceBounds
 cases hi' with
 | none =>
  cases lo' with
  | none =>
   simp only [Sem.run_pure, Result.ok.injEq] at e1 e2
   simp [e1.1, e2.1]
  | some v =>
   simp only [Sem.run_pure, Result.ok.injEq] at e1
   simp only [] at e2
   simp [e1.1, e2]
 | some v' =>
  simp only [] at e1
  cases lo' with
  | none =>
   simp only [Sem.run_pure, Result.ok.injEq] at e2
   simp [e1, e2.1]
  | some v =>
   simp only [] at e2
   simp [e1, e2]
theorem ql8 {sz : Nat} {xs : List AVal} (h : ∀ x ∈ xs, x.cells.length = sz) (m : Nat) : flat (xs.take m) = (flat xs).take (m * sz) := by
 induction xs generalizing m with
 | nil => simp [flat]
 | cons x xs ih =>
  cases m with
  | zero => simp [flat]
  | succ m =>
   have hx : x.cells.length = sz := h x (by simp)
   rw [List.take_succ_cons, q2l, q2l, ih (fun y hy => h y (by simp [hy])), show (m + 1) * sz = x.cells.length + m * sz by rw [hx, Nat.succ_mul]; omega, List.take_length_add_append]
theorem q8m {sz : Nat} {xs : List AVal} (h : ∀ x ∈ xs, x.cells.length = sz) (m : Nat) : flat (xs.drop m) = (flat xs).drop (m * sz) := by
 induction xs generalizing m with
 | nil => simp [flat]
 | cons x xs ih =>
  cases m with
  | zero => simp [flat]
  | succ m =>
   have hx : x.cells.length = sz := h x (by simp)
   rw [List.drop_succ_cons, q2l, ih (fun y hy => h y (by simp [hy])), show (m + 1) * sz = x.cells.length + m * sz by rw [hx, Nat.succ_mul]; omega, List.drop_length_add_append]
theorem VR.piece {D : Nat → Nat → Prop} {G : Gh} {B : Nat → Prop} {w : World} {sz : Nat} {xs : List AVal} {b off len cap : Nat} (h : VR D G B w (.sl sz xs) (.slice (some ⟨b, off, none⟩) len cap)) {l hh : Nat} (h1 : l ≤ hh) (h2 : hh ≤ xs.length) :
 VR D G B w (.sl sz ((xs.take hh).drop l)) (.slice (if cap = l then some ⟨b, off, none⟩ else (some (⟨b, off, none⟩ : Addr)).map (·.add (l * sz))) (hh - l) (cap - l)) := by
 cases h with
 | slemp =>
  have e1 : hh = 0 := by simpa using h2
  subst e1
  obtain rfl : l = 0 := by omega
  split <;> exact .slemp sz _ _
 | sl _ _ _ _ _ f hcap hB hone hsz hc hv =>
  have hlen : ((xs.take hh).drop l).length = hh - l := by simp; omega
  have hsz' : ∀ x ∈ (xs.take hh).drop l, x.cells.length = sz := fun x hx => hsz x (List.mem_of_mem_take (List.mem_of_mem_drop hx))
  have hfl : flat ((xs.take hh).drop l) = ((flat xs).take (hh * sz)).drop (l * sz) := by
   rw [q8m (fun x hx => hsz x (List.mem_of_mem_take hx)), ql8 hsz]
  have hget : ∀ (n : Nat) (x : AVal), (flat ((xs.take hh).drop l))[n]? = some x → (flat xs)[l * sz + n]? = some x := fun n x hx => by
   rw [hfl, List.getElem?_drop, List.getElem?_take] at hx
   split at hx
   ·exact hx
   ·cases hx
  by_cases hcl : cap = l
  ·rw [if_pos hcl]
   have : (xs.take hh).drop l = [] := List.eq_nil_of_length_eq_zero (by rw [hlen]; omega)
   rw [this]
   have h0 : hh - l = ([] : List AVal).length := by simp; omega
   rw [h0]
   exact .sl sz [] b off (cap - l) (fun _ => Go.undef) (by simp) (fun h => absurd rfl h) (by simp [flat]) (by simp) (by simp [flat]) (by simp [flat])
  ·rw [if_neg hcl]
   simp only [Option.map_some, q36]
   rw [← hlen]
   refine .sl sz _ b (off + l * sz) (cap - l) (fun n => f (l * sz + n)) (by rw [hlen]; omega) (fun hne => hB (fun e => hne (by rw [hfl, e]; simp))) (fun x hx => ?_) hsz' (fun n x hx => ?_) (fun n x hx => hv _ x (hget n x hx))
   ·rw [hfl] at hx
    exact hone x (List.mem_of_mem_take (List.mem_of_mem_drop hx))
   ·rw [Nat.add_assoc]
    exact hc _ x (hget n x hx)
def q5x (TE : TyE) (M : Mem) (t : TypeId) (x : AVal) (lo hi : Option AVal) : AR :=
 match TE t with
 | some ⟨.str, _, _, _⟩ =>
  match x with
  | .str s =>
   match q2g lo 0, q2g hi s.size with
   | some l, some h => if l ≤ h ∧ h ≤ s.size then some (.str (s.extract l h), []) else none
   | _, _ => none
  | _ => none
 | some ⟨.slice e, _, _, _⟩ =>
  match TE e with
  | none => none
  | some ei =>
   match x with
   | .nil => (match q2g lo 0, q2g hi 0 with | some l, some h => if l = 0 ∧ h = 0 then some (.nil, []) else none | _, _ => none)
   | .sl sz xs =>
    (match q2g lo 0, q2g hi xs.length with
     | some l, some h => if l ≤ h ∧ h ≤ xs.length ∧ sz = ei.size then some (.sl sz ((xs.take h).drop l), []) else none
     | _, _ => none)
   | .os k e' =>
    (match M k with
     | some (.arr e0 sz xs) =>
      if e' = e0 ∧ sz = ei.size then
       (match hi with
        | none => (match q2g lo 0 with | some l => if l ≤ xs.length then some (.os k (e' + 1), [(k, .arr (e' + 1) sz (xs.drop l))]) else none | none => none)
        | some _ => (match q2g lo 0, q2g hi xs.length with | some l, some h => if l ≤ h ∧ h ≤ xs.length then some (.sl sz ((xs.take h).drop l), [(k, .dead)]) else none | _, _ => none))
      else none
     | _ => none)
   | .vw k e' sz i0 m =>
    (match q2g lo 0, q2g hi m with
     | some l, some h => if l ≤ h ∧ h ≤ m ∧ sz = ei.size ∧ l < m then some (.vw k e' sz (i0 + l) (h - l), []) else none
     | _, _ => none)
   | _ => none
 | _ => none
theorem q13 {P : Program} {TE : TyE} (hT : q2r P TE) {t e : TypeId} {i ei : TyI} (ht : TE t = some i) (hd : i.td = .slice e) (he : TE e = some ei) {w : World} {A : Option Addr} {len cap l h : Nat} {lo' hi' : Option Value}
 (hb : (Instr.sliceBounds true len cap lo' hi' none).run P w = .ok (l, h, cap) w) :
 (Instr.sliceAt t (.slice A len cap) lo' hi' none).run P w = .ok (.slice (if cap = l then A else A.map (·.add (l * ei.size))) (h - l) (cap - l)) w := by
 have hu := q1z hT ht hd
 simp [Instr.sliceAt, Instr.slice, run_underlying hu, hb, q0n hT he]
theorem z3g {P : Program} {TE : TyE} (hT : q2r P TE) {n : Nat} {B : Nat → Prop} {G : Gh} {s : AS} {a : Act} {w : World} (h : Rel n B G s a w) {t : TypeId} {x : AVal} {x' : Value} {lo hi : Option AVal} {lo' hi' : Option Value}
 (hx : VR (Dm s.M) G B w x x') (h1 : OVR (Dm s.M) G B w lo lo') (h2 : OVR (Dm s.M) G B w hi hi') {v : AVal} {ups : List (Nat × ABlk)} (hb : q5x TE s.M t x lo hi = some (v, ups)) :
 Res P n B G s a w (Instr.sliceAt t x' lo' hi' none) v ups := by
 unfold q5x at hb
 split at hb
 ·rename_i s1 b1 z1 ht
  have hu := qb2 hT ht rfl
  split at hb
  ·rename_i str
   cases hx
   split at hb
   ·rename_i l hh hl hhh
    split at hb
    ·rename_i hc
     simp only [Option.some.injEq, Prod.mk.injEq] at hb
     obtain ⟨rfl, rfl⟩ := hb
     have := q2m (P := P) h1 h2 (isS := false) (len := str.size) (cap := str.size) hl hhh hc.1 hc.2
     exact Res.pure h (by simp [Instr.sliceAt, Instr.slice, run_underlying hu, this]) (.str _)
    ·cases hb
   ·cases hb
  ·cases hb
 ·rename_i e s1 b1 z1 ht
  split at hb
  ·cases hb
  rename_i ei he
  split at hb
  ·cases hx
   split at hb
   ·rename_i l hh hl hhh
    split at hb
    ·rename_i hc
     obtain ⟨rfl, rfl⟩ := hc
     simp only [Option.some.injEq, Prod.mk.injEq] at hb
     obtain ⟨rfl, rfl⟩ := hb
     have := q2m (P := P) h1 h2 (isS := true) (len := 0) (cap := 0) hl hhh (Nat.le_refl _) (Nat.le_refl _)
     exact Res.pure h (v' := .slice none 0 0) (by rw [q13 hT ht rfl he this]; simp) .nil
    ·cases hb
   ·cases hb
  ·rename_i sz xs
   split at hb
   ·rename_i l hh hl hhh
    split at hb
    ·rename_i hc
     obtain ⟨c1, c2, c3⟩ := hc
     simp only [Option.some.injEq, Prod.mk.injEq] at hb
     obtain ⟨rfl, rfl⟩ := hb
     cases hx with
     | slnil =>
      simp only [List.length_nil, Nat.le_zero] at c2
      subst c2
      obtain rfl : l = 0 := by omega
      have := q2m (P := P) h1 h2 (isS := true) (len := 0) (cap := 0) hl hhh (Nat.le_refl _) (Nat.le_refl _)
      exact Res.pure h (v' := .slice none 0 0) (by rw [q13 hT ht rfl he this]; simp) (by simp; exact .slnil sz)
     | slemp _ a cap =>
      simp only [List.length_nil, Nat.le_zero] at c2
      subst c2
      obtain rfl : l = 0 := by omega
      have := q2m (P := P) h1 h2 (isS := true) (len := 0) (cap := cap) hl hhh (Nat.le_refl _) (Nat.zero_le _)
      refine Res.pure h (by rw [q13 hT ht rfl he this]) ?_
      split <;> exact .slemp sz _ _
     | sl _ _ b off cap f hcap hB hone hsz hcc hv =>
      have := q2m (P := P) h1 h2 (isS := true) (len := xs.length) (cap := cap) hl hhh c1 (by omega)
      have hp := (VR.sl (D := Dm s.M) (G := G) (B := B) (w := w) sz xs b off cap f hcap hB hone hsz hcc hv).piece c1 c2
      refine Res.pure h ?_ hp
      rw [q13 hT ht rfl he this, c3]
    ·cases hb
   ·cases hb
  ·rename_i k e'
   split at hb
   ·rename_i e0 sz xs hm
    split at hb
    ·rename_i hc
     obtain ⟨rfl, c3⟩ := hc
     cases hx with
     | os _ _ hD _ hvv =>
      have hown := h.mem k _ hm
      simp only [BlkRel] at hown
      split at hb
      ·split at hb
       ·rename_i l hl
        split at hb
        ·rename_i hll
         simp only [Option.some.injEq, Prod.mk.injEq] at hb
         obtain ⟨rfl, rfl⟩ := hb
         rcases hown with ⟨hn, rfl⟩ | ⟨b, o, cap, c, el, q1, q2, q3, q4, q5, q6, q7, q7', q8⟩
         ·obtain rfl : l = 0 := by simpa using hll
          have := q2m (P := P) h1 h2 (isS := true) (len := 0) (cap := 0) (h := 0) hl rfl (Nat.le_refl _) (Nat.le_refl _)
          obtain ⟨G', hA, hR, hh⟩ := h.nil_arr (k := k) (e := e' + 1) (.inr ⟨e', sz, _, hm, rfl⟩) sz
          refine ⟨.slice none 0 0, w, G', ?_, hA, by simpa [ap] using hR, .os k (e' + 1) (by simp [ap, Dm, q00]) _ hh.symm⟩
          rw [hvv, hn, q13 hT ht rfl he this]
          simp
         ·have := q2m (P := P) h1 h2 (isS := true) (len := xs.length) (cap := cap) (h := xs.length) hl rfl hll q2
          have hself : w.setRow b c = w := setRow_self w b c el (0, 0) q5
          have hsl : l * sz ≤ xs.length * sz := Nat.mul_le_mul_right _ hll
          have hsc : xs.length * sz ≤ cap * sz := Nat.mul_le_mul_right _ q2
          by_cases hcl : cap = l
          ·have hxl : xs.drop l = [] := List.drop_eq_nil_of_le (by omega)
           obtain ⟨G', hA, hR, hh⟩ := h.set_arr hm q1 (e' + 1) o (.inl rfl) (xs.drop l) (fun h => by omega) 0 (by simp [hxl]) (fun h => by omega) q5 q3 c (by omega) (by simp [hxl]) (by simp [hxl, flat]) (by simp [hxl, flat])
           rw [hself] at hA hR
           refine ⟨_, w, G', ?_, hA, by simpa [ap] using hR, .os k (e' + 1) (by simp [ap, Dm, q00]) _ hh.symm⟩
           rw [hvv, q1, q13 hT ht rfl he this, if_pos hcl, hxl]
           congr 2
           ·simp; omega
           ·omega
          ·obtain ⟨G', hA, hR, hh⟩ := h.set_arr hm q1 (e' + 1) (o + l * sz) (.inl rfl) (xs.drop l) (fun h => by omega) (cap - l) (by simp; omega) (fun h => by omega) q5 q3 c (by rw [Nat.sub_mul]; omega) (fun x hx => q7 x (List.mem_of_mem_drop hx))
            (fun x hx => by rw [q8m q7] at hx; exact q7' x (List.mem_of_mem_drop hx)) (fun i x hx => by
             rw [q8m q7, List.getElem?_drop] at hx
             obtain ⟨u, hu, hr⟩ := q8 _ x hx
             exact ⟨u, by rw [Nat.add_assoc]; exact hu, hr⟩)
           rw [hself] at hA hR
           refine ⟨_, w, G', ?_, hA, by simpa [ap] using hR, .os k (e' + 1) (by simp [ap, Dm, q00]) _ hh.symm⟩
           rw [hvv, q1, q13 hT ht rfl he this, if_neg hcl, ← c3]
           simp [q36]
        ·cases hb
       ·cases hb
      ·split at hb
       ·rename_i hi0 l hh hl hhh
        split at hb
        ·rename_i hc
         obtain ⟨c1, c2⟩ := hc
         simp only [Option.some.injEq, Prod.mk.injEq] at hb
         obtain ⟨rfl, rfl⟩ := hb
         obtain ⟨G', hA, hR, hsl, _, _⟩ := zdb h hm
         rcases hown with ⟨hn, rfl⟩ | ⟨b, o, cap, c, el, q1, q2, q3, q4, q5, q6, q7, q7', q8⟩
         ·simp only [List.length_nil, Nat.le_zero] at c2
          subst c2
          obtain rfl : l = 0 := by omega
          have := q2m (P := P) h1 h2 (isS := true) (len := 0) (cap := 0) hl hhh (Nat.le_refl _) (Nat.le_refl _)
          refine ⟨.slice none 0 0, w, G', ?_, hA, by simpa [ap] using hR, by simp; exact .slnil sz⟩
          rw [hvv, hn, q13 hT ht rfl he this]
          simp
         ·have := q2m (P := P) h1 h2 (isS := true) (len := xs.length) (cap := cap) hl hhh c1 (by omega)
          rw [q1] at hsl
          have hp := hsl.piece c1 c2
          refine ⟨_, w, G', ?_, hA, by simpa [ap] using hR, hp⟩
          rw [hvv, q1, q13 hT ht rfl he this, c3]
        ·cases hb
       ·cases hb
    ·cases hb
   ·cases hb
  ·rename_i k e' sz i0 m
   split at hb
   ·rename_i l hh hl hhh
    split at hb
    ·rename_i hc
     obtain ⟨c1, c2, c3, c4⟩ := hc
     simp only [Option.some.injEq, Prod.mk.injEq] at hb
     obtain ⟨rfl, rfl⟩ := hb
     cases hx with
     | vw _ _ _ _ _ b o len cap hD hhd hn =>
      obtain ⟨n1, n2⟩ := hn
      have := q2m (P := P) h1 h2 (isS := true) (len := m) (cap := cap - i0) hl hhh c1 (by omega)
      have hv := VR.vw (D := Dm s.M) (G := G) (B := B) (w := w) k e' sz (i0 + l) (hh - l) b o len cap hD hhd ⟨by omega, n2⟩
      refine Res.pure h (v' := .slice (some ⟨b, o + (i0 + l) * sz, none⟩) (hh - l) (cap - (i0 + l))) ?_ hv
      rw [q13 hT ht rfl he this, if_neg (by omega)]
      simp [q36, c3, Nat.add_mul, Nat.add_assoc, Nat.sub_sub]
    ·cases hb
   ·cases hb
  ·cases hb
 ·cases hb

def qme (M : Mem) (sz : Nat) (x : AVal) : Option (List AVal) :=
 match x with
 | .nil => some []
 | .sl sz' ys => if sz' = sz then some ys else none
 | .os k e => match M k with | some (.arr e' sz' ys) => if e = e' ∧ sz' = sz then some ys else none | _ => none
 | .str s => if sz = 1 then some (s.data.toList.map fun b => .int .u8 b.toNat) else none
 | _ => none
theorem z3e {P : Program} {n : Nat} {B : Nat → Prop} {G : Gh} {s : AS} {a : Act} {w : World} (h : Rel n B G s a w) {x : AVal} {x' : Value} (hx : VR (Dm s.M) G B w x x') {sz : Nat} {ys : List AVal} (hs : qme s.M sz x = some ys) :
 ∃ us : Array Value, us.size = (flat ys).length ∧ (∀ (i : Nat) (y : AVal), (flat ys)[i]? = some y → ∃ u, us[i]? = some u ∧ VR (Dm s.M) G B w y u) ∧ (∀ y ∈ flat ys, y.one = true) ∧ (∀ y ∈ ys, y.cells.length = sz) ∧
  (∀ w1, (Builtin.lenOf x').run P w1 = .ok ys.length w1) ∧ ∀ w1 : World, w1.heap = w.heap → (Builtin.firstCells sz ys.length x').run P w1 = .ok us w1 := by
 have loads : ∀ (b off len cap : Nat) (f : Nat → Value) (ys : List AVal), (∀ y ∈ ys, y.cells.length = sz) → (∀ (i : Nat) (y : AVal), (flat ys)[i]? = some y → w.cell? ⟨b, off + i, none⟩ = some (f i)) →
  ∀ w1 : World, w1.heap = w.heap → (Builtin.firstCells sz ys.length (.slice (some ⟨b, off, none⟩) len cap)).run P w1 = .ok ((List.range (ys.length * sz)).map f).toArray w1 := by
  intro b off len cap f ys hsz hc w1 hw
  simp only [Builtin.firstCells]
  refine run_loadCells w1 ⟨b, off, none⟩ (ys.length * sz) f fun j hj => ?_
  rw [q36, q2u (w := w) (by rw [hw])]
  have hlt : j < (flat ys).length := by rw [q0q hsz]; exact hj
  exact hc j _ (List.getElem?_eq_getElem hlt)
 unfold qme at hs
 split at hs
 ·simp only [Option.some.injEq] at hs
  subst hs
  cases hx
  exact ⟨#[], rfl, by simp [flat], by simp [flat], by simp, fun _ => rfl, fun _ _ => rfl⟩
 ·rename_i sz' ys'
  split at hs
  ·rename_i hsz'
   simp only [Option.some.injEq] at hs
   subst hs
   subst hsz'
   cases hx with
   | slnil => exact ⟨#[], rfl, by simp [flat], by simp [flat], by simp, fun _ => rfl, fun _ _ => rfl⟩
   | slemp _ a cap => exact ⟨#[], rfl, by simp [flat], by simp [flat], by simp, fun _ => rfl, fun w1 _ => by
    simp only [Builtin.firstCells]
    have := run_loadCells (P := P) w1 a (0 * sz') (fun _ => undef) (fun j hj => by omega)
    simpa using this⟩
   | sl _ _ b off cap f hcap hB hone hsz hc hv =>
    refine ⟨((List.range (ys'.length * sz')).map f).toArray, by simp [q0q hsz], fun i y hy => ⟨f i, ?_, hv i y hy⟩, hone, hsz, fun _ => rfl, loads b off _ cap f ys' hsz hc⟩
    have hlt : i < ys'.length * sz' := by
     rw [← q0q hsz]
     rcases Nat.lt_or_ge i (flat ys').length with h' | h'
     ·exact h'
     ·rw [List.getElem?_eq_none h'] at hy; cases hy
    simp [hlt]
  ·cases hs
 ·rename_i k e
  split at hs
  ·rename_i e' sz' ys' hm
   split at hs
   ·rename_i hc
    obtain ⟨rfl, rfl⟩ := hc
    simp only [Option.some.injEq] at hs
    subst hs
    cases hx with
    | os _ _ hD _ hv =>
     have hown := h.mem k _ hm
     simp only [BlkRel] at hown
     rcases hown with ⟨hn, rfl⟩ | ⟨b, o, cap, c, el, q1, q2, q3, q4, q5, q6, q7, q7', q8⟩
     ·rw [hv, hn]
      exact ⟨#[], rfl, by simp [flat], by simp [flat], by simp, fun _ => rfl, fun _ _ => rfl⟩
     ·rw [hv, q1]
      have hf : ∀ (i : Nat) (y : AVal), (flat ys')[i]? = some y → w.cell? ⟨b, o + i, none⟩ = some (c.getD (o + i) undef) := fun i y hy => by
       obtain ⟨u, hu, _⟩ := q8 i y hy
       rw [q29 q5, hu]
       simp [hu]
      refine ⟨((List.range (ys'.length * sz')).map fun i => c.getD (o + i) undef).toArray, by simp [q0q q7], fun i y hy => ?_, q7', q7, fun _ => rfl, loads b o _ cap _ ys' q7 hf⟩
      obtain ⟨u, hu, hr⟩ := q8 i y hy
      have hlt : i < ys'.length * sz' := by
       rw [← q0q q7]
       rcases Nat.lt_or_ge i (flat ys').length with h' | h'
       ·exact h'
       ·rw [List.getElem?_eq_none h'] at hy; cases hy
      exact ⟨u, by simp [hlt, hu], hr⟩
   ·cases hs
  ·cases hs
 ·rename_i str
  split at hs
  ·rename_i h1
   subst h1
   simp only [Option.some.injEq] at hs
   subst hs
   cases hx
   have hfl : ∀ l : List UInt8, flat (l.map fun b => AVal.int .u8 b.toNat) = l.map fun b => AVal.int .u8 b.toNat := by
    intro l
    induction l with
    | nil => rfl
    | cons x l ih => rw [List.map_cons, q2l, ih]; rfl
   refine ⟨str.data.map fun b => .int .u8 b.toNat, by rw [hfl]; simp, fun i y hy => ?_, fun y hy => ?_, fun y hy => ?_, fun w1 => ?_, fun w1 _ => ?_⟩
   ·rw [hfl] at hy
    simp only [List.getElem?_map] at hy
    cases hb : str.data.toList[i]? with
    | none => simp [hb] at hy
    | some b =>
     simp only [hb, Option.map_some, Option.some.injEq] at hy
     subst hy
     refine ⟨.int .u8 b.toNat, ?_, .int _ _⟩
     have : str.data[i]? = some b := by simpa using hb
     simp [this]
   ·rw [hfl] at hy
    obtain ⟨b, _, rfl⟩ := List.mem_map.1 hy
    rfl
   ·obtain ⟨b, _, rfl⟩ := List.mem_map.1 hy
    rfl
   ·simp [Builtin.lenOf]
   ·have e : str.extract 0 (str.data.toList.map fun b => AVal.int .u8 b.toNat).length = str := by
     have : (str.data.toList.map fun b => AVal.int .u8 b.toNat).length = str.size := by simp
     rw [this]
     exact ByteArray.extract_zero_size
    simp only [Builtin.firstCells, e, Sem.run_pure]
  ·cases hs
 ·cases hs
def q5u (TE : TyE) (M : Mem) (t1 t2 : TypeId) (x y : AVal) (d : Option Tmp) : AR :=
 match TE t1, TE t2 with
 | some ⟨.slice e, _, _, _⟩, some i2 =>
  match TE e with
  | none => none
  | some ei =>
   if 0 < ei.size ∧ (i2.td = .str ∨ i2.td = .slice e) then
    match qme M ei.size y with
    | none => none
    | some ys =>
     match x with
     | .nil =>
      (match d with
       | some d => (match M d with
        | none => if ys.length * ei.bytes ≤ 70368744177664 ∧ ys.length ≤ 4611686018427387904 then some (.os d 0, [(d, .arr 0 ei.size ys)]) else none
        | some _ => none)
       | none => none)
     | .os k e' =>
      (match M k with
       | some (.arr e0 sz xs) =>
        if e' = e0 ∧ sz = ei.size ∧ (xs.length + ys.length) * ei.bytes ≤ 70368744177664 ∧ xs.length + ys.length ≤ 4611686018427387904 then some (.os k (e' + 1), [(k, .arr (e' + 1) sz (xs ++ ys))]) else none
       | _ => none)
     | _ => none
   else none
 | _, _ => none
theorem q94 {P : Program} {t1 t2 e ty : TypeId} {d2 : TypeDesc} (hu : P.underlying t1 = some (.slice e)) (hu2 : P.underlying t2 = some d2) (hd2 : d2 = .string ∨ d2 = .slice e) {inf : TypeInfo} (hi : P.info? e = some inf) {w w' : World}
 {base : Option Addr} {sLen sCap m : Nat} {y' : Value} {us : Array Value} (hlen : ∀ w1, (Builtin.lenOf y').run P w1 = .ok m w1) (hfirst : (Builtin.firstCells inf.size m y').run P w = .ok us w) (hroom : sLen + m ≤ sCap)
 (hst : (match base with | some a => storeCells (a.add (sLen * inf.size)) us.toList | none => pure () : Sem Unit).run P w = .ok () w') :
 (Builtin.append_ #[t1, t2] ty #[.slice base sLen sCap, y']).run P w = .ok (.slice base (sLen + m) sCap) w' := by
 rcases hd2 with rfl | rfl
 all_goals
  cases base with
  | none =>
   simp only [Sem.run_pure, Result.ok.injEq, true_and] at hst
   subst hst
   simp [Builtin.append_, run_underlying hu, run_underlying hu2, sizeOf, typeInfo, hi, hlen, hroom, hfirst]
  | some a =>
   simp only [] at hst
   simp [Builtin.append_, run_underlying hu, run_underlying hu2, sizeOf, typeInfo, hi, hlen, hroom, hfirst, hst]
theorem qhj {P : Program} {t1 t2 e ty : TypeId} {d2 : TypeDesc} (hu : P.underlying t1 = some (.slice e)) (hu2 : P.underlying t2 = some d2) (hd2 : d2 = .string ∨ d2 = .slice e) {inf : TypeInfo} (hi : P.info? e = some inf) {z : Value} (hz : inf.zero = some z) {w : World}
 {base : Option Addr} {sLen sCap m : Nat} {y' : Value} {us olds : Array Value} (hlen : ∀ w1, (Builtin.lenOf y').run P w1 = .ok m w1) (hfirst : (Builtin.firstCells inf.size m y').run P w.drew = .ok us w.drew)
 (hold : (Builtin.firstCells inf.size sLen (.slice base sLen sCap)).run P w.drew = .ok olds w.drew) (hgt : sCap < sLen + m) (h63 : ((sLen + m : Nat) : Int) ≤ 9223372036854775807) (hfit : Builtin.nextslicecap (sLen + m) sCap * inf.bytes ≤ 281474976710656) :
 (Builtin.append_ #[t1, t2] ty #[.slice base sLen sCap, y']).run P w =
  .ok (.slice (some ⟨w.heap.size, 0, none⟩) (sLen + m) (grownCap w (sLen + m) sCap e)) (w.drew.alloc (.cells (olds ++ us ++ Builtin.zeroCells z.cells (grownCap w (sLen + m) sCap e - (sLen + m))) e)) := by
 have hn : ¬ (sLen + m ≤ sCap) := by omega
 have h48' : ¬ (Builtin.nextslicecap (sLen + m) sCap * inf.bytes > 2 ^ 48) := by omega
 have h63' : ¬ ((((sLen + m : Nat) : Int) > IntKind.i64.max) ∧ inf.bytes = 0) := by
  have : IntKind.i64.max = 9223372036854775807 := by decide
  rw [this]; omega
 have h64 : ¬ (IntKind.i64.max < (sLen : Int) + (m : Int) ∧ inf.bytes = 0) := by
  have : IntKind.i64.max = 9223372036854775807 := by decide
  rw [this]; omega
 have h49 : ¬ (281474976710656 < Builtin.nextslicecap (sLen + m) sCap * inf.bytes) := by omega
 rcases hd2 with rfl | rfl
 all_goals
  simp [Builtin.append_, run_underlying hu, run_underlying hu2, sizeOf, typeInfo, zeroValue, hi, hz, hlen, hn, h63', h64, h48', h49, Question.forced, hfirst, hold, newRow, grownCap]
  intro hh
  exfalso
  omega
theorem qco {P : Program} {TE : TyE} (hT : q2r P TE) {n : Nat} {B : Nat → Prop} {G : Gh} {s : AS} {a : Act} {w : World} (h : Rel n B G s a w) {t1 t2 e : TypeId} {i1 i2 ei : TyI} (h1 : TE t1 = some i1) (hd1 : i1.td = .slice e)
 (h2 : TE t2 = some i2) (hd2 : i2.td = .str ∨ i2.td = .slice e) (he : TE e = some ei) (hsz0 : 0 < ei.size) {y : AVal} {y' : Value} (hy : VR (Dm s.M) G B w y y') {ys : List AVal} (hs : qme s.M ei.size y = some ys)
 {kk ee : Nat} {xs : List AVal} (hf : Fresh s.M kk ee) (hb : (xs.length + ys.length) * ei.bytes ≤ 70368744177664) (hb2 : xs.length + ys.length ≤ 4611686018427387904) {x' : Value} {ty : TypeId}
 (hx : (x' = .slice none 0 0 ∧ xs = []) ∨ ∃ e0, ee = e0 + 1 ∧ s.M kk = some (.arr e0 ei.size xs) ∧ x' = G.hd kk e0) :
 Res P n B G s a w (Builtin.append_ #[t1, t2] ty #[x', y']) (.os kk ee) [(kk, .arr ee ei.size (xs ++ ys))] := by
 obtain ⟨us, u1, u2, u3, u4, u5, u6⟩ := z3e (P := P) h hy hs
 have hu := q1z hT h1 hd1
 obtain ⟨dd, inf, q1, q2, q3, q4, q5, q6, q7⟩ := hT e ei he
 obtain ⟨d2, hu2, hd2'⟩ : ∃ d2, P.underlying t2 = some d2 ∧ (d2 = .string ∨ d2 = .slice e) := by
  rcases hd2 with hd2 | hd2
  ·exact ⟨_, qb2 hT h2 hd2, .inl rfl⟩
  ·exact ⟨_, q1z hT h2 hd2, .inr rfl⟩
 have hul : us.size = ys.length * ei.size := by rw [u1, q0q u4]
 have grow : ∀ (sCap : Nat) (olds : Array Value) (_ : olds.size = xs.length * ei.size) (_ : ∀ (i : Nat) (x : AVal), (flat xs)[i]? = some x → ∃ u, olds[i]? = some u ∧ VR (Dm s.M) G B w x u) (_ : ∀ x ∈ xs, x.cells.length = ei.size)
  (_ : ∀ x ∈ flat xs, x.one = true), sCap < xs.length + ys.length → (∀ w1 : World, w1.heap = w.heap → (Builtin.firstCells ei.size xs.length x').run P w1 = .ok olds w1) → (∃ A, x' = .slice A xs.length sCap) →
  Res P n B G s a w (Builtin.append_ #[t1, t2] ty #[x', y']) (.os kk ee) [(kk, .arr ee ei.size (xs ++ ys))] := by
  rintro sCap olds ho1 ho2 ho3 ho4 hgt hold ⟨A, rfl⟩
  have hwd : (w.drew).heap = w.heap := rfl
  have hg1 : xs.length + ys.length ≤ grownCap w (xs.length + ys.length) sCap e := grownCap_ge _ _ _ _
  have hzs : (Builtin.zeroCells ei.zero.cells (grownCap w (xs.length + ys.length) sCap e - (xs.length + ys.length))).size = (grownCap w (xs.length + ys.length) sCap e - (xs.length + ys.length)) * ei.size := by
   rw [size_zeroCells, q7]
  obtain ⟨G', hA, hR, hh⟩ := (h.drawn (w.drawn + 1)).new_arr hf ei.size (grownCap w (xs.length + ys.length) sCap e) (xs ++ ys) (olds ++ us ++ Builtin.zeroCells ei.zero.cells (grownCap w (xs.length + ys.length) sCap e - (xs.length + ys.length))) e
   (by simpa using hg1) (by simp only [Array.size_append, ho1, hul, hzs, ← Nat.add_mul]; exact Nat.mul_le_mul_right _ (by omega)) (fun x hx => (List.mem_append.1 hx).elim (ho3 x) (u4 x))
   (fun x hx => by rw [q3e] at hx; exact (List.mem_append.1 hx).elim (ho4 x) (u3 x))
   (fun i x hx => by
    rw [q3e] at hx
    have hfx : (flat xs).length = olds.size := by rw [q0q ho3, ho1]
    by_cases hi : i < (flat xs).length
    ·rw [List.getElem?_append_left hi] at hx
     obtain ⟨u, hu, hr⟩ := ho2 i x hx
     exact ⟨u, by rw [Array.append_assoc, Array.getElem?_append_left (by omega)]; exact hu, hr.mono (w := w) (G := G) (B := B) (fun _ _ h => h) (fun _ _ _ => ⟨rfl, rfl⟩) (fun b _ hn ho => ⟨rfl, hn, ho⟩)⟩
    ·rw [List.getElem?_append_right (by omega)] at hx
     obtain ⟨u, hu, hr⟩ := u2 _ x hx
     have hlt : i - (flat xs).length < us.size := by
      rcases Nat.lt_or_ge (i - (flat xs).length) us.size with h' | h'
      ·exact h'
      ·rw [Array.getElem?_eq_none h'] at hu; cases hu
     exact ⟨u, by rw [Array.append_assoc, Array.getElem?_append_right (by omega), Array.getElem?_append_left (by omega), ← hfx]; exact hu, hr.mono (w := w) (G := G) (B := B) (fun _ _ h => h) (fun _ _ _ => ⟨rfl, rfl⟩) (fun b _ hn ho => ⟨rfl, hn, ho⟩)⟩)
  refine ⟨_, _, G', ?_, (Adv.drawn G w _).trans hA, by simpa [ap] using hR, .os kk ee (by simp [ap, Dm, q00]) _ rfl⟩
  rw [hh]
  have := qhj (P := P) (ty := ty) hu hu2 hd2' q3 q6 (w := w) (base := A) (sLen := xs.length) (sCap := sCap) u5 (by rw [q4]; exact u6 _ rfl) (by rw [q4]; exact hold _ rfl) hgt (by omega)
   (growslice_fits (bytes := inf.bytes) hgt (by rw [q5]; omega))
  rw [this]
  simp only [List.length_append]
  rfl
 rcases hx with ⟨rfl, rfl⟩ | ⟨e0, rfl, hm, rfl⟩
 ·by_cases hy0 : ys = []
  ·subst hy0
   obtain ⟨G', hA, hR, hh⟩ := h.nil_arr hf ei.size
   refine ⟨.slice none 0 0, w, G', ?_, hA, by simpa [ap] using hR, .os kk ee (by simp [ap, Dm, q00]) _ hh.symm⟩
   simpa using q94 (P := P) (ty := ty) hu hu2 hd2' q3 (w := w) (w' := w) (base := none) (sLen := 0) (sCap := 0) (m := 0) u5 (by rw [q4]; exact u6 w rfl) (Nat.le_refl _) rfl
  ·have hpos : 0 < ys.length := List.length_pos_iff.2 hy0
   exact grow 0 #[] (by simp) (by simp [flat]) (by simp) (by simp [flat]) (by simp; omega) (fun w1 _ => rfl) ⟨none, rfl⟩
 ·have hown := h.mem kk _ hm
  simp only [BlkRel] at hown
  rcases hown with ⟨hn, rfl⟩ | ⟨b, o, cap, c, el, p1, p2, p3, p4, p5, p6, p7, p7', p8⟩
  ·rw [hn]
   by_cases hy0 : ys = []
   ·subst hy0
    obtain ⟨G', hA, hR, hh⟩ := h.nil_arr hf ei.size
    refine ⟨.slice none 0 0, w, G', ?_, hA, by simpa [ap] using hR, .os kk (e0 + 1) (by simp [ap, Dm, q00]) _ hh.symm⟩
    simpa using q94 (P := P) (ty := ty) hu hu2 hd2' q3 (w := w) (w' := w) (base := none) (sLen := 0) (sCap := 0) (m := 0) u5 (by rw [q4]; exact u6 w rfl) (Nat.le_refl _) rfl
   ·have hpos : 0 < ys.length := List.length_pos_iff.2 hy0
    rw [hn] at grow
    exact grow 0 #[] (by simp) (by simp [flat]) (by simp) (by simp [flat]) (by simp; omega) (fun w1 _ => rfl) ⟨none, rfl⟩
  ·have hfl : (flat xs).length = xs.length * ei.size := q0q p7
   have hfc : ∀ w1 : World, w1.heap = w.heap → (Builtin.firstCells ei.size xs.length (G.hd kk e0)).run P w1 = .ok ((List.range (xs.length * ei.size)).map fun i => c.getD (o + i) undef).toArray w1 := by
    intro w1 hw1
    rw [p1]
    simp only [Builtin.firstCells]
    refine run_loadCells w1 ⟨b, o, none⟩ (xs.length * ei.size) _ fun j hj => ?_
    rw [q36, q2u (w := w) (by rw [hw1])]
    have hlt : j < (flat xs).length := by omega
    obtain ⟨u, hu, _⟩ := p8 j _ (List.getElem?_eq_getElem hlt)
    rw [q29 p5, hu]
    simp [hu]
   by_cases hroom : xs.length + ys.length ≤ cap
   ·have hfit : (xs.length + ys.length) * ei.size ≤ cap * ei.size := Nat.mul_le_mul_right _ hroom
    rw [Nat.add_mul] at hfit
    have hus : us.toList.length = ys.length * ei.size := by simpa using hul
    obtain ⟨G', hA, hR, hh⟩ := h.set_arr hm p1 (e0 + 1) o (.inl rfl) (xs ++ ys) (fun h => by omega) cap (by simpa using hroom) (fun h => by omega) p5 p3 (q0m c.toList (o + xs.length * ei.size) us.toList).toArray
     (by rw [List.size_toArray, q0x (by simp [hul]; omega)]; simpa using p6) (fun x hx => (List.mem_append.1 hx).elim (p7 x) (u4 x))
     (fun x hx => by rw [q3e] at hx; exact (List.mem_append.1 hx).elim (p7' x) (u3 x))
     (fun i x hx => by
      rw [q3e] at hx
      rw [List.getElem?_toArray, q0v (by simp [hul]; omega), hus]
      by_cases hi : i < (flat xs).length
      ·rw [List.getElem?_append_left hi] at hx
       obtain ⟨u, hu, hr⟩ := p8 i x hx
       rw [if_pos (by omega)]
       exact ⟨u, by simpa using hu, hr⟩
      ·rw [List.getElem?_append_right (by omega)] at hx
       obtain ⟨u, hu, hr⟩ := u2 _ x hx
       have hlt : i - (flat xs).length < us.size := by
        rcases Nat.lt_or_ge (i - (flat xs).length) us.size with h' | h'
        ·exact h'
        ·rw [Array.getElem?_eq_none h'] at hu; cases hu
       rw [if_neg (by omega), if_pos (by omega)]
       exact ⟨u, by rw [show o + i - (o + xs.length * ei.size) = i - (flat xs).length by omega]; simpa using hu, hr⟩)
    refine ⟨_, _, G', ?_, hA, by simpa [ap] using hR, .os kk (e0 + 1) (by simp [ap, Dm, q00]) _ rfl⟩
    rw [hh, p1]
    have hst := run_storeCells_at P b (o + xs.length * ei.size) el us.toList 0 c w p5 (by simp [hul]; omega) (fun u hu => by
     obtain ⟨i, hi, hu'⟩ := List.getElem_of_mem hu
     have hi' : i < (flat ys).length := by rw [← u1]; simpa using hi
     obtain ⟨u'', hu2, hr⟩ := u2 i _ (List.getElem?_eq_getElem hi')
     have : u'' = u := by
      have e : us[i]? = some u := by rw [← hu']; simp [Array.getElem?_eq_getElem (by simpa using hi : i < us.size)]
      rw [e] at hu2
      exact (Option.some.inj hu2).symm
     subst this
     exact hr.oneCell (u3 _ (List.getElem_mem hi')))
    simp only [Nat.add_zero] at hst
    have := q94 (P := P) (ty := ty) hu hu2 hd2' q3 (w := w) (base := some ⟨b, o, none⟩) (sLen := xs.length) (sCap := cap) u5 (by rw [q4]; exact u6 w rfl) hroom (by rw [q4]; simp only [q36]; exact hst)
    rw [this]
    simp [q0m]
   ·exact grow cap _ (by simp) (fun i x hx => by
     obtain ⟨u, hu, hr⟩ := p8 i x hx
     have hlt : i < xs.length * ei.size := by
      rw [← hfl]
      rcases Nat.lt_or_ge i (flat xs).length with h' | h'
      ·exact h'
      ·rw [List.getElem?_eq_none h'] at hx; cases hx
     exact ⟨u, by simp [hlt, hu], hr⟩) p7 p7' (by omega) hfc ⟨_, p1⟩
theorem z2l {P : Program} {TE : TyE} (hT : q2r P TE) {n : Nat} {B : Nat → Prop} {G : Gh} {s : AS} {a : Act} {w : World} (h : Rel n B G s a w) {t1 t2 ty : TypeId} {x y : AVal} {x' y' : Value} (hx : VR (Dm s.M) G B w x x')
 (hy : VR (Dm s.M) G B w y y') {d : Option Tmp} {v : AVal} {ups : List (Nat × ABlk)} (hb : q5u TE s.M t1 t2 x y d = some (v, ups)) : Res P n B G s a w (Builtin.append_ #[t1, t2] ty #[x', y']) v ups := by
 unfold q5u at hb
 split at hb
 case h_2 => cases hb
 rename_i e s1 b1 z1 i2 h1 h2
 split at hb
 ·cases hb
 rename_i ei he
 split at hb
 case isFalse => cases hb
 rename_i hc
 obtain ⟨hs0, hd2⟩ := hc
 split at hb
 ·cases hb
 rename_i ys hys
 split at hb
 ·cases hx
  split at hb
  case h_2 => cases hb
  rename_i d
  split at hb
  case h_2 => cases hb
  rename_i hd
  split at hb
  case isFalse => cases hb
  rename_i hbd
  simp only [Option.some.injEq, Prod.mk.injEq] at hb
  obtain ⟨rfl, rfl⟩ := hb
  exact qco hT h h1 rfl h2 hd2 he hs0 hy hys (kk := d) (ee := 0) (xs := []) (.inl hd) (by simpa using hbd.1) (by simpa using hbd.2) (.inl ⟨rfl, rfl⟩)
 ·rename_i k e'
  split at hb
  case h_2 => cases hb
  rename_i e0 sz xs hm
  split at hb
  case isFalse => cases hb
  rename_i hbd
  obtain ⟨rfl, rfl, hb1, hb2⟩ := hbd
  simp only [Option.some.injEq, Prod.mk.injEq] at hb
  obtain ⟨rfl, rfl⟩ := hb
  cases hx with
  | os _ _ hD _ hv => exact qco hT h h1 rfl h2 hd2 he hs0 hy hys (kk := k) (ee := e' + 1) (xs := xs) (.inr ⟨e', ei.size, xs, hm, rfl⟩) hb1 hb2 (.inr ⟨e', rfl, hm, hv⟩)
 ·cases hb

theorem zej (a b : ByteArray) : (a == b) = decide (a = b) := by
 obtain ⟨⟨x⟩⟩ := a
 obtain ⟨⟨y⟩⟩ := b
 show ((⟨x⟩ : Array UInt8) == ⟨y⟩) = _
 rw [Bool.eq_iff_iff]
 simp
def z2k (op : BinOp) (k : IntKind) (x y : Int) : Option Int :=
 match op with
 | .and => some (k.wrap ((BitVec.ofInt k.bits x &&& BitVec.ofInt k.bits y).toNat : Int))
 | .or => some (k.wrap ((BitVec.ofInt k.bits x ||| BitVec.ofInt k.bits y).toNat : Int))
 | .xor => some (k.wrap ((BitVec.ofInt k.bits x ^^^ BitVec.ofInt k.bits y).toNat : Int))
 | .andNot => some (k.wrap ((BitVec.ofInt k.bits x &&& ~~~BitVec.ofInt k.bits y).toNat : Int))
 | _ => none
def q8y (op : BinOp) (k : IntKind) (a b : Int) : Option AVal :=
 match op with
 | .add => some (.int k (k.wrap (a + b)))
 | .sub => some (.int k (k.wrap (a - b)))
 | .mul => some (.int k (k.wrap (a * b)))
 | .quo => if b = 0 then none else some (.int k (k.wrap (a.tdiv b)))
 | .rem => if b = 0 then none else some (.int k (a.tmod b))
 | .and | .or | .xor | .andNot => (z2k op k a b).map (.int k ·)
 | .eql => some (.bool (decide (a = b)))
 | .neq => some (.bool (!decide (a = b)))
 | .lss => some (.bool (decide (a < b)))
 | .leq => some (.bool (decide (a ≤ b)))
 | .gtr => some (.bool (decide (b < a)))
 | .geq => some (.bool (decide (b ≤ a)))
 | _ => none
def q84 (op : BinOp) (k : IntKind) (a b : Int) : Option AVal :=
 if b < 0 then none else
 match op with
 | .shl => some (.int k (k.wrap (a * 2 ^ min b.toNat k.bits)))
 | .shr => some (.int k (a.fdiv (2 ^ min b.toNat k.bits)))
 | _ => none
def strA (op : BinOp) (x y : ByteArray) : Option AVal :=
 match op with
 | .add => if x.size + y.size ≤ 4611686018427387904 then some (.str (x ++ y)) else none
 | .eql => some (.bool (decide (x = y)))
 | .neq => some (.bool (!decide (x = y)))
 | .lss => some (.bool (Op.bytesLess x.toList y.toList))
 | .gtr => some (.bool (!(Op.bytesLess x.toList y.toList || decide (x = y))))
 | .leq => some (.bool (Op.bytesLess x.toList y.toList || decide (x = y)))
 | .geq => some (.bool (!Op.bytesLess x.toList y.toList))
 | _ => none
structure EqOk (P : Program) (t : TypeId) : Prop where
 held : P.stoodInHeld t = false
 guard : P.eqGuardType P.depth t = false
 names : ∀ f ∈ (P.fieldsOf t).toList, f.name ≠ "_"
mutual
def eqA (TE : TyE) (EQ : TypeId → Bool) : Nat → TypeId → AVal → AVal → Option Bool
 | 0, _, _, _ => none
 | n + 1, t, x, y =>
  match TE t with
  | none => none
  | some i =>
   match i.td, x, y with
   | .bool, .bool a, .bool b => some (a == b)
   | .int _, .int k a, .int k' b => if k = k' then some (decide (a = b)) else none
   | .str, .str a, .str b => some (decide (a = b))
   | .struct fs, .agg cs, .agg ds => if EQ t = true then z2u TE EQ n cs ds fs else none
   | _, _, _ => none
def z2u (TE : TyE) (EQ : TypeId → Bool) : Nat → List AVal → List AVal → List (TypeId × Nat) → Option Bool
 | _, _, _, [] => some true
 | n, cs, ds, (ft, off) :: fs =>
  match TE ft with
  | none => none
  | some fi =>
   match q4s fi off cs, q4s fi off ds with
   | some x, some y =>
    match eqA TE EQ n ft x y with
    | none => none
    | some r => (match z2u TE EQ n cs ds fs with | none => none | some q => some (r && q))
   | _, _ => none
end
theorem z0l {P : Program} {TE : TyE} (hT : q2r P TE) {EQ : TypeId → Bool} (hE : ∀ t, EQ t = true → EqOk P t) {D : Nat → Nat → Prop} {G : Gh} {B : Nat → Prop} {w : World} :
 ∀ (n : Nat) (m : Nat), n ≤ m → (∀ (t : TypeId) (x y : AVal) (x' y' : Value) (r : Bool), VR D G B w x x' → VR D G B w y y' → eqA TE EQ n t x y = some r → (Op.equalIn m t x' y').run P w = .ok r w) ∧
  (∀ (fs : List (TypeId × Nat)) (a : List Field) (cs ds : List AVal) (xs ys : Array Value) (r : Bool), a.map (fun f => (f.type, f.offset)) = fs → (∀ f ∈ a, f.name ≠ "_") → VR D G B w (.agg cs) (.agg xs) → VR D G B w (.agg ds) (.agg ys) →
   z2u TE EQ n cs ds fs = some r → (Op.eqFields m xs ys a).run P w = .ok r w) := by
 intro n
 induction n with
 | zero =>
  intro m hm
  refine ⟨fun t x y x' y' r _ _ he => by simp [eqA] at he, ?_⟩
  intro fs
  induction fs with
  | nil =>
   intro a cs ds xs ys r ha _ _ _ he
   have : a = [] := by simpa using ha
   subst this
   simp only [z2u, Option.some.injEq] at he
   subst he
   simp [Op.eqFields]
  | cons p fs ih =>
   intro a cs ds xs ys r ha hn h1 h2 he
   obtain ⟨ft, off⟩ := p
   simp only [z2u] at he
   cases hfi : TE ft with
   | none => simp [hfi] at he
   | some fi =>
    simp only [hfi] at he
    cases hp1 : q4s fi off cs <;> cases hp2 : q4s fi off ds <;> simp [hp1, hp2, eqA] at he
 | succ n ihn =>
  intro m hm
  obtain ⟨m, rfl⟩ : ∃ q, m = q + 1 := ⟨m - 1, by omega⟩
  have key : ∀ (t : TypeId) (x y : AVal) (x' y' : Value) (r : Bool), VR D G B w x x' → VR D G B w y y' → eqA TE EQ (n + 1) t x y = some r → (Op.equalIn (m + 1) t x' y').run P w = .ok r w := by
   intro t x y x' y' r hx hy he
   simp only [eqA] at he
   cases hi : TE t with
   | none => simp [hi] at he
   | some i =>
    simp only [hi] at he
    obtain ⟨d, inf, q1, q2, q3, q4, q5, q6, q7⟩ := hT t i hi
    split at he
    ·rename_i b1 b2 htd
     simp only [Option.some.injEq] at he
     subst he
     cases hx; cases hy
     rw [htd] at q2
     cases d <;> simp [TD.of] at q2
     simp [Op.equalIn, run_underlying q1]
    ·rename_i k0 k a k' b htd
     cases hx; cases hy
     split at he
     ·rename_i hk
      subst hk
      simp only [Option.some.injEq] at he
      subst he
      rw [htd] at q2
      cases d <;> simp [TD.of] at q2
      simp [Op.equalIn, run_underlying q1]
      rfl
     ·cases he
    ·rename_i a b htd
     simp only [Option.some.injEq] at he
     subst he
     cases hx; cases hy
     rw [htd] at q2
     cases d <;> simp [TD.of] at q2
     simp only [Op.equalIn, Sem.run_bind, run_underlying q1, Result.andThen, Sem.run_pure, zej]
    ·rename_i fs cs ds htd
     split at he
     ·rename_i hq
      have hEq := hE t hq
      obtain ⟨a, ha, hm'⟩ := q2s hT hi htd
      have hfo : P.fieldsOf t = a := by simp [Program.fieldsOf, ha]
      cases hx with
      | agg _ xs hl1 hh1 =>
       cases hy with
       | agg _ ys hl2 hh2 =>
        rw [run_equalIn_struct (P := P) w m t xs ys (by rw [hfo]; exact ha) hEq.held, hfo]
        exact (ihn m (by omega)).2 fs a.toList cs ds xs ys r hm' (by rw [← hfo]; exact hEq.names) (.agg cs xs hl1 hh1) (.agg ds ys hl2 hh2) he
     ·cases he
    ·cases he
  refine ⟨key, ?_⟩
  intro fs
  induction fs with
  | nil =>
   intro a cs ds xs ys r ha _ _ _ he
   have : a = [] := by simpa using ha
   subst this
   simp only [z2u, Option.some.injEq] at he
   subst he
   simp [Op.eqFields]
  | cons p fs ih =>
   intro a cs ds xs ys r ha hn h1 h2 he
   obtain ⟨ft, off⟩ := p
   cases a with
   | nil => simp at ha
   | cons f a =>
    simp only [List.map_cons, List.cons.injEq, Prod.mk.injEq] at ha
    obtain ⟨⟨rfl, rfl⟩, ha⟩ := ha
    simp only [z2u] at he
    cases hfi : TE f.type with
    | none => simp [hfi] at he
    | some fi =>
     simp only [hfi] at he
     cases hp1 : q4s fi f.offset cs with
     | none => simp [hp1] at he
     | some x =>
      cases hp2 : q4s fi f.offset ds with
      | none => simp [hp1, hp2] at he
      | some y =>
       simp only [hp1, hp2] at he
       cases h1 with
       | agg _ _ hl1 hh1 =>
        cases h2 with
        | agg _ _ hl2 hh2 =>
         obtain ⟨x', hx1, hx2⟩ := q8c hT hfi hl1 hh1 hp1
         obtain ⟨y', hy1, hy2⟩ := q8c hT hfi hl2 hh2 hp2
         cases he1 : eqA TE EQ (n + 1) f.type x y with
         | none => simp [he1] at he
         | some r1 =>
          simp only [he1] at he
          cases he2 : z2u TE EQ (n + 1) cs ds fs with
          | none => simp [he2] at he
          | some r2 =>
           simp only [he2, Option.some.injEq] at he
           subst he
           have hk := key f.type x y x' y' r1 hx2 hy2 he1
           have ih' := ih a cs ds xs ys r2 ha (fun g hg => hn g (by simp [hg])) (.agg cs xs hl1 hh1) (.agg ds ys hl2 hh2) he2
           rw [Op.eqFields]
           simp only [if_pos (hn f (by simp)), Sem.run_bind, hx1, hy1, hk, Result.andThen_ok]
           cases r1
           ·simp
           ·simpa using ih'

def z1p (M : Mem) (x : AVal) : Option Bool :=
 match x with
 | .nil => some true
 | .sl _ (_ :: _) => some false
 | .os k e => match M k with | some (.arr e' _ (_ :: _)) => if e = e' then some false else none | _ => none
 | _ => none
def nilP (x : AVal) : Option Bool :=
 match x with
 | .nilptr => some true
 | .ptr _ _ => some false
 | .sptr _ => some false
 | _ => none
def nilF (x : AVal) : Option Bool :=
 match x with
 | .nilfn => some true
 | .fn _ _ => some false
 | _ => none
def qnn : Option Bool → Option Bool → Option Bool
 | some true, some b => some b
 | some false, some true => some false
 | _, _ => none
def qo4 (TE : TyE) (EQ : TypeId → Bool) (M : Mem) (t : TypeId) (x y : AVal) : Option Bool :=
 match x, y with
 | .bool _, .bool _ => eqA TE EQ 20 t x y
 | .agg _, .agg _ => eqA TE EQ 20 t x y
 | x, y =>
  match TE t with
  | none => none
  | some i =>
   match i.td with
   | .slice _ => qnn (z1p M x) (z1p M y)
   | .ptr _ => qnn (nilP x) (nilP y)
   | .func => qnn (nilF x) (nilF y)
   | _ => none
def z2v (TE : TyE) (EQ : TypeId → Bool) (M : Mem) (op : BinOp) (t : TypeId) (x y : AVal) : Option AVal :=
 match x, y with
 | .int k a, .int k' b =>
  match op with
  | .shl | .shr => q84 op k a b
  | op => if k = k' then q8y op k a b else none
 | .str a, .str b => strA op a b
 | x, y =>
  match op with
  | .eql => (qo4 TE EQ M t x y).map .bool
  | .neq => (qo4 TE EQ M t x y).map fun b => .bool (!b)
  | _ => none
theorem arith_ok {P : Program} {op : BinOp} {k : IntKind} {a b : Int} {v : AVal} {w : World} (hop : op ≠ .shl ∧ op ≠ .shr) (h : q8y op k a b = some v) {t : TypeId} :
 ∃ v', (binOp op t (.int k a) (.int k b)).run P w = .ok v' w ∧ ∀ D G B, VR D G B w v v' := by
 cases op <;> simp only [q8y, Option.some.injEq, reduceCtorEq, z2k, Option.map_some] at h
 case quo =>
  split at h
  ·cases h
  ·rename_i hb
   simp only [Option.some.injEq] at h
   subst h
   exact ⟨_, by simp [binOp, Op.intDiv, hb], fun _ _ _ => .int _ _⟩
 case rem =>
  split at h
  ·cases h
  ·rename_i hb
   simp only [Option.some.injEq] at h
   subst h
   exact ⟨_, by simp [binOp, Op.intDiv, hb], fun _ _ _ => .int _ _⟩
 case eql => subst h; exact ⟨.bool (decide (a = b)), by simp [binOp, Op.intCmp]; rfl, fun _ _ _ => .bool _⟩
 case neq => subst h; exact ⟨.bool (!decide (a = b)), by simp [binOp, Op.intCmp]; rfl, fun _ _ _ => .bool _⟩
 case add => subst h; exact ⟨_, by simp [binOp, Op.intArith], fun _ _ _ => .int _ _⟩
 case sub => subst h; exact ⟨_, by simp [binOp, Op.intArith], fun _ _ _ => .int _ _⟩
 case mul => subst h; exact ⟨_, by simp [binOp, Op.intArith], fun _ _ _ => .int _ _⟩
 case lss => subst h; exact ⟨_, by simp [binOp, Op.intCmp], fun _ _ _ => .bool _⟩
 case leq => subst h; exact ⟨_, by simp [binOp, Op.intCmp], fun _ _ _ => .bool _⟩
 case gtr => subst h; exact ⟨_, by simp [binOp, Op.intCmp], fun _ _ _ => .bool _⟩
 case geq => subst h; exact ⟨_, by simp [binOp, Op.intCmp], fun _ _ _ => .bool _⟩
 all_goals
  subst h
  refine ⟨_, ?_, fun _ _ _ => .int _ _⟩
  simp only [binOp, ne_eq, not_true_eq_false, if_false, Op.intBits, Sem.run_pure]
theorem qpn {P : Program} {op : BinOp} {k k' : IntKind} {a b : Int} {v : AVal} {w : World} (hop : op = .shl ∨ op = .shr) (h : q84 op k a b = some v) {t : TypeId} :
 ∃ v', (binOp op t (.int k a) (.int k' b)).run P w = .ok v' w ∧ ∀ D G B, VR D G B w v v' := by
 unfold q84 at h
 split at h
 ·cases h
 ·rename_i hb
  rcases hop with rfl | rfl <;> simp only [Option.some.injEq] at h <;> subst h
  ·exact ⟨_, by simp [binOp, Op.shift, hb], fun _ _ _ => .int _ _⟩
  ·exact ⟨_, by simp [binOp, Op.shift, hb], fun _ _ _ => .int _ _⟩
theorem str_ok {P : Program} {op : BinOp} {a b : ByteArray} {v : AVal} {w : World} (h : strA op a b = some v) {t : TypeId} :
 ∃ v', (binOp op t (.string a) (.string b)).run P w = .ok v' w ∧ ∀ D G B, VR D G B w v v' := by
 have hb : (a.toList == b.toList) = decide (a = b) := by rw [← beq_toListBytes, zej]
 cases op <;> simp only [strA, Option.some.injEq, reduceCtorEq] at h
 case add =>
  split at h
  ·rename_i hl
   simp only [Option.some.injEq] at h
   subst h
   have hm : ¬ (((a.size + b.size : Nat) : Int) > IntKind.i64.max) := by
    have : IntKind.i64.max = 9223372036854775807 := by decide
    rw [this]; omega
   refine ⟨.string (a ++ b), ?_, fun _ _ _ => .str _⟩
   simp only [binOp, Op.stringOp]
   rw [Sem.run_ite, if_neg hm]
   rfl
  ·cases h
 all_goals
  subst h
  refine ⟨_, ?_, fun _ _ _ => .bool _⟩
  simp only [binOp, Op.stringOp, hb, Sem.run_pure]
theorem qfa {n : Nat} {B : Nat → Prop} {G : Gh} {s : AS} {a : Act} {w : World} (h : Rel n B G s a w) {x : AVal} {x' : Value} (hx : VR (Dm s.M) G B w x x') {r : Bool} (hn : z1p s.M x = some r) :
 ∃ o l c, x' = .slice o l c ∧ o.isNone = r := by
 cases hx <;> simp only [z1p, Option.some.injEq, reduceCtorEq] at hn
 case nil => subst hn; exact ⟨_, _, _, rfl, rfl⟩
 case sl sz xs b off cap f hcap hB hone hsz hc hv =>
  cases xs with
  | nil => simp at hn
  | cons y ys => simp at hn; subst hn; exact ⟨_, _, _, rfl, rfl⟩
 case os k e hD hv =>
  split at hn
  ·rename_i e' sz y ys hm
   split at hn
   ·rename_i he
    subst he
    simp only [Option.some.injEq] at hn
    subst hn
    have hown := h.mem k _ hm
    simp only [BlkRel] at hown
    rcases hown with ⟨_, hn⟩ | ⟨b, o, cap, c, el, q1, _⟩
    ·cases hn
    ·rw [hv, q1]; exact ⟨_, _, _, rfl, rfl⟩
   ·cases hn
  ·cases hn
theorem qfb {D : Nat → Nat → Prop} {G : Gh} {B : Nat → Prop} {w : World} {x : AVal} {x' : Value} (hx : VR D G B w x x') {r : Bool} (hn : nilP x = some r) : ∃ o, x' = .pointer o ∧ o.isNone = r := by
 cases hx <;> simp only [nilP, Option.some.injEq, reduceCtorEq] at hn <;> subst hn <;> exact ⟨_, rfl, rfl⟩
theorem qfc {D : Nat → Nat → Prop} {G : Gh} {B : Nat → Prop} {w : World} {x : AVal} {x' : Value} (hx : VR D G B w x x') {r : Bool} (hn : nilF x = some r) : (x' = .nilFunc ∧ r = true) ∨ ∃ f q c, x' = .func f q c ∧ r = false := by
 cases hx <;> simp only [nilF, Option.some.injEq, reduceCtorEq] at hn <;> subst hn
 ·exact .inr ⟨_, _, _, rfl, rfl⟩
 ·exact .inl ⟨rfl, rfl⟩
theorem qc0 {p q : Option Bool} {r : Bool} (h : qnn p q = some r) : (p = some true ∧ q = some r) ∨ (p = some false ∧ q = some true ∧ r = false) := by
 cases p with
 | none => simp [qnn] at h
 | some a =>
  cases q with
  | none => cases a <;> simp [qnn] at h
  | some b =>
   cases a
   ·cases b
    ·simp [qnn] at h
    ·simp [qnn] at h; subst h; exact .inr ⟨rfl, rfl, rfl⟩
   ·simp [qnn] at h; subst h; exact .inl ⟨rfl, rfl⟩
theorem eqS {P : Program} {t e : TypeId} (hu : P.underlying t = some (.slice e)) (w : World) (d : Nat) (o1 o2 : Option Addr) (l1 c1 l2 c2 : Nat) (r : Bool) (h : (o1 = none ∧ o2.isNone = r) ∨ (o1.isNone = false ∧ o2 = none ∧ r = false)) :
 (Op.equalIn (d + 1) t (.slice o1 l1 c1) (.slice o2 l2 c2)).run P w = .ok r w := by
 rcases h with ⟨rfl, h⟩ | ⟨h1, rfl, rfl⟩
 ·simp [Op.equalIn, run_underlying hu, h]
 ·cases o1 with
  | none => cases h1
  | some _ => simp [Op.equalIn, run_underlying hu]
theorem eqP {P : Program} {t e : TypeId} (hu : P.underlying t = some (.pointer e)) (w : World) (d : Nat) (o1 o2 : Option Addr) (r : Bool) (h : (o1 = none ∧ o2.isNone = r) ∨ (o1.isNone = false ∧ o2 = none ∧ r = false)) :
 (Op.equalIn (d + 1) t (.pointer o1) (.pointer o2)).run P w = .ok r w := by
 rcases h with ⟨rfl, h⟩ | ⟨h1, rfl, rfl⟩
 ·simp [Op.equalIn, run_underlying hu, h]
 ·cases o1 with
  | none => cases h1
  | some _ => simp [Op.equalIn, run_underlying hu]
theorem eqF1 {P : Program} {t : TypeId} {ps rs : Array TypeId} {v : Bool} (hu : P.underlying t = some (.func ps rs v)) (w : World) (d : Nat) : (Op.equalIn (d + 1) t .nilFunc .nilFunc).run P w = .ok true w := by
 simp [Op.equalIn, run_underlying hu]
theorem eqF2 {P : Program} {t : TypeId} {ps rs : Array TypeId} {v : Bool} (hu : P.underlying t = some (.func ps rs v)) (w : World) (d : Nat) (f : Fn) (q c : Array Value) : (Op.equalIn (d + 1) t .nilFunc (.func f q c)).run P w = .ok false w := by
 simp [Op.equalIn, run_underlying hu]
theorem eqF3 {P : Program} {t : TypeId} {ps rs : Array TypeId} {v : Bool} (hu : P.underlying t = some (.func ps rs v)) (w : World) (d : Nat) (f : Fn) (q c : Array Value) : (Op.equalIn (d + 1) t (.func f q c) .nilFunc).run P w = .ok false w := by
 simp [Op.equalIn, run_underlying hu]
theorem q3t {P : Program} {t : TypeId} {ox oy : Operand} {x' y' : Value} {r : Bool} {w : World} (hg : ∀ op, (eqGuard op t ox oy x' y').run P w = .ok () w) (h1 : binOp .eql t x' y' = (do pure (.bool (← Op.equal t x' y')))) (h2 : binOp .neq t x' y' = (do pure (.bool (!(← Op.equal t x' y')))))
 (h : (Op.equalIn (9999 + 1) t x' y').run P w = .ok r w) :
 (do eqGuard .eql t ox oy x' y'; binOp .eql t x' y' : Sem Value).run P w = .ok (.bool r) w ∧ (do eqGuard .neq t ox oy x' y'; binOp .neq t x' y' : Sem Value).run P w = .ok (.bool (!r)) w := by
 have h' : (Op.equal t x' y').run P w = .ok r w := h
 refine ⟨?_, ?_⟩
 ·simp only [Sem.run_bind, hg, Result.andThen, h1, h', Sem.run_pure]
 ·simp only [Sem.run_bind, hg, Result.andThen, h2, h', Sem.run_pure]
theorem eqv_ok {P : Program} {TE : TyE} (hT : q2r P TE) {EQ : TypeId → Bool} (hE : ∀ t, EQ t = true → EqOk P t) {n : Nat} {B : Nat → Prop} {G : Gh} {s : AS} {a : Act} {w : World} (h : Rel n B G s a w) {t : TypeId} {ox oy : Operand} {x y : AVal} {x' y' : Value}
 (hx : VR (Dm s.M) G B w x x') (hy : VR (Dm s.M) G B w y y') {r : Bool} (he : qo4 TE EQ s.M t x y = some r) :
 (do eqGuard .eql t ox oy x' y'; binOp .eql t x' y' : Sem Value).run P w = .ok (.bool r) w ∧ (do eqGuard .neq t ox oy x' y'; binOp .neq t x' y' : Sem Value).run P w = .ok (.bool (!r)) w := by
 unfold qo4 at he
 split at he
 ·have := (z0l hT hE 20 (9999 + 1) (by decide)).1 t _ _ _ _ r hx hy he
  cases hx; cases hy
  exact q3t (fun op => by cases op <;> rfl) rfl rfl this
 ·rename_i cs ds
  have := (z0l hT hE 20 (9999 + 1) (by decide)).1 t _ _ _ _ r hx hy he
  have hq : EQ t = true := by
   simp only [eqA] at he
   cases hi : TE t with
   | none => simp [hi] at he
   | some i =>
    simp only [hi] at he
    cases htd : i.td <;> simp only [htd, reduceCtorEq] at he
    split at he
    ·assumption
    ·cases he
  cases hx; cases hy
  exact q3t (fun op => run_eqGuard_agg (P := P) w op t ox oy _ _ (hE t hq).guard) rfl rfl this
 ·cases hi : TE t with
  | none => simp [hi] at he
  | some i =>
   simp only [hi] at he
   obtain ⟨d, inf, q1, q2, q3, q4, q5, q6, q7⟩ := hT t i hi
   split at he
   ·rename_i ee htd
    rw [htd] at q2
    cases d <;> simp [TD.of] at q2
    rcases qc0 he with ⟨h1, h2⟩ | ⟨h1, h2, rfl⟩
    ·obtain ⟨o1, l1, c1, rfl, e1⟩ := qfa h hx h1
     obtain ⟨o2, l2, c2, rfl, e2⟩ := qfa h hy h2
     exact q3t (fun op => by cases op <;> rfl) rfl rfl (eqS q1 w _ _ _ _ _ _ _ _ (.inl ⟨by simpa using e1, e2⟩))
    ·obtain ⟨o1, l1, c1, rfl, e1⟩ := qfa h hx h1
     obtain ⟨o2, l2, c2, rfl, e2⟩ := qfa h hy h2
     exact q3t (fun op => by cases op <;> rfl) rfl rfl (eqS q1 w _ _ _ _ _ _ _ _ (.inr ⟨e1, by simpa using e2, rfl⟩))
   ·rename_i ee htd
    rw [htd] at q2
    cases d <;> simp [TD.of] at q2
    rcases qc0 he with ⟨h1, h2⟩ | ⟨h1, h2, rfl⟩
    ·obtain ⟨o1, rfl, e1⟩ := qfb hx h1
     obtain ⟨o2, rfl, e2⟩ := qfb hy h2
     exact q3t (fun op => by cases op <;> rfl) rfl rfl (eqP q1 w _ _ _ _ (.inl ⟨by simpa using e1, e2⟩))
    ·obtain ⟨o1, rfl, e1⟩ := qfb hx h1
     obtain ⟨o2, rfl, e2⟩ := qfb hy h2
     exact q3t (fun op => by cases op <;> rfl) rfl rfl (eqP q1 w _ _ _ _ (.inr ⟨e1, by simpa using e2, rfl⟩))
   ·rename_i htd
    rw [htd] at q2
    cases d <;> simp [TD.of] at q2
    rcases qc0 he with ⟨h1, h2⟩ | ⟨h1, h2, rfl⟩
    ·rcases qfc hx h1 with ⟨rfl, _⟩ | ⟨_, _, _, _, e⟩
     ·rcases qfc hy h2 with ⟨rfl, rfl⟩ | ⟨f, q, c, rfl, rfl⟩
      ·exact q3t (fun op => by cases op <;> rfl) rfl rfl (eqF1 q1 w _)
      ·exact q3t (fun op => by cases op <;> rfl) rfl rfl (eqF2 q1 w _ _ _ _)
     ·cases e
    ·rcases qfc hx h1 with ⟨_, e⟩ | ⟨f, q, c, rfl, _⟩
     ·cases e
     ·rcases qfc hy h2 with ⟨rfl, _⟩ | ⟨_, _, _, _, e⟩
      ·exact q3t (fun op => by cases op <;> rfl) rfl rfl (eqF3 q1 w _ _ _ _)
      ·cases e
   ·cases he
theorem binA_ok {P : Program} {TE : TyE} (hT : q2r P TE) {EQ : TypeId → Bool} (hE : ∀ t, EQ t = true → EqOk P t) {n : Nat} {B : Nat → Prop} {G : Gh} {s : AS} {a : Act} {w : World} (h : Rel n B G s a w) {op : BinOp} {t : TypeId} {ox oy : Operand} {x y : AVal} {x' y' : Value}
 (hx : VR (Dm s.M) G B w x x') (hy : VR (Dm s.M) G B w y y') {v : AVal} (he : z2v TE EQ s.M op t x y = some v) :
 ∃ v', (do eqGuard op t ox oy x' y'; binOp op t x' y' : Sem Value).run P w = .ok v' w ∧ VR (Dm s.M) G B w v v' := by
 unfold z2v at he
 split at he
 ·cases hx; cases hy
  rename_i k a k' b
  have hg : ∀ op, (eqGuard op t ox oy (.int k a) (.int k' b)).run P w = .ok () w := fun op => by cases op <;> rfl
  simp only [Sem.run_bind, hg, Result.andThen]
  split at he
  ·obtain ⟨v', h1, h2⟩ := qpn (P := P) (w := w) (t := t) (.inl rfl) he; exact ⟨v', h1, h2 _ _ _⟩
  ·obtain ⟨v', h1, h2⟩ := qpn (P := P) (w := w) (t := t) (.inr rfl) he; exact ⟨v', h1, h2 _ _ _⟩
  ·rename_i h1 h2
   split at he
   ·rename_i hk
    subst hk
    obtain ⟨v', h3, h4⟩ := arith_ok (P := P) (w := w) (t := t) ⟨h1, h2⟩ he
    exact ⟨v', h3, h4 _ _ _⟩
   ·cases he
 ·cases hx; cases hy
  rename_i a b
  have hg : ∀ op, (eqGuard op t ox oy (.string a) (.string b)).run P w = .ok () w := fun op => by cases op <;> rfl
  simp only [Sem.run_bind, hg, Result.andThen]
  obtain ⟨v', h1, h2⟩ := str_ok (P := P) (w := w) (t := t) he
  exact ⟨v', h1, h2 _ _ _⟩
 ·split at he
  ·cases hr : qo4 TE EQ s.M t x y with
   | none => simp [hr] at he
   | some r =>
    simp only [hr, Option.map_some, Option.some.injEq] at he
    subst he
    exact ⟨_, (eqv_ok hT hE h hx hy hr).1, .bool _⟩
  ·cases hr : qo4 TE EQ s.M t x y with
   | none => simp [hr] at he
   | some r =>
    simp only [hr, Option.map_some, Option.some.injEq] at he
    subst he
    exact ⟨_, (eqv_ok hT hE h hx hy hr).2, .bool _⟩
  ·cases he

def unA (op : UnOp) (x : AVal) : Option AVal :=
 match op, x with
 | .neg, .int k n => some (.int k (k.wrap (0 - n)))
 | .not, .bool b => some (.bool (!b))
 | _, _ => none
theorem unA_ok {P : Program} {D : Nat → Nat → Prop} {G : Gh} {B : Nat → Prop} {w : World} {op : UnOp} {x : AVal} {x' : Value} (hx : VR D G B w x x') {v : AVal} (h : unA op x = some v) : ∃ v', (Op.unary op x').run P w = .ok v' w ∧ VR D G B w v v' := by
 unfold unA at h
 split at h
 ·cases hx
  simp only [Option.some.injEq] at h
  subst h
  exact ⟨_, by simp [Op.unary, Op.intArith], .int _ _⟩
 ·cases hx
  simp only [Option.some.injEq] at h
  subst h
  exact ⟨_, by simp [Op.unary], .bool _⟩
 ·cases h
def q5y : List AVal → Option (List Int)
 | [] => some []
 | .int .u8 n :: r => (q5y r).map (n :: ·)
 | _ :: _ => none
def strOf (ns : List Int) : ByteArray := ns.foldl (fun r n => r.push (UInt8.ofNat n.toNat)) ByteArray.empty
def qg1 (TE : TyE) (M : Mem) (src dst : TypeId) (x : AVal) : Option AVal :=
 match TE src, TE dst with
 | some si, some di =>
  match di.td, x with
  | .int k, .int _ n => some (.int k (k.wrap n))
  | .str, .str s => some (.str s)
  | .str, x =>
   match si.td with
   | .slice e =>
    (match TE e with
     | some ei =>
      if ei.td = .int .u8 then
       (match x with
        | .str _ => none
        | x => match qme M 1 x with | some ys => (q5y ys).map fun ns => .str (strOf ns) | none => none)
      else none
     | none => none)
   | _ => none
  | _, _ => none
 | _, _ => none
theorem qbx : ∀ {ys : List AVal} {ns : List Int}, q5y ys = some ns → ys = ns.map (AVal.int .u8) ∧ flat ys = ys
 | [], ns, h => by simp only [q5y, Option.some.injEq] at h; subst h; exact ⟨rfl, rfl⟩
 | y :: r, ns, h => by
  unfold q5y at h
  split at h
  ·simp only [Option.some.injEq] at h; subst h; rename_i he; cases he
  ·rename_i n r' he
   simp only [List.cons.injEq] at he
   obtain ⟨rfl, rfl⟩ := he
   cases hr : q5y r with
   | none => simp [hr] at h
   | some ms =>
    simp only [hr, Option.map_some, Option.some.injEq] at h
    subst h
    obtain ⟨h1, h2⟩ := qbx hr
    refine ⟨by rw [h1]; rfl, ?_⟩
    rw [q2l, h2]
    rfl
  ·cases h
theorem convA_ok {P : Program} {TE : TyE} (hT : q2r P TE) {n : Nat} {B : Nat → Prop} {G : Gh} {s : AS} {a : Act} {w : World} (h : Rel n B G s a w) {src dst : TypeId} {x : AVal} {x' : Value} (hx : VR (Dm s.M) G B w x x') {v : AVal}
 (hc : qg1 TE s.M src dst x = some v) : ∃ v', (convert src dst x').run P w = .ok v' w ∧ VR (Dm s.M) G B w v v' := by
 unfold qg1 at hc
 split at hc
 case h_2 => cases hc
 rename_i si di hsi hdi
 obtain ⟨sd, sinf, s1, s2, _⟩ := hT src si hsi
 obtain ⟨dd, dinf, d1, d2, _⟩ := hT dst di hdi
 split at hc
 ·rename_i k k' m htd
  cases hx
  simp only [Option.some.injEq] at hc
  subst hc
  rw [htd] at d2
  cases dd <;> simp [TD.of] at d2
  subst d2
  exact ⟨_, by cases sd <;> simp [convert, run_underlying s1, run_underlying d1, Conv.intToInt], .int _ _⟩
 ·rename_i str htd
  cases hx
  simp only [Option.some.injEq] at hc
  subst hc
  rw [htd] at d2
  cases dd <;> simp [TD.of] at d2
  exact ⟨_, by cases sd <;> simp [convert, run_underlying s1, run_underlying d1], .str _⟩
 ·rename_i htd hns
  split at hc
  case h_2 => cases hc
  rename_i e hse
  split at hc
  case h_2 => cases hc
  rename_i ei hei
  split at hc
  case isFalse => cases hc
  rename_i hu8
  split at hc
  ·cases hc
  rename_i hnstr
  split at hc
  case h_2 => cases hc
  rename_i ys hys
  cases hn : q5y ys with
  | none => simp [hn] at hc
  | some ns =>
   simp only [hn, Option.map_some, Option.some.injEq] at hc
   subst hc
   obtain ⟨hy1, hy2⟩ := qbx hn
   obtain ⟨us, u1, u2, u3, u4, u5, u6⟩ := z3e (P := P) h hx hys
   rw [htd] at d2
   cases dd <;> simp [TD.of] at d2
   have hu := q1z hT hsi hse
   have he8 := z31 hT hei hu8
   have hus : us = (ns.map (Value.int .u8)).toArray := by
    apply Array.ext'
    apply List.ext_getElem?
    intro i
    rw [hy2] at u1 u2
    by_cases hi : i < ys.length
    ·obtain ⟨u, hu1, hr⟩ := u2 i _ (List.getElem?_eq_getElem hi)
     have hyi : ys[i] = AVal.int .u8 (ns[i]'(by rw [hy1] at hi; simpa using hi)) := by simp [hy1]
     rw [hyi] at hr
     cases hr
     have hni : i < ns.length := by rw [hy1] at hi; simpa using hi
     simp [hu1, hni]
    ·have h1 : us.toList[i]? = none := List.getElem?_eq_none (by simp [u1]; omega)
     have h2 : ns.length ≤ i := by
      have : ys.length = ns.length := by rw [hy1]; simp
      omega
     rw [h1]
     symm
     simp [h2]
   have hcore : ∃ o l c, x' = .slice o l c ∧ (o = none → ns = []) ∧ ∀ b, o = some b → (loadCells b l).run P w = .ok us w := by
    have hu6 := u6 w rfl
    have hu5 := u5 w
    cases hx <;> simp only [qme, reduceCtorEq, Option.some.injEq] at hys
    case nil => subst hys; simp only [q5y, Option.some.injEq] at hn; subst hn; exact ⟨_, _, _, rfl, fun _ => rfl, fun b hb => (by cases hb)⟩
    case slnil sz =>
     split at hys
     ·simp only [Option.some.injEq] at hys; subst hys; simp only [q5y, Option.some.injEq] at hn; subst hn; exact ⟨_, _, _, rfl, fun _ => rfl, fun b hb => (by cases hb)⟩
     ·cases hys
    case slemp sz a cap =>
     split at hys
     ·simp only [Option.some.injEq] at hys
      subst hys
      refine ⟨_, _, _, rfl, fun hb => (by cases hb), fun b' hb => ?_⟩
      simp only [Option.some.injEq] at hb
      subst hb
      simpa [Builtin.firstCells] using hu6
     ·cases hys
    case sl sz xs b off cap f hcap hB hone hsz hcc hv =>
     split at hys
     ·simp only [Option.some.injEq] at hys
      subst hys
      refine ⟨_, _, _, rfl, fun hb => (by cases hb), fun b' hb => ?_⟩
      simp only [Option.some.injEq] at hb
      subst hb
      simpa [Builtin.firstCells] using hu6
     ·cases hys
    case os k e hD hv =>
     split at hys
     ·rename_i e' sz ys' hm
      split at hys
      ·rename_i hcd
       obtain ⟨rfl, rfl⟩ := hcd
       simp only [Option.some.injEq] at hys
       subst hys
       have hown := h.mem k _ hm
       simp only [BlkRel] at hown
       rcases hown with ⟨hn', rfl⟩ | ⟨b, o, cap, c, el, q1, _⟩
       ·rw [hv, hn']
        simp only [q5y, Option.some.injEq] at hn
        exact ⟨_, _, _, rfl, fun _ => hn.symm, fun b hb => (by cases hb)⟩
       ·rw [hv, q1] at hu6 ⊢
        refine ⟨_, _, _, rfl, fun hb => (by cases hb), fun b' hb => ?_⟩
        simp only [Option.some.injEq] at hb
        subst hb
        simpa [Builtin.firstCells] using hu6
      ·cases hys
     ·cases hys
    case str s => exact absurd rfl (hnstr s)
   obtain ⟨o, l, c, rfl, ho, hl⟩ := hcore
   refine ⟨.string (strOf ns), ?_, .str _⟩
   rw [run_convert_bytes_string w src dst e o l c hu he8 d1]
   cases o with
   | none =>
    have := ho rfl
    subst this
    rfl
   | some b =>
    have := hl b rfl
    rw [hus] at this
    exact run_bytesToString w b l c ns this
 ·cases hc
def lenA (TE : TyE) (M : Mem) (t : TypeId) (x : AVal) : Option AVal :=
 match TE t with
 | none => none
 | some i =>
  match i.td, x with
  | .str, .str s => some (.int .i64 s.size)
  | .slice _, .nil => some (.int .i64 0)
  | .slice _, .sl _ xs => some (.int .i64 xs.length)
  | .slice _, .os k e => (match M k with | some (.arr e' _ xs) => if e = e' then some (.int .i64 xs.length) else none | _ => none)
  | .slice _, .vw _ _ _ _ n => some (.int .i64 n)
  | .arr n _, _ => some (.int .i64 n)
  | _, _ => none
def zee (TE : TyE) (M : Mem) (t : TypeId) (x : AVal) : AR :=
 match TE t, x with
 | some ⟨.slice e, _, _, _⟩, .vw k e' sz i n =>
  match TE e, M k with
  | some ei, some (.arr e0 sz' xs) =>
   if ei.okElem = true ∧ e' = e0 ∧ sz = sz' ∧ sz = ei.size ∧ i + n ≤ xs.length ∧ 0 < n then some (.tup [], [(k, .arr e0 sz' (xs.take i ++ List.replicate n ei.zeroElem ++ xs.drop (i + n)))]) else none
  | _, _ => none
 | _, _ => none
theorem zed {P : Program} {TE : TyE} (hT : q2r P TE) {n : Nat} {B : Nat → Prop} {G : Gh} {s : AS} {a : Act} {w : World} (h : Rel n B G s a w) {t ty : TypeId} {x : AVal} {x' : Value} (hx : VR (Dm s.M) G B w x x') {v : AVal} {ups : List (Nat × ABlk)}
 (hb : zee TE s.M t x = some (v, ups)) : Res P n B G s a w (Builtin.clear_ #[t] ty #[x']) v ups := by
 unfold zee at hb
 split at hb
 case h_2 => cases hb
 rename_i e s1 b1 z1 k e' sz i m ht
 split at hb
 case h_2 => cases hb
 rename_i ei e0 sz' xs he hm
 split at hb
 case isFalse => cases hb
 rename_i hc
 obtain ⟨hok, rfl, rfl, c1, c2, c3⟩ := hc
 simp only [Option.some.injEq, Prod.mk.injEq] at hb
 obtain ⟨rfl, rfl⟩ := hb
 obtain ⟨o1, o2, o3, o4⟩ := q5h hT he hok
 obtain ⟨dd, inf, q1, q2, q3, q4, q5, q6, q7⟩ := hT e ei he
 have hu := q1z hT ht rfl
 cases hx with
 | vw _ _ _ _ _ b o len cap hD hh hn =>
  have hown := h.mem k _ hm
  simp only [BlkRel] at hown
  rcases hown with ⟨hn', rfl⟩ | ⟨b', o', cap', c, el, h1, h2, h3, h4, h5, h6, h7, h7', h8⟩
  ·rw [hh] at hn'; cases hn'
  ·rw [hh] at h1
   simp only [Value.slice.injEq, Option.some.injEq, Addr.mk.injEq] at h1
   obtain ⟨⟨rfl, rfl, _⟩, rfl, rfl⟩ := h1
   have hzl : ei.zeroElem.cells.length = sz := by rw [o2, o3, c1]
   have hzs : ∀ x ∈ List.replicate m ei.zeroElem, x.cells.length = sz := fun x hx => by rw [List.eq_of_mem_replicate hx]; exact hzl
   have hz1 : ∀ x ∈ flat (List.replicate m ei.zeroElem), x.one = true := fun x hx => by
    obtain ⟨y, hy, hx⟩ := List.mem_flatMap.1 hx
    rw [List.eq_of_mem_replicate hy, o2] at hx
    exact o4 x hx
   have hfz : (flat (List.replicate m ei.zeroElem)).length = m * sz := by rw [q0q hzs]; simp
   have hus : (Builtin.zeroCells ei.zero.cells m).size = m * sz := by rw [size_zeroCells, q7, c1]
   have hzr : ∀ (j : Nat) (x : AVal), (flat (List.replicate m ei.zeroElem))[j]? = some x → ∃ u, (Builtin.zeroCells ei.zero.cells m)[j]? = some u ∧ VR (Dm s.M) G B w x u := by
    have := qac hT he (D := Dm s.M) (G := G) (B := B) (w := w) o2 o1 m m (Nat.le_refl _)
    unfold Builtin.zeroCells
    rw [show m * ei.zero.cells.size = m * ei.size by rw [q7]]
    exact this
   have hfl : (flat xs).length = xs.length * sz := q0q h7
   have hxc : xs.length * sz ≤ cap * sz := Nat.mul_le_mul_right _ h2
   have him : i * sz + m * sz ≤ xs.length * sz := by rw [← Nat.add_mul]; exact Nat.mul_le_mul_right _ c2
   have hflat : flat (xs.take i ++ List.replicate m ei.zeroElem ++ xs.drop (i + m)) = q0m (flat xs) (i * sz) (flat (List.replicate m ei.zeroElem)) := by
    rw [q3e, q3e, ql8 h7, q8m h7, q0m, hfz, Nat.add_mul]
   have hones : ∀ u ∈ (Builtin.zeroCells ei.zero.cells m).toList, u.oneCell' = true := by
    intro u hu
    obtain ⟨j, hj, hu'⟩ := List.getElem_of_mem hu
    have hj' : j < (flat (List.replicate m ei.zeroElem)).length := by rw [hfz, ← hus]; simpa using hj
    obtain ⟨u2, hu2, hr⟩ := hzr j _ (List.getElem?_eq_getElem hj')
    have : u2 = u := by
     have e1 : (Builtin.zeroCells ei.zero.cells m)[j]? = some u := by rw [← hu']; simp [Array.getElem?_eq_getElem (by simpa using hj : j < (Builtin.zeroCells ei.zero.cells m).size)]
     rw [e1] at hu2
     exact (Option.some.inj hu2).symm
    subst this
    exact hr.oneCell (hz1 _ (List.getElem_mem hj'))
   have hst := run_storeCells_at P b (o + i * sz) el (Builtin.zeroCells ei.zero.cells m).toList 0 c w h5 (by simp only [Nat.add_zero, Array.length_toList, hus]; omega) hones
   simp only [Nat.add_zero] at hst
   have hlen : (xs.take i ++ List.replicate m ei.zeroElem ++ xs.drop (i + m)).length = xs.length := by simp; omega
   obtain ⟨G', hA, hR, hh'⟩ := h.set_arr hm hh e' o (.inr ⟨rfl, rfl⟩) (xs.take i ++ List.replicate m ei.zeroElem ++ xs.drop (i + m)) (fun _ => hlen) cap (by rw [hlen]; exact h2) (fun _ => rfl) h5 h3
    (q0m c.toList (o + i * sz) (Builtin.zeroCells ei.zero.cells m).toList).toArray (by rw [List.size_toArray, q0x (by simp [hus]; omega)]; simpa using h6)
    (fun z hz => by
     simp only [List.mem_append] at hz
     rcases hz with (hz | hz) | hz
     ·exact h7 z (List.mem_of_mem_take hz)
     ·exact hzs z hz
     ·exact h7 z (List.mem_of_mem_drop hz))
    (fun z hz => by
     rw [hflat] at hz
     unfold q0m at hz
     simp only [List.mem_append] at hz
     rcases hz with (hz | hz) | hz
     ·exact h7' z (List.mem_of_mem_take hz)
     ·exact hz1 z hz
     ·exact h7' z (List.mem_of_mem_drop hz))
    (fun j z hz => by
     rw [hflat, q0v (by rw [hfz, hfl]; omega), hfz] at hz
     rw [List.getElem?_toArray, q0v (by simp [hus]; omega), Array.length_toList, hus]
     by_cases c1 : j < i * sz
     ·rw [if_pos c1] at hz
      rw [if_pos (by omega)]
      obtain ⟨u, hu, hr⟩ := h8 j z hz
      exact ⟨u, by simpa using hu, hr⟩
     ·rw [if_neg c1] at hz
      rw [if_neg (by omega)]
      by_cases c2 : j < i * sz + m * sz
      ·rw [if_pos c2] at hz
       rw [if_pos (by omega)]
       obtain ⟨u, hu, hr⟩ := hzr _ z hz
       exact ⟨u, by rw [show o + j - (o + i * sz) = j - i * sz by omega]; simpa using hu, hr⟩
      ·rw [if_neg c2] at hz
       rw [if_neg (by omega)]
       obtain ⟨u, hu, hr⟩ := h8 j z hz
       exact ⟨u, by simpa using hu, hr⟩)
   refine ⟨.tuple #[], _, G', ?_, hA, by simpa [ap] using hR, .tup [] #[] rfl fun n x v hx => by simp at hx⟩
   obtain ⟨m, rfl⟩ : ∃ m', m = m' + 1 := ⟨m - 1, by omega⟩
   simp [Builtin.clear_, run_underlying hu, q0w hT he, hst, q0m]
theorem lenA_ok {P : Program} {TE : TyE} (hT : q2r P TE) {n : Nat} {B : Nat → Prop} {G : Gh} {s : AS} {a : Act} {w : World} (h : Rel n B G s a w) {t ty : TypeId} {x : AVal} {x' : Value} (hx : VR (Dm s.M) G B w x x') {v : AVal}
 (hc : lenA TE s.M t x = some v) : ∃ v', (Builtin.len_ #[t] ty #[x']).run P w = .ok v' w ∧ VR (Dm s.M) G B w v v' := by
 unfold lenA at hc
 split at hc
 ·cases hc
 rename_i i hi
 obtain ⟨d, inf, q1, q2, _⟩ := hT t i hi
 split at hc
 ·rename_i htd
  cases hx
  simp only [Option.some.injEq] at hc
  subst hc
  rw [htd] at q2
  cases d <;> simp [TD.of] at q2
  exact ⟨_, by simp [Builtin.len_, run_underlying q1, goInt], .int _ _⟩
 ·rename_i htd
  cases hx
  simp only [Option.some.injEq] at hc
  subst hc
  rw [htd] at q2
  cases d <;> simp [TD.of] at q2
  exact ⟨_, by simp [Builtin.len_, run_underlying q1, goInt], .int _ _⟩
 ·rename_i htd
  simp only [Option.some.injEq] at hc
  subst hc
  rw [htd] at q2
  cases d <;> simp [TD.of] at q2
  cases hx
  ·exact ⟨_, by simp [Builtin.len_, run_underlying q1, goInt], .int _ _⟩
  ·exact ⟨_, by simp [Builtin.len_, run_underlying q1, goInt], .int _ _⟩
  ·exact ⟨_, by simp [Builtin.len_, run_underlying q1, goInt], .int _ _⟩
 ·rename_i k e htd
  rw [htd] at q2
  cases d <;> simp [TD.of] at q2
  split at hc
  case h_2 => cases hc
  rename_i e' sz xs hm
  split at hc
  case isFalse => cases hc
  rename_i he
  subst he
  simp only [Option.some.injEq] at hc
  subst hc
  cases hx with
  | os _ _ hD _ hv =>
   have hown := h.mem k _ hm
   simp only [BlkRel] at hown
   rcases hown with ⟨hn', rfl⟩ | ⟨b, o, cap, c, el, p1, _⟩
   ·rw [hv, hn']; exact ⟨_, by simp [Builtin.len_, run_underlying q1, goInt], .int _ _⟩
   ·rw [hv, p1]; exact ⟨_, by simp [Builtin.len_, run_underlying q1, goInt], .int _ _⟩
 ·rename_i htd
  simp only [Option.some.injEq] at hc
  subst hc
  rw [htd] at q2
  cases d <;> simp [TD.of] at q2
  cases hx
  exact ⟨_, by simp [Builtin.len_, run_underlying q1, goInt], .int _ _⟩
 ·rename_i m e htd
  simp only [Option.some.injEq] at hc
  subst hc
  rw [htd] at q2
  cases d <;> simp [TD.of] at q2
  obtain ⟨h1, h2⟩ := q2
  rw [h1] at q1
  exact ⟨.int .i64 m, by cases x' <;> simp [Builtin.len_, run_underlying q1, goInt], .int _ _⟩
 ·cases hc

def TD.atomic : TD → Bool
 | .bool | .int _ | .str => true
 | _ => false
def q7c (TE : TyE) (t : TypeId) (x : AVal) : Bool :=
 match TE t with
 | some i =>
  match i.td, x with
  | .struct fs, .agg cs => fs.all fun p => match TE p.1 with | some fi => fi.td.atomic && (q4s fi p.2 cs).isSome | none => false
  | .bool, _ | .int _, _ | .str, _ => true
  | _, _ => false
 | none => false
theorem q70 {P : Program} {TE : TyE} (hT : q2r P TE) {w : World} {t : TypeId} {i : TyI} (hi : TE t = some i) (ha : i.td.atomic = true) (em : Bool) (n : Nat) (v : Value) :
 (Instr.checkKey em (n + 1) t v).run P w = .ok () w := by
 obtain ⟨d, inf, h1, h2, _⟩ := hT t i hi
 rw [← h2] at ha
 cases d <;> simp [TD.of, TD.atomic] at ha <;> simp [Instr.checkKey, run_underlying h1]
theorem qa0 {P : Program} {TE : TyE} (hT : q2r P TE) {D : Nat → Nat → Prop} {G : Gh} {B : Nat → Prop} {w : World} {cs : List AVal} {vs : Array Value} (hx : VR D G B w (.agg cs) (.agg vs)) (em : Bool) (n : Nat) :
 ∀ l : List Field, (∀ f ∈ l, ∃ fi, TE f.type = some fi ∧ fi.td.atomic = true ∧ (q4s fi f.offset cs).isSome = true) →
  (forIn l PUnit.unit fun f (r : PUnit) => (do
   if f.name ≠ "_" then do
    Instr.checkKey em (n + 1) f.type (← part f.type vs f.offset)
    pure (ForInStep.yield PUnit.unit)
   else pure (ForInStep.yield PUnit.unit) : Sem (ForInStep PUnit))).run P w = .ok PUnit.unit w
 | [], _ => by simp
 | f :: l, h => by
  obtain ⟨fi, hfi, hat, hp⟩ := h f (by simp)
  obtain ⟨v, hv⟩ := Option.isSome_iff_exists.1 hp
  have ih := qa0 hT hx em n l fun g hg => h g (by simp [hg])
  cases hx with
  | agg _ _ hl hh =>
   obtain ⟨v', hr, _⟩ := q8c hT hfi hl hh hv
   simp only [List.forIn_cons]
   by_cases hn : f.name ≠ "_"
   ·simp only [if_pos hn, Sem.run_bind, hr, Result.andThen, q70 hT hfi hat, Sem.run_pure]
    exact ih
   ·simp only [if_neg hn, Sem.run_bind, Result.andThen, Sem.run_pure]
    exact ih
theorem q6z {P : Program} {TE : TyE} (hT : q2r P TE) {D : Nat → Nat → Prop} {G : Gh} {B : Nat → Prop} {w : World} {t : TypeId} {x : AVal} {v : Value} (hx : VR D G B w x v) (h : q7c TE t x = true) (em : Bool) :
 (Instr.checkKey em 10000 t v).run P w = .ok () w := by
 unfold q7c at h
 split at h
 ·rename_i i hi
  split at h
  ·rename_i fs cs htd
   obtain ⟨a, ha, hm⟩ := q2s hT hi htd
   cases hx with
   | agg _ vs hl hh =>
    have hf := qa0 (P := P) hT (VR.agg (D := D) (G := G) (B := B) (w := w) cs vs hl hh) em 9998 a.toList (fun f hf => by
     have hin : (f.type, f.offset) ∈ fs := by rw [← hm]; exact List.mem_map_of_mem hf
     have := List.all_eq_true.1 h _ hin
     simp only at this
     split at this
     ·rename_i fi hfi
      simp only [Bool.and_eq_true] at this
      exact ⟨fi, hfi, this.1, this.2⟩
     ·cases this)
    unfold Instr.checkKey
    simp only [Sem.run_bind, run_underlying ha, Result.andThen]
    rw [Array.forIn_toList] at hf
    simp only [Nat.reduceAdd] at hf
    rw [hf]
    rfl
  ·rename_i hq; exact q70 hT hi (by rw [hq]; rfl) _ _ _
  ·rename_i hq; exact q70 hT hi (by rw [hq]; rfl) _ _ _
  ·rename_i hq; exact q70 hT hi (by rw [hq]; rfl) _ _ _
  ·cases h
 ·cases h
def z12 : AVal → AVal → Bool
 | .int j a, .int k b => j == k && a == b
 | .bool a, .bool b => a == b
 | .str a, .str b => a == b
 | _, _ => false
def keyEq : AVal → AVal → Bool
 | .agg cs, .agg ds => cs.length == ds.length && (cs.zip ds).all fun p => z12 p.1 p.2
 | x, y => z12 x y
theorem qcn {D : Nat → Nat → Prop} {G : Gh} {B : Nat → Prop} {w : World} {x y : AVal} {u v : Value} (h : z12 x y = true) (hx : VR D G B w x u) (hy : VR D G B w y v) (n : Nat) : Instr.sameBits n u v = true := by
 unfold z12 at h
 split at h
 ·cases hx; cases hy; simp only [Instr.sameBits]; exact h
 ·cases hx; cases hy; simp only [Instr.sameBits]; exact h
 ·cases hx; cases hy; simp only [Instr.sameBits]; exact h
 ·cases h
theorem z1u {D : Nat → Nat → Prop} {G : Gh} {B : Nat → Prop} {w : World} {x y : AVal} {u v : Value} (h : keyEq x y = true) (hx : VR D G B w x u) (hy : VR D G B w y v) : Instr.sameBits 10000 u v = true := by
 unfold keyEq at h
 split at h
 ·rename_i cs ds
  simp only [Bool.and_eq_true, beq_iff_eq] at h
  obtain ⟨h1, h2⟩ := h
  cases hx with
  | agg _ us hl hh =>
   cases hy with
   | agg _ vs hl2 hh2 =>
    simp only [Instr.sameBits, Bool.and_eq_true, beq_iff_eq]
    refine ⟨by omega, List.all_eq_true.2 fun p hp => ?_⟩
    obtain ⟨i, hi, rfl⟩ := List.getElem_of_mem hp
    simp only [List.length_zip, Array.length_toList] at hi
    have i1 : i < cs.length := by omega
    have i2 : i < ds.length := by omega
    have hz := List.all_eq_true.1 h2 (cs[i], ds[i]) (by
     have : (cs.zip ds)[i]'(by simp; omega) = (cs[i], ds[i]) := by simp
     rw [← this]; exact List.getElem_mem _)
    simp only [List.getElem_zip]
    exact qcn hz (hh i _ _ (List.getElem?_eq_getElem i1) (by simp)) (hh2 i _ _ (List.getElem?_eq_getElem i2) (by simp)) _
 ·exact qcn h hx hy _
def qd3 (TE : TyE) (EQ : TypeId → Bool) (kt : TypeId) (k : AVal) : List (AVal × AVal) → Nat → Option (Option (Nat × AVal))
 | [], _ => some none
 | p :: r, i =>
  match eqA TE EQ 20 kt k p.1 with
  | some true => if keyEq p.1 k = true then some (some (i, p.2)) else none
  | some false => qd3 TE EQ kt k r (i + 1)
  | none => none
def FRel (D : Nat → Nat → Prop) (G : Gh) (B : Nat → Prop) (w : World) (es : List (AVal × AVal)) (k : AVal) (i0 : Nat) : Option (Nat × AVal) → Option (Nat × Value) → Prop
 | none, none => True
 | some (i, v), some (j, u) => i = j ∧ VR D G B w v u ∧ ∃ p, es[i - i0]? = some p ∧ i0 ≤ i ∧ keyEq p.1 k = true
 | _, _ => False
def ERel (D : Nat → Nat → Prop) (G : Gh) (B : Nat → Prop) (w : World) (es : List (AVal × AVal)) (l : List MapEntry) : Prop :=
 l.length = es.length ∧ ∀ (i : Nat) (p : AVal × AVal), es[i]? = some p → ∃ q, l[i]? = some q ∧ VR D G B w p.1 q.key ∧ VR D G B w p.2 q.val
theorem ERel.tail {D : Nat → Nat → Prop} {G : Gh} {B : Nat → Prop} {w : World} {p : AVal × AVal} {es : List (AVal × AVal)} {l : List MapEntry} (h : ERel D G B w (p :: es) l) :
 ∃ q r, l = q :: r ∧ VR D G B w p.1 q.key ∧ VR D G B w p.2 q.val ∧ ERel D G B w es r := by
 obtain ⟨hl, h⟩ := h
 cases l with
 | nil => simp at hl
 | cons q r =>
  obtain ⟨q', hq, h1, h2⟩ := h 0 p rfl
  simp only [List.getElem?_cons_zero, Option.some.injEq] at hq
  subst hq
  exact ⟨_, _, rfl, h1, h2, by simpa using hl, fun i p hp => by simpa using h (i + 1) p (by simpa using hp)⟩
theorem FRel.succ {D : Nat → Nat → Prop} {G : Gh} {B : Nat → Prop} {w : World} {p : AVal × AVal} {es : List (AVal × AVal)} {k : AVal} {i0 : Nat} {r : Option (Nat × AVal)} {o : Option (Nat × Value)} (h : FRel D G B w es k (i0 + 1) r o) :
 FRel D G B w (p :: es) k i0 r o := by
 unfold FRel at h ⊢
 split at h
 ·trivial
 ·obtain ⟨h1, h2, q, h3, h4, h5⟩ := h
  refine ⟨h1, h2, q, ?_, by omega, h5⟩
  rename_i i v j u
  rw [show i - i0 = (i - (i0 + 1)) + 1 by omega, List.getElem?_cons_succ]
  exact h3
 ·exact h.elim
theorem ask_ok {P : Program} {TE : TyE} (hT : q2r P TE) {EQ : TypeId → Bool} (hE : ∀ t, EQ t = true → EqOk P t) {D : Nat → Nat → Prop} {G : Gh} {B : Nat → Prop} {w : World} {kt : TypeId} {k : AVal} {k' : Value} (hk : VR D G B w k k') :
 ∀ (es : List (AVal × AVal)) (l : List MapEntry) (i : Nat) (r : Option (Nat × AVal)), ERel D G B w es l → qd3 TE EQ kt k es i = some r →
  ∃ o, (Instr.findAsking kt k' l i).run P w = .ok o w ∧ FRel D G B w es k i r o
 | [], l, i, r, he, hf => by
  have : l = [] := List.eq_nil_of_length_eq_zero he.1
  subst this
  simp only [qd3, Option.some.injEq] at hf
  subst hf
  exact ⟨none, by simp [Instr.findAsking], trivial⟩
 | p :: es, l, i, r, he, hf => by
  obtain ⟨q, l, rfl, h1, h2, h3⟩ := he.tail
  simp only [qd3] at hf
  split at hf
  ·rename_i heq
   split at hf
   ·rename_i hke
    simp only [Option.some.injEq] at hf
    subst hf
    have := (z0l hT hE 20 (9999 + 1) (by decide)).1 kt _ _ _ _ true hk h1 heq
    refine ⟨some (i, q.val), ?_, rfl, h2, p, by simp, Nat.le_refl _, hke⟩
    have e : (Op.equal kt k' q.key).run P w = .ok true w := this
    simp [Instr.findAsking, e]
   ·cases hf
  ·rename_i heq
   have := (z0l hT hE 20 (9999 + 1) (by decide)).1 kt _ _ _ _ false hk h1 heq
   have e : (Op.equal kt k' q.key).run P w = .ok false w := this
   obtain ⟨o, g1, g2⟩ := ask_ok hT hE hk es l (i + 1) r h3 hf
   exact ⟨o, by simp [Instr.findAsking, e, g1], g2.succ⟩
  ·cases hf
theorem now_ok {P : Program} {TE : TyE} (hT : q2r P TE) {EQ : TypeId → Bool} {D : Nat → Nat → Prop} {G : Gh} {B : Nat → Prop} {w : World} {kt : TypeId} {ki : TyI} (hki : TE kt = some ki) (hat : ki.td.atomic = true) {d : TypeDesc} (hd : TD.of d = ki.td)
 {k : AVal} {k' : Value} (hk : VR D G B w k k') :
 ∀ (es : List (AVal × AVal)) (l : List MapEntry) (i : Nat) (r : Option (Nat × AVal)), ERel D G B w es l → qd3 TE EQ kt k es i = some r →
  ∃ o, Instr.findNow d k' l i = some o ∧ FRel D G B w es k i r o
 | [], l, i, r, he, hf => by
  have : l = [] := List.eq_nil_of_length_eq_zero he.1
  subst this
  simp only [qd3, Option.some.injEq] at hf
  subst hf
  exact ⟨none, by simp [Instr.findNow], trivial⟩
 | p :: es, l, i, r, he, hf => by
  obtain ⟨q, l, rfl, h1, h2, h3⟩ := he.tail
  have same : ∀ b, eqA TE EQ 20 kt k p.1 = some b → Instr.sameNow d k' q.key = some b := by
   intro b hb
   simp only [eqA, hki] at hb
   split at hb
   ·rename_i b1 b2 htd e2
    rw [e2] at h1
    cases hk
    generalize q.key = qk at h1 ⊢
    cases h1
    rw [htd] at hd
    cases d <;> simp [TD.of] at hd
    simpa [Instr.sameNow] using hb
   ·rename_i k0 k1 a k2 b2 htd e2
    rw [e2] at h1
    cases hk
    generalize q.key = qk at h1 ⊢
    cases h1
    rw [htd] at hd
    split at hb
    ·rename_i hkk
     subst hkk
     cases d <;> simp [TD.of] at hd
     simp only [Option.some.injEq] at hb
     subst hb
     simp [Instr.sameNow]
     rfl
    ·cases hb
   ·rename_i a b2 htd e2
    rw [e2] at h1
    cases hk
    generalize q.key = qk at h1 ⊢
    cases h1
    rw [htd] at hd
    cases d <;> simp [TD.of] at hd
    simp only [Option.some.injEq] at hb
    subst hb
    simp only [Instr.sameNow, zej]
   ·rename_i htd _
    rw [htd] at hat
    simp [TD.atomic] at hat
   ·cases hb
  simp only [qd3] at hf
  split at hf
  ·rename_i heq
   split at hf
   ·rename_i hke
    simp only [Option.some.injEq] at hf
    subst hf
    refine ⟨some (i, q.val), ?_, rfl, h2, p, by simp, Nat.le_refl _, hke⟩
    simp [Instr.findNow, same _ heq]
   ·cases hf
  ·rename_i heq
   obtain ⟨o, g1, g2⟩ := now_ok hT hki hat hd hk es l (i + 1) r h3 hf
   exact ⟨o, by simp [Instr.findNow, same _ heq, g1], g2.succ⟩
  ·cases hf
theorem qfp {P : Program} {TE : TyE} (hT : q2r P TE) {EQ : TypeId → Bool} (hE : ∀ t, EQ t = true → EqOk P t) {D : Nat → Nat → Prop} {G : Gh} {B : Nat → Prop} {w : World} {kt : TypeId} {k : AVal} {k' : Value} (hk : VR D G B w k k')
 (hok : q7c TE kt k = true) {es : List (AVal × AVal)} {l : List MapEntry} {r : Option (Nat × AVal)} (he : ERel D G B w es l) (hf : qd3 TE EQ kt k es 0 = some r) :
 ∃ o, (Instr.findKey kt k' l).run P w = .ok o w ∧ FRel D G B w es k 0 r o := by
 unfold q7c at hok
 split at hok
 case h_2 => cases hok
 rename_i i hi
 obtain ⟨d, inf, q1, q2, _⟩ := hT kt i hi
 have atom : i.td.atomic = true → ∃ o, (Instr.findKey kt k' l).run P w = .ok o w ∧ FRel D G B w es k 0 r o := fun ha => by
  obtain ⟨o, g1, g2⟩ := now_ok hT hi ha q2 hk es l 0 r he hf
  exact ⟨o, MapKept.run_findKey q1 g1, g2⟩
 split at hok
 ·rename_i fs cs htd
  obtain ⟨a, ha, hm⟩ := q2s hT hi htd
  obtain ⟨o, g1, g2⟩ := ask_ok hT hE hk es l 0 r he hf
  exact ⟨o, by rw [run_findKey_eq w (by rw [ha])]; exact g1, g2⟩
 ·rename_i hq; exact atom (by rw [hq]; rfl)
 ·rename_i hq; exact atom (by rw [hq]; rfl)
 ·rename_i hq; exact atom (by rw [hq]; rfl)
 ·cases hok
theorem qgi {P : Program} {TE : TyE} (hT : q2r P TE) {t kt et : TypeId} {i : TyI} (h : TE t = some i) (hd : i.td = .map kt et) : P.underlying t = some (.map kt et) := by
 obtain ⟨d, inf, h1, h2, _⟩ := hT t i h
 rw [hd] at h2
 cases d <;> simp [TD.of] at h2
 obtain ⟨rfl, rfl⟩ := h2
 exact h1
def qgc (i : TyI) : AVal :=
 match i.zero with
 | .agg vs => .agg (vs.toList.map cst)
 | v => cst v
theorem qop {D : Nat → Nat → Prop} {G : Gh} {B : Nat → Prop} {w : World} (i : TyI) : VR D G B w (qgc i) i.zero := by
 unfold qgc
 split
 ·rename_i vs hz
  rw [hz]
  refine .agg _ vs (by simp) fun n x v hx hv => ?_
  rw [List.getElem?_map] at hx
  have : vs.toList[n]? = some v := by simpa using hv
  rw [this] at hx
  simp only [Option.map_some, Option.some.injEq] at hx
  subst hx
  exact z17 v
 ·exact z17 _
def q4u (TE : TyE) (EQ : TypeId → Bool) (M : Mem) (t : TypeId) (x k : AVal) (ok : Bool) : Option AVal :=
 match TE t, x with
 | some ⟨.map kt et, _, _, _⟩, .mp m =>
  match TE et, M m with
  | some ei, some (.map es) =>
   if q7c TE kt k = true then
    match qd3 TE EQ kt k es 0 with
    | some (some (_, v)) => some (if ok = true then .tup [v, .bool true] else v)
    | some none => some (if ok = true then .tup [qgc ei, .bool false] else qgc ei)
    | none => none
   else none
  | _, _ => none
 | _, _ => none
theorem tup2 {D : Nat → Nat → Prop} {G : Gh} {B : Nat → Prop} {w : World} {x y : AVal} {u v : Value} (h1 : VR D G B w x u) (h2 : VR D G B w y v) : VR D G B w (.tup [x, y]) (.tuple #[u, v]) :=
 .tup _ _ rfl fun n z z' hz hz' => by
  match n with
  | 0 => simp at hz hz'; subst hz; subst hz'; exact h1
  | 1 => simp at hz hz'; subst hz; subst hz'; exact h2
  | n + 2 => simp at hz
theorem map_at {n : Nat} {B : Nat → Prop} {G : Gh} {s : AS} {a : Act} {w : World} (h : Rel n B G s a w) {m : Nat} {es : List (AVal × AVal)} (hm : s.M m = some (.map es)) :
 ∃ es' clock, G.ow (G.β m) = some (.box m) ∧ ¬ B (G.β m) ∧ w.heap[G.β m]? = some (.map es' clock) ∧ ERel (Dm s.M) G B w es es'.toList := by
 obtain ⟨es', clock, b1, b2, b3, b4, b5⟩ := h.mem m _ hm
 exact ⟨es', clock, b1, b2, b3, by simpa using b4, fun i p hp => by obtain ⟨q, hq, r1, r2⟩ := b5 i p hp; exact ⟨q, by simpa using hq, r1, r2⟩⟩
theorem z1q {P : Program} {TE : TyE} (hT : q2r P TE) {EQ : TypeId → Bool} (hE : ∀ t, EQ t = true → EqOk P t) {n : Nat} {B : Nat → Prop} {G : Gh} {s : AS} {a : Act} {w : World} (h : Rel n B G s a w) {t : TypeId} {x k : AVal} {x' k' : Value}
 (hx : VR (Dm s.M) G B w x x') (hk : VR (Dm s.M) G B w k k') {ok : Bool} {v : AVal} (hl : q4u TE EQ s.M t x k ok = some v) : ∃ v', (Instr.lookup t x' k' ok).run P w = .ok v' w ∧ VR (Dm s.M) G B w v v' := by
 unfold q4u at hl
 split at hl
 case h_2 => cases hl
 rename_i kt et s1 b1 z1 m ht
 split at hl
 case h_2 => cases hl
 rename_i ei es hei hm
 split at hl
 case isFalse => cases hl
 rename_i hok
 have hu := qgi hT ht rfl
 obtain ⟨es', clock, c1, c2, c3, c4⟩ := map_at h hm
 cases hx with
 | mp _ hD =>
  split at hl
  ·rename_i i v0 hf
   simp only [Option.some.injEq] at hl
   subst hl
   obtain ⟨o, g1, g2⟩ := qfp hT hE hk hok c4 hf
   cases o with
   | none => exact g2.elim
   | some o =>
    obtain ⟨rfl, g3, _⟩ := g2
    cases ok
    ·exact ⟨_, by simp [Instr.lookup, run_underlying hu, MapKept.run_getObj_map c3, q6z hT hk hok, g1], g3⟩
    ·exact ⟨_, by simp [Instr.lookup, run_underlying hu, MapKept.run_getObj_map c3, q6z hT hk hok, g1], tup2 g3 (.bool _)⟩
  ·rename_i hf
   simp only [Option.some.injEq] at hl
   subst hl
   obtain ⟨o, g1, g2⟩ := qfp hT hE hk hok c4 hf
   cases o with
   | some o => exact g2.elim
   | none =>
    cases ok
    ·exact ⟨_, by simp [Instr.lookup, run_underlying hu, MapKept.run_getObj_map c3, q6z hT hk hok, g1, q0w hT hei], qop ei⟩
    ·exact ⟨_, by simp [Instr.lookup, run_underlying hu, MapKept.run_getObj_map c3, q6z hT hk hok, g1, q0w hT hei], tup2 (qop ei) (.bool _)⟩
  ·cases hl
theorem Rel.set_map {n : Nat} {B : Nat → Prop} {G : Gh} {s : AS} {a : Act} {w : World} (h : Rel n B G s a w) {k : Nat} {es : List (AVal × AVal)} (hk : s.M k = some (.map es)) (es2 : List (AVal × AVal)) (l2 : Array MapEntry) (clock : Nat)
 (hr : ERel (Dm s.M) G B w es2 l2.toList) :
 Adv G w G { w with heap := w.heap.setIfInBounds (G.β k) (.map l2 clock) } ∧ Rel n B G ⟨s.T, upd s.M k (some (.map es2))⟩ a { w with heap := w.heap.setIfInBounds (G.β k) (.map l2 clock) } := by
 obtain ⟨es', clock0, b1, b2, b3, b4, b5⟩ := h.mem k _ hk
 have hne : ∀ b, G.ow b ≠ some (.box k) → b ≠ G.β k := fun b hb e => by subst e; exact hb b1
 have hset := MapKept.heap_set (o' := .map l2 clock) b3
 have hA : Adv G w G { w with heap := w.heap.setIfInBounds (G.β k) (.map l2 clock) } := ⟨⟨rfl, Nat.le_refl _⟩, rfl, rfl, by simp, fun b hb ho => ⟨hset.2 b (hne b (by rw [ho]; simp)), ho⟩⟩
 refine ⟨hA, h.update hA k (.map es2) (by rw [hk]; trivial) (fun _ _ _ => ⟨rfl, rfl⟩) (fun b key _ _ ho hkey => ⟨hset.2 b (hne b (by rw [ho]; intro e; apply hkey; rw [Option.some.inj e]; rfl)), ho⟩) (fun b hb => by simpa using h.ol b hb) ?_⟩
 have hw : ∀ b, b < w.heap.size → ¬ B b → G.ow b = none → (w.heap.setIfInBounds (G.β k) (.map l2 clock))[b]? = w.heap[b]? ∧ ¬ B b ∧ G.ow b = none :=
  fun b _ hn ho => ⟨hset.2 b (hne b (by rw [ho]; simp)), hn, ho⟩
 have hD : ∀ j e, Dm s.M j e → Dm (upd s.M k (some (.map es2))) j e := fun j e => q35 (by rw [hk]; trivial)
 refine ⟨l2, clock, b1, b2, hset.1, by simpa using hr.1, fun i p hp => ?_⟩
 obtain ⟨q, hq, r1, r2⟩ := hr.2 i p hp
 exact ⟨q, by simpa using hq, VR.mono hD (fun _ _ _ => ⟨rfl, rfl⟩) hw r1, VR.mono hD (fun _ _ _ => ⟨rfl, rfl⟩) hw r2⟩
def q1h (TE : TyE) (EQ : TypeId → Bool) (M : Mem) (t : TypeId) (x k v : AVal) : Option (List (Nat × ABlk)) :=
 match TE t, x with
 | some ⟨.map kt et, _, _, _⟩, .mp m =>
  match M m with
  | some (.map es) =>
   if q7c TE kt k = true then
    match qd3 TE EQ kt k es 0 with
    | some (some (i, _)) => some [(m, .map (es.set i (k, v)))]
    | some none => some [(m, .map (es ++ [(k, v)]))]
    | none => none
   else none
  | _ => none
 | _, _ => none
theorem qfd {P : Program} {TE : TyE} (hT : q2r P TE) {EQ : TypeId → Bool} (hE : ∀ t, EQ t = true → EqOk P t) {n : Nat} {B : Nat → Prop} {G : Gh} {s : AS} {a : Act} {w : World} (h : Rel n B G s a w) {t : TypeId} {x k v : AVal} {x' k' v' : Value}
 (hx : VR (Dm s.M) G B w x x') (hk : VR (Dm s.M) G B w k k') (hv : VR (Dm s.M) G B w v v') {ups : List (Nat × ABlk)} (hl : q1h TE EQ s.M t x k v = some ups) : ResU P n B G s a w (Instr.mapUpdate t x' k' v') ups := by
 unfold q1h at hl
 split at hl
 case h_2 => cases hl
 rename_i kt et s1 b1 z1 m ht
 split at hl
 case h_2 => cases hl
 rename_i es hm
 split at hl
 case isFalse => cases hl
 rename_i hok
 have hu := qgi hT ht rfl
 obtain ⟨es', clock, c1, c2, c3, c4⟩ := map_at h hm
 cases hx with
 | mp _ hD =>
  split at hl
  ·rename_i i v0 hf
   simp only [Option.some.injEq] at hl
   subst hl
   obtain ⟨o, g1, g2⟩ := qfp hT hE hk hok c4 hf
   cases o with
   | none => exact g2.elim
   | some o =>
    obtain ⟨j, u⟩ := o
    obtain ⟨rfl, g3, p, g4, _, g5⟩ := g2
    simp only [Nat.sub_zero] at g4
    obtain ⟨q, hq, r1, r2⟩ := c4.2 i p g4
    have hb := z1u g5 r1 hk
    have hq' : es'[i]? = some q := by simpa using hq
    obtain ⟨hA, hR⟩ := h.set_map hm (es.set i (k, v)) (es'.modify i fun e => { e with key := k', val := v' }) clock ⟨by simpa using c4.1, fun j p' hp' => by
     by_cases hij : i = j
     ·subst hij
      have hlt : i < es.length := (List.getElem?_eq_some_iff.1 g4).1
      rw [List.getElem?_set_self hlt] at hp'
      simp only [Option.some.injEq] at hp'
      subst hp'
      exact ⟨{ q with key := k', val := v' }, by simp [Array.getElem?_modify, hq'], hk, hv⟩
     ·rw [List.getElem?_set_ne hij] at hp'
      obtain ⟨q2, hq2, t1, t2⟩ := c4.2 j p' hp'
      exact ⟨q2, by simpa [Array.getElem?_modify, hij] using hq2, t1, t2⟩⟩
    refine ⟨_, G, ?_, hA, hR⟩
    simp [Instr.mapUpdate, run_underlying hu, MapKept.run_getObj_map c3, q6z hT hk hok, g1, hq', Instr.keyThatStays, hb, MapKept.run_setObj_map _ c3]
  ·rename_i hf
   simp only [Option.some.injEq] at hl
   subst hl
   obtain ⟨o, g1, g2⟩ := qfp hT hE hk hok c4 hf
   cases o with
   | some o => exact g2.elim
   | none =>
    obtain ⟨hA, hR⟩ := h.set_map hm (es ++ [(k, v)]) (es'.push { key := k', val := v', born := clock }) (clock + 1) ⟨by simpa using c4.1, fun j p' hp' => by
     have hl := c4.1
     by_cases hj : j < es.length
     ·rw [List.getElem?_append_left hj] at hp'
      obtain ⟨q2, hq2, t1, t2⟩ := c4.2 j p' hp'
      exact ⟨q2, by rw [Array.toList_push, List.getElem?_append_left (by omega)]; exact hq2, t1, t2⟩
     ·rw [List.getElem?_append_right (by omega)] at hp'
      have : j - es.length = 0 := by
       rcases Nat.eq_zero_or_pos (j - es.length) with h' | h'
       ·exact h'
       ·rw [List.getElem?_eq_none (by simp; omega)] at hp'; cases hp'
      rw [this] at hp'
      simp only [List.getElem?_cons_zero, Option.some.injEq] at hp'
      subst hp'
      exact ⟨{ key := k', val := v', born := clock }, by rw [Array.toList_push, List.getElem?_append_right (by omega), show j - es'.toList.length = 0 by omega]; rfl, hk, hv⟩⟩
    refine ⟨_, G, ?_, hA, hR⟩
    simp [Instr.mapUpdate, run_underlying hu, MapKept.run_getObj_map c3, q6z hT hk hok, g1, MapKept.run_setObj_map _ c3]
  ·cases hl
def q4p (M : Mem) (d : Option Tmp) : AR :=
 match d with
 | some d => match M d with | none => some (.mp d, [(d, .map [])]) | some _ => none
 | none => none
theorem qnq {P : Program} {n : Nat} {B : Nat → Prop} {G : Gh} {s : AS} {a : Act} {w : World} (h : Rel n B G s a w) {t : TypeId} {d : Option Tmp} {v : AVal} {ups : List (Nat × ABlk)}
 (hl : q4p s.M d = some (v, ups)) : Res P n B G s a w (Instr.makeMap t none) v ups := by
 unfold q4p at hl
 split at hl
 case h_2 => cases hl
 rename_i d
 split at hl
 case h_2 => cases hl
 rename_i hd
 simp only [Option.some.injEq, Prod.mk.injEq] at hl
 obtain ⟨rfl, rfl⟩ := hl
 let o : Obj := .map #[] 0
 let G' : Gh := { β := upd G.β d w.heap.size, hd := G.hd, ow := upd G.ow w.heap.size (some (.box d)), hd1 := G.hd1 }
 have e1 : ∀ b, b < w.heap.size → G'.ow b = G.ow b := fun b hb => q0h _ _ (by omega)
 have hA : Adv G w G' (w.alloc o) := ⟨⟨rfl, Nat.le_refl _⟩, rfl, rfl, by simp, fun b hb ho => ⟨q2a w _ hb, by rw [e1 b hb]; exact ho⟩⟩
 have hG : ∀ j e, Dm s.M j e → G'.β j = G.β j ∧ G'.hd j e = G.hd j e := fun j e hj => ⟨q0h _ _ (fun e' => by subst e'; exact q5w hd hj), rfl⟩
 have hR : Rel n B G' ⟨s.T, upd s.M d (some (.map []))⟩ a (w.alloc o) := by
  refine h.update hA d (.map []) (by rw [hd]; trivial) hG (fun b key hb _ ho _ => ⟨q2a w _ hb, by rw [e1 b hb]; exact ho⟩) (fun b hb => ?_) ?_
  ·rcases Nat.lt_or_ge b w.heap.size with h' | h'
   ·simp; omega
   ·by_cases e : b = w.heap.size
    ·subst e; simp
    ·exfalso
     have : G'.ow b = G.ow b := q0h _ _ e
     rw [this] at hb
     exact absurd (h.ol b hb) (by omega)
  ·exact ⟨#[], 0, by simp only [G', q00], by simp only [G', q00]; exact fun hb => absurd (h.fr _ hb).1 (by omega), by simp only [G', q00]; exact q8z w _, rfl, fun i p hp => by simp at hp⟩
 refine ⟨.map (some w.heap.size), w.alloc o, G', ?_, hA, hR, ?_⟩
 ·simp [Instr.makeMap, newObj, Sem.run, o]
 ·have hb : G'.β d = w.heap.size := q00 _ _ _
  rw [← hb]
  exact .mp d (by simp [ap, Dm, q00])

def mmA (mx : Bool) : AVal → List AVal → Option AVal
 | .int k x, [] => some (.int k x)
 | .int k x, .int _ y :: r => mmA mx (.int k (if mx = true then max x y else min x y)) r
 | _, _ => none
theorem max_ok {P : Program} {D : Nat → Nat → Prop} {G : Gh} {B : Nat → Prop} {w : World} : ∀ (l : List AVal) (l' : List Value) (x : AVal) (x' : Value) (v : AVal), l'.length = l.length → (∀ (i : Nat) (y : AVal), l[i]? = some y → ∃ u, l'[i]? = some u ∧ VR D G B w y u) →
 VR D G B w x x' → mmA true x l = some v → ∃ v', (l'.foldlM Builtin.max2 x' : Sem Value).run P w = .ok v' w ∧ VR D G B w v v'
 | [], l', x, x', v, hl, _, hx, h => by
  obtain rfl : l' = [] := List.eq_nil_of_length_eq_zero (by simpa using hl)
  cases x <;> simp only [mmA, Option.some.injEq, reduceCtorEq] at h
  subst h
  exact ⟨x', rfl, hx⟩
 | y :: l, l', x, x', v, hl, hr, hx, h => by
  match l', hl with
  | y' :: l', hl =>
   obtain ⟨u, hu, hy⟩ := hr 0 y rfl
   simp only [List.getElem?_cons_zero, Option.some.injEq] at hu
   subst hu
   cases x <;> cases y <;> simp only [mmA, reduceCtorEq] at h
   cases hx; cases hy
   rename_i k a k' b hl0
   have hm : (if b > a then b else a) = max a b := by simp only [Int.max_def]; split <;> split <;> omega
   obtain ⟨v', h1, h2⟩ := max_ok (P := P) l l' _ (.int k (max a b)) v (by simpa using hl) (fun i y hy => by obtain ⟨u, hu, hr⟩ := hr (i + 1) y (by simpa using hy); exact ⟨u, by simpa using hu, hr⟩) (.int _ _) (by simpa using h)
   refine ⟨v', ?_, h2⟩
   simp only [List.foldlM_cons, Sem.run_bind, Builtin.max2, Sem.run_pure, Result.andThen, hm]
   exact h1
theorem min_ok {P : Program} {D : Nat → Nat → Prop} {G : Gh} {B : Nat → Prop} {w : World} : ∀ (l : List AVal) (l' : List Value) (x : AVal) (x' : Value) (v : AVal), l'.length = l.length → (∀ (i : Nat) (y : AVal), l[i]? = some y → ∃ u, l'[i]? = some u ∧ VR D G B w y u) →
 VR D G B w x x' → mmA false x l = some v → ∃ v', (l'.foldlM Builtin.min2 x' : Sem Value).run P w = .ok v' w ∧ VR D G B w v v'
 | [], l', x, x', v, hl, _, hx, h => by
  obtain rfl : l' = [] := List.eq_nil_of_length_eq_zero (by simpa using hl)
  cases x <;> simp only [mmA, Option.some.injEq, reduceCtorEq] at h
  subst h
  exact ⟨x', rfl, hx⟩
 | y :: l, l', x, x', v, hl, hr, hx, h => by
  match l', hl with
  | y' :: l', hl =>
   obtain ⟨u, hu, hy⟩ := hr 0 y rfl
   simp only [List.getElem?_cons_zero, Option.some.injEq] at hu
   subst hu
   cases x <;> cases y <;> simp only [mmA, reduceCtorEq] at h
   cases hx; cases hy
   rename_i k a k' b hl0
   have hm : (if b < a then b else a) = min a b := by simp only [Int.min_def]; split <;> split <;> omega
   obtain ⟨v', h1, h2⟩ := min_ok (P := P) l l' _ (.int k (min a b)) v (by simpa using hl) (fun i y hy => by obtain ⟨u, hu, hr⟩ := hr (i + 1) y (by simpa using hy); exact ⟨u, by simpa using hu, hr⟩) (.int _ _) (by simpa using h)
   refine ⟨v', ?_, h2⟩
   simp only [List.foldlM_cons, Sem.run_bind, Builtin.min2, Sem.run_pure, Result.andThen, hm]
   exact h1
def evs (T : q12) (l : List Operand) : List AVal := l.map (ev T)
def evp (T : q12) (l : List (Nat × Operand)) : List (Nat × AVal) := l.map fun p => (p.1, ev T p.2)
def q2o (TE : TyE) (M : Mem) (b : Builtin) (ts : List TypeId) (l : List AVal) (d : Option Tmp) : AR :=
 match b, ts, l with
 | .len, [t], [x] => (lenA TE M t x).map fun v => (v, [])
 | .append, [t1, t2], [x, y] => q5u TE M t1 t2 x y d
 | .clear, [t], [x] => zee TE M t x
 | .max, _, x :: r => (mmA true x r).map fun v => (v, [])
 | .min, _, x :: r => (mmA false x r).map fun v => (v, [])
 | _, _, _ => none
def opA (TE : TyE) (EQ : TypeId → Bool) (s : AS) (o : Oper) : AR :=
 match o.op with
 | .move x => some (ev s.T x, [])
 | .assign x => some (ev s.T x, [])
 | .pick c a b => match ev s.T c with | .bool t => some (if t = true then ev s.T a else ev s.T b, []) | _ => none
 | .alloc t => q7e TE s.M t o.dst
 | .box _ x => boxA s.M o.dst (ev s.T x)
 | .build t parts => (qe5 TE t (evp s.T parts.toList)).map fun v => (v, [])
 | .buildSlice t len parts => q1l TE s.M t len (evp s.T parts.toList) o.dst
 | .load t a => qa6 TE s.M t o.dst (ev s.T a)
 | .store t a x => (q66 TE s.M t (ev s.T a) (ev s.T x)).map fun u => (.undef, u)
 | .nilCheck x => match ev s.T x with
  | .ptr k off => some (.ptr k off, [])
  | .eptr k e sz i off => some (.eptr k e sz i off, [])
  | .sptr cs => some (.sptr cs, [])
  | .fn f cs => some (.fn f cs, [])
  | _ => none
 | .binOp op t x y _ => (z2v TE EQ s.M op t (ev s.T x) (ev s.T y)).map fun v => (v, [])
 | .unOp op _ x => (unA op (ev s.T x)).map fun v => (v, [])
 | .convert t u x => (qg1 TE s.M t u (ev s.T x)).map fun v => (v, [])
 | .makeFunc (.func f) first caps => if first.size = 0 then some (.fn f (evs s.T caps.toList), []) else none
 | .makeSlice t l c => q22 TE s.M t (ev s.T l) (ev s.T c) o.dst
 | .slice t x lo hi none => q5x TE s.M t (ev s.T x) (lo.map (ev s.T)) (hi.map (ev s.T))
 | .fieldAddr t x f => (q45 TE t (ev s.T x) f).map fun v => (v, [])
 | .field t x f => (q8p TE t (ev s.T x) f).map fun v => (v, [])
 | .indexAddr t x i => (q1o TE s.M t (ev s.T x) (ev s.T i)).map fun v => (v, [])
 | .index t x i => (q8k TE t (ev s.T x) (ev s.T i)).map fun v => (v, [])
 | .extract t i => match ev s.T t with | .tup vs => (vs[i]?).map fun v => (v, []) | _ => none
 | .makeInterface t x => match TE t with | some i => if i.td = .iface then none else some (.iface t (ev s.T x), []) | none => none
 | .makeMap _ none => q4p s.M o.dst
 | .lookup t x k ok => (q4u TE EQ s.M t (ev s.T x) (ev s.T k) ok).map fun v => (v, [])
 | .mapUpdate t m k x => (q1h TE EQ s.M t (ev s.T m) (ev s.T k) (ev s.T x)).map fun u => (.undef, u)
 | .call ⟨.builtin b, args, ts⟩ => q2o TE s.M b ts.toList (evs s.T args.toList) o.dst
 | _ => none
def StepOk (P : Program) (n : Nat) (B : Nat → Prop) (G : Gh) (s : AS) (a : Act) (w : World) (o : Oper) (v : AVal) (ups : List (Nat × ABlk)) : Prop :=
 ∃ r w' v' G', (execOp a.eval o).run P w = .ok r w' ∧ (r = .value v' ∨ (r = .skip ∧ v' = undef)) ∧ Adv G w G' w' ∧ Rel n B G' ⟨s.T, ap s.M ups⟩ a w' ∧ VR (Dm (ap s.M ups)) G' B w' v v'
theorem StepOk.of_res {P : Program} {n : Nat} {B : Nat → Prop} {G : Gh} {s : AS} {a : Act} {w : World} {o : Oper} {v : AVal} {ups : List (Nat × ABlk)} {m : Sem Value} (h : Res P n B G s a w m v ups)
 (he : execOp a.eval o = (do pure (.value (← m)))) : StepOk P n B G s a w o v ups := by
 obtain ⟨v', w', G', h1, h2, h3, h4⟩ := h
 exact ⟨.value v', w', v', G', by rw [he]; simp [h1], .inl rfl, h2, h3, h4⟩
theorem StepOk.of_pure {P : Program} {n : Nat} {B : Nat → Prop} {G : Gh} {s : AS} {a : Act} {w : World} (h : Rel n B G s a w) {o : Oper} {v : AVal} {m : Sem Value} (hm : ∃ v', m.run P w = .ok v' w ∧ VR (Dm s.M) G B w v v')
 (he : execOp a.eval o = (do pure (.value (← m)))) : StepOk P n B G s a w o v [] := by
 obtain ⟨v', h1, h2⟩ := hm
 exact .of_res (Res.pure h h1 h2) he
theorem qf7 {n : Nat} {B : Nat → Prop} {G : Gh} {s : AS} {a : Act} {w : World} (h : Rel n B G s a w) (parts : Array (Nat × Operand)) :
 (parts.map fun (i, x) => (i, a.eval x)).size = (evp s.T parts.toList).length ∧ ∀ (n : Nat) (p : Nat × AVal), (evp s.T parts.toList)[n]? = some p → ∃ p', (parts.map fun (i, x) => (i, a.eval x))[n]? = some p' ∧ p'.1 = p.1 ∧ VR (Dm s.M) G B w p.2 p'.2 := by
 refine ⟨by simp [evp], fun n p hp => ?_⟩
 simp only [evp, List.getElem?_map] at hp
 cases hq : parts.toList[n]? with
 | none => simp [hq] at hp
 | some q =>
  simp only [hq, Option.map_some, Option.some.injEq] at hp
  subst hp
  have hq' : parts[n]? = some q := by simpa using hq
  exact ⟨(q.1, a.eval q.2), by simp [hq'], rfl, h.ev q.2⟩
theorem q9k {n : Nat} {B : Nat → Prop} {G : Gh} {s : AS} {a : Act} {w : World} (h : Rel n B G s a w) (l : Array Operand) :
 (l.map a.eval).size = (evs s.T l.toList).length ∧ ∀ (i : Nat) (y : AVal), (evs s.T l.toList)[i]? = some y → ∃ u, (l.map a.eval)[i]? = some u ∧ VR (Dm s.M) G B w y u := by
 refine ⟨by simp [evs], fun i y hy => ?_⟩
 simp only [evs, List.getElem?_map] at hy
 cases hq : l.toList[i]? with
 | none => simp [hq] at hy
 | some q =>
  simp only [hq, Option.map_some, Option.some.injEq] at hy
  subst hy
  have hq' : l[i]? = some q := by simpa using hq
  exact ⟨a.eval q, by simp [hq'], h.ev q⟩
theorem qm5 {P : Program} {TE : TyE} (hT : q2r P TE) {n : Nat} {B : Nat → Prop} {G : Gh} {s : AS} {a : Act} {w : World} (h : Rel n B G s a w) {o : Oper} {b : Builtin} {args : Array Operand} {ts : Array TypeId} (ho : o.op = .call ⟨.builtin b, args, ts⟩)
 {v : AVal} {ups : List (Nat × ABlk)} (hb : q2o TE s.M b ts.toList (evs s.T args.toList) o.dst = some (v, ups)) : StepOk P n B G s a w o v ups := by
 obtain ⟨a1, a2⟩ := q9k h args
 have he : execOp a.eval o = builtin b ts o.type (args.map fun | .const _ => true | _ => false) (args.map a.eval) := by
  unfold execOp
  rw [ho]
  rfl
 have ha : ∀ {x y : AVal}, evs s.T args.toList = [x, y] → ∃ x' y', args.map a.eval = #[x', y'] ∧ VR (Dm s.M) G B w x x' ∧ VR (Dm s.M) G B w y y' := by
  intro x y e
  rw [e] at a1 a2
  obtain ⟨x', hx1, hx2⟩ := a2 0 x rfl
  obtain ⟨y', hy1, hy2⟩ := a2 1 y rfl
  refine ⟨x', y', ?_, hx2, hy2⟩
  apply Array.ext'
  have hl : (args.map a.eval).toList.length = 2 := by simpa using a1
  match hq : (args.map a.eval).toList, hl with
  | [p, q], _ =>
   have e1 : (args.map a.eval)[0]? = some p := by rw [← Array.getElem?_toList, hq]; rfl
   have e2 : (args.map a.eval)[1]? = some q := by rw [← Array.getElem?_toList, hq]; rfl
   rw [e1] at hx1
   rw [e2] at hy1
   cases hx1; cases hy1
   rfl
 unfold q2o at hb
 split at hb
 ·rename_i t x hts hx
  cases hl : lenA TE s.M t x with
  | none => simp [hl] at hb
  | some v0 =>
   simp only [hl, Option.map_some, Option.some.injEq, Prod.mk.injEq] at hb
   obtain ⟨rfl, rfl⟩ := hb
   rw [hx] at a1 a2
   obtain ⟨x', hx1, hx2⟩ := a2 0 x rfl
   have hq : args.map a.eval = #[x'] := by
    apply Array.ext'
    have hl : (args.map a.eval).toList.length = 1 := by simpa using a1
    match hq : (args.map a.eval).toList, hl with
    | [p], _ =>
     have e1 : (args.map a.eval)[0]? = some p := by rw [← Array.getElem?_toList, hq]; rfl
     rw [e1] at hx1
     cases hx1
     rfl
   have ht : ts = #[t] := Array.ext' (by simpa using hts)
   subst ht
   exact StepOk.of_pure h (lenA_ok (ty := o.type) hT h hx2 hl) (by rw [he, hq]; rfl)
 ·rename_i t1 t2 x y hts hx
  obtain ⟨x', y', hq, hx2, hy2⟩ := ha hx
  have ht : ts = #[t1, t2] := Array.ext' (by simpa using hts)
  subst ht
  exact StepOk.of_res (z2l (ty := o.type) hT h hx2 hy2 hb) (by rw [he, hq]; rfl)
 ·rename_i t x hts hx
  rw [hx] at a1 a2
  obtain ⟨x', hx1, hx2⟩ := a2 0 x rfl
  have hq : args.map a.eval = #[x'] := by
   apply Array.ext'
   have hl : (args.map a.eval).toList.length = 1 := by simpa using a1
   match hq : (args.map a.eval).toList, hl with
   | [p], _ =>
    have e1 : (args.map a.eval)[0]? = some p := by rw [← Array.getElem?_toList, hq]; rfl
    rw [e1] at hx1
    cases hx1
    rfl
  have ht : ts = #[t] := Array.ext' (by simpa using hts)
  subst ht
  exact StepOk.of_res (zed (ty := o.type) hT h hx2 hb) (by rw [he, hq]; rfl)
 ·rename_i x r hx
  cases hl : mmA true x r with
  | none => simp [hl] at hb
  | some v0 =>
   simp only [hl, Option.map_some, Option.some.injEq, Prod.mk.injEq] at hb
   obtain ⟨rfl, rfl⟩ := hb
   rw [hx] at a1 a2
   obtain ⟨x', hx1, hx2⟩ := a2 0 x rfl
   match hq : (args.map a.eval).toList, (show (args.map a.eval).toList.length = r.length + 1 by simpa using a1) with
   | p :: q, hlen =>
    have e1 : (args.map a.eval)[0]? = some p := by rw [← Array.getElem?_toList, hq]; rfl
    rw [e1] at hx1
    cases hx1
    obtain ⟨v', h1, h2⟩ := max_ok (P := P) r q x x' v0 (by simpa using hlen) (fun i y hy => by
     obtain ⟨u, hu, hr⟩ := a2 (i + 1) y (by simpa using hy)
     rw [← Array.getElem?_toList, hq] at hu
     exact ⟨u, by simpa using hu, hr⟩) hx2 hl
    have hm : (Builtin.max_ ts o.type (args.map a.eval)).run P w = .ok v' w := by
     unfold Builtin.max_
     rw [hq]
     exact h1
    exact StepOk.of_pure h ⟨v', hm, h2⟩ (by rw [he]; rfl)
 ·rename_i x r hx
  cases hl : mmA false x r with
  | none => simp [hl] at hb
  | some v0 =>
   simp only [hl, Option.map_some, Option.some.injEq, Prod.mk.injEq] at hb
   obtain ⟨rfl, rfl⟩ := hb
   rw [hx] at a1 a2
   obtain ⟨x', hx1, hx2⟩ := a2 0 x rfl
   match hq : (args.map a.eval).toList, (show (args.map a.eval).toList.length = r.length + 1 by simpa using a1) with
   | p :: q, hlen =>
    have e1 : (args.map a.eval)[0]? = some p := by rw [← Array.getElem?_toList, hq]; rfl
    rw [e1] at hx1
    cases hx1
    obtain ⟨v', h1, h2⟩ := min_ok (P := P) r q x x' v0 (by simpa using hlen) (fun i y hy => by
     obtain ⟨u, hu, hr⟩ := a2 (i + 1) y (by simpa using hy)
     rw [← Array.getElem?_toList, hq] at hu
     exact ⟨u, by simpa using hu, hr⟩) hx2 hl
    have hm : (Builtin.min_ ts o.type (args.map a.eval)).run P w = .ok v' w := by
     unfold Builtin.min_
     rw [hq]
     exact h1
    exact StepOk.of_pure h ⟨v', hm, h2⟩ (by rw [he]; rfl)
 ·cases hb
theorem mapd {α : Type} {x : Option α} {v : α} {ups : List (Nat × ABlk)} {y : α} (h : (x.map fun v => (v, ([] : List (Nat × ABlk)))) = some (y, ups)) : x = some y ∧ ups = [] := by
 cases x with
 | none => simp at h
 | some z => simp at h; exact ⟨by rw [h.1], h.2⟩
theorem opA_ok {P : Program} {TE : TyE} (hT : q2r P TE) {EQ : TypeId → Bool} (hE : ∀ t, EQ t = true → EqOk P t) {n : Nat} {B : Nat → Prop} {G : Gh} {s : AS} {a : Act} {w : World} (h : Rel n B G s a w) {o : Oper} {v : AVal} {ups : List (Nat × ABlk)}
 (hs : opA TE EQ s o = some (v, ups)) : StepOk P n B G s a w o v ups := by
 have pureStep : ∀ {x : Option AVal} {m : Sem Value}, (x.map fun v => (v, ([] : List (Nat × ABlk)))) = some (v, ups) → (∀ y, x = some y → ∃ v', m.run P w = .ok v' w ∧ VR (Dm s.M) G B w y v') → execOp a.eval o = (do pure (.value (← m))) → StepOk P n B G s a w o v ups := by
  intro x m hx hm he
  obtain ⟨h1, rfl⟩ := mapd (v := v) hx
  exact .of_pure h (hm v h1) he
 unfold opA at hs
 split at hs
 ·rename_i x ho
  simp only [Option.some.injEq, Prod.mk.injEq] at hs
  obtain ⟨rfl, rfl⟩ := hs
  exact .of_pure h (m := pure (a.eval x)) ⟨_, rfl, h.ev x⟩ (by unfold execOp; rw [ho]; rfl)
 ·rename_i x ho
  simp only [Option.some.injEq, Prod.mk.injEq] at hs
  obtain ⟨rfl, rfl⟩ := hs
  exact .of_pure h (m := pure (a.eval x)) ⟨_, rfl, h.ev x⟩ (by unfold execOp; rw [ho]; rfl)
 ·rename_i c x y ho
  split at hs
  case h_2 => cases hs
  rename_i t hc
  simp only [Option.some.injEq, Prod.mk.injEq] at hs
  obtain ⟨rfl, rfl⟩ := hs
  have hcv := h.ev c
  rw [hc] at hcv
  have hcv' : a.eval c = .bool t := by generalize a.eval c = cv at hcv; cases hcv; rfl
  refine .of_pure h (m := pure (if t = true then a.eval x else a.eval y)) ⟨_, rfl, ?_⟩ (by unfold execOp; rw [ho]; simp only [hcv', asBool]; rfl)
  cases t
  ·exact h.ev y
  ·exact h.ev x
 ·rename_i t ho
  exact .of_res (zel hT h hs) (by unfold execOp; rw [ho])
 ·rename_i t x ho
  exact .of_res (boxA_ok (t := t) h (h.ev x) hs) (by unfold execOp; rw [ho])
 ·rename_i t parts ho
  obtain ⟨p1, p2⟩ := qf7 h parts
  exact pureStep hs (fun y hy => zei hT p1 p2 hy) (by unfold execOp; rw [ho])
 ·rename_i t len parts ho
  obtain ⟨p1, p2⟩ := qf7 h parts
  exact .of_res (qd7 hT h p1 p2 hs) (by unfold execOp; rw [ho])
 ·rename_i t x ho
  exact .of_res (loadA_ok hT h (h.ev x) hs) (by unfold execOp; rw [ho])
 ·rename_i t x y ho
  cases hst : q66 TE s.M t (ev s.T x) (ev s.T y) with
  | none => simp [hst] at hs
  | some u =>
   simp only [hst, Option.map_some, Option.some.injEq, Prod.mk.injEq] at hs
   obtain ⟨rfl, rfl⟩ := hs
   obtain ⟨w', G', h1, h2, h3⟩ := z3a (P := P) hT h (h.ev x) (h.ev y) hst
   exact ⟨.skip, w', undef, G', by unfold execOp; rw [ho]; simp [h1], .inr ⟨rfl, rfl⟩, h2, h3, .undef _⟩
 ·rename_i x ho
  have hx := h.ev x
  split at hs
  all_goals first | (cases hs; done) | skip
  all_goals
   rename_i hxe
   simp only [Option.some.injEq, Prod.mk.injEq] at hs
   obtain ⟨rfl, rfl⟩ := hs
   rw [hxe] at hx
   cases hxv : a.eval x <;> rw [hxv] at hx <;> cases hx
   exact .of_pure h (m := pure (a.eval x)) ⟨_, rfl, by rw [← hxe]; exact h.ev x⟩ (by unfold execOp; rw [ho]; simp only [hxv]; rfl)
 ·rename_i op t x y ty ho
  exact pureStep hs (fun z hz => binA_ok (ox := x) (oy := y) hT hE h (h.ev x) (h.ev y) hz) (by unfold execOp; rw [ho])
 ·rename_i op t x ho
  exact pureStep hs (fun z hz => unA_ok (h.ev x) hz) (by unfold execOp; rw [ho])
 ·rename_i t u x ho
  exact pureStep hs (fun z hz => convA_ok hT h (h.ev x) hz) (by unfold execOp; rw [ho])
 ·rename_i f first caps ho
  split at hs
  case isFalse => cases hs
  rename_i hz
  simp only [Option.some.injEq, Prod.mk.injEq] at hs
  obtain ⟨rfl, rfl⟩ := hs
  obtain ⟨a1, a2⟩ := q9k h caps
  have hf : first = #[] := Array.eq_empty_of_size_eq_zero hz
  subst hf
  refine .of_pure h (m := pure (.func (.func f) #[] (caps.map a.eval))) ⟨_, rfl, .fn f _ _ a1 fun i x u hx hu => ?_⟩ (by unfold execOp; rw [ho]; simp only [Instr.makeFunc, List.map_toArray, List.map_nil, Array.map_empty])
  obtain ⟨u', hu', hr⟩ := a2 i x hx
  rw [hu] at hu'
  exact (Option.some.inj hu') ▸ hr
 ·rename_i t l c ho
  exact .of_res (qfe hT h (h.ev l) (h.ev c) hs) (by unfold execOp; rw [ho])
 ·rename_i t x lo hi ho
  have o1 : ∀ q : Option Operand, OVR (Dm s.M) G B w (q.map (ev s.T)) (q.map a.eval) := fun q => by cases q; exact trivial; exact h.ev _
  exact .of_res (z3g hT h (h.ev x) (o1 lo) (o1 hi) hs) (by unfold execOp; rw [ho]; rfl)
 ·rename_i t x f ho
  exact pureStep hs (fun z hz => qfr hT (h.ev x) hz) (by unfold execOp; rw [ho])
 ·rename_i t x f ho
  exact pureStep hs (fun z hz => zdg hT (h.ev x) hz) (by unfold execOp; rw [ho])
 ·rename_i t x i ho
  exact pureStep hs (fun z hz => qfi hT h (h.ev x) (h.ev i) hz) (by unfold execOp; rw [ho])
 ·rename_i t x i ho
  exact pureStep hs (fun z hz => zd4 hT (h.ev x) (h.ev i) hz) (by unfold execOp; rw [ho])
 ·rename_i t i ho
  split at hs
  case h_2 => cases hs
  rename_i vs hv
  have ht := h.ev t
  rw [hv] at ht
  cases hvi : vs[i]? with
  | none => simp [hvi] at hs
  | some y =>
   simp only [hvi, Option.map_some, Option.some.injEq, Prod.mk.injEq] at hs
   obtain ⟨rfl, rfl⟩ := hs
   cases htv : a.eval t <;> rw [htv] at ht <;> cases ht
   rename_i us hl hh
   have hlt : i < us.size := by
    rw [hl]
    rcases Nat.lt_or_ge i vs.length with h' | h'
    ·exact h'
    ·rw [List.getElem?_eq_none h'] at hvi; cases hvi
   have hu : us[i]? = some us[i] := by simp [hlt]
   exact .of_pure h (m := Instr.extract (.tuple us) i) ⟨us[i], by simp [Instr.extract, hu], hh i y _ hvi hu⟩ (by unfold execOp; rw [ho]; simp only [htv])
 ·rename_i t x ho
  split at hs
  case h_2 => cases hs
  rename_i i hi
  split at hs
  ·cases hs
  rename_i hni
  simp only [Option.some.injEq, Prod.mk.injEq] at hs
  obtain ⟨rfl, rfl⟩ := hs
  obtain ⟨d, inf, q1, q2, _⟩ := hT t i hi
  refine .of_pure h (m := Instr.makeInterface t (a.eval x)) ⟨.iface t (a.eval x), ?_, .iface _ _ _ (h.ev x)⟩ (by unfold execOp; rw [ho])
  cases d <;> simp [TD.of] at q2 <;> first | exact absurd q2.symm hni | simp [Instr.makeInterface, run_underlying q1]
 ·rename_i t ho
  exact .of_res (qnq (t := t) h hs) (by unfold execOp; rw [ho]; rfl)
 ·rename_i t x k ok ho
  exact pureStep hs (fun z hz => z1q hT hE h (h.ev x) (h.ev k) hz) (by unfold execOp; rw [ho])
 ·rename_i t m k x ho
  cases hst : q1h TE EQ s.M t (ev s.T m) (ev s.T k) (ev s.T x) with
  | none => simp [hst] at hs
  | some u =>
   simp only [hst, Option.map_some, Option.some.injEq, Prod.mk.injEq] at hs
   obtain ⟨rfl, rfl⟩ := hs
   obtain ⟨w', G', h1, h2, h3⟩ := qfd (P := P) hT hE h (h.ev m) (h.ev k) (h.ev x) hst
   exact ⟨.skip, w', undef, G', by unfold execOp; rw [ho]; simp [h1], .inr ⟨rfl, rfl⟩, h2, h3, .undef _⟩
 ·rename_i b args ts ho
  exact qm5 hT h ho hs
 ·cases hs

section
mutual
def AVal.stb : AVal → Bool
 | .sl _ xs => q0i xs
 | .agg cs => q0i cs
 | .tup cs => q0i cs
 | .sptr cs => q0i cs
 | .fn _ cs => q0i cs
 | .iface _ v => v.stb
 | .ptr _ _ | .eptr _ _ _ _ _ | .os _ _ | .own _ _ | .hole | .ref _ | .vw _ _ _ _ _ | .mp _ => false
 | _ => true
def q0i : List AVal → Bool
 | [] => true
 | x :: r => x.stb && q0i r
end
theorem q80 : ∀ {l : List AVal}, q0i l = true → ∀ x ∈ l, x.stb = true
 | [], _, x, hx => by cases hx
 | y :: l, h, x, hx => by
  simp only [q0i, Bool.and_eq_true] at h
  rcases List.mem_cons.1 hx with rfl | hx
  ·exact h.1
  ·exact q80 h.2 x hx
theorem q3y {l : List AVal} (h : q0i l = true) {n : Nat} {x : AVal} (hx : l[n]? = some x) : x.stb = true := q80 h x (List.mem_of_getElem? hx)
theorem q2j {l : List AVal} (h : q0i l = true) : ∀ x ∈ flat l, x.stb = true := by
 intro x hx
 obtain ⟨y, hy, hx⟩ := List.mem_flatMap.1 hx
 have := q80 h y hy
 cases y <;> first | (simp only [AVal.cells, List.mem_singleton] at hx; subst hx; exact this) | skip
 case agg cs => exact q80 (l := cs) (by simpa [AVal.stb] using this) x hx
theorem qbd : ∀ {l : List AVal}, (∀ x ∈ l, x.stb = true) → q0i l = true
 | [], _ => rfl
 | x :: l, h => by
  simp only [q0i, Bool.and_eq_true]
  exact ⟨h x (by simp), qbd fun y hy => h y (by simp [hy])⟩
theorem qms {l r : List AVal} : q0i (l ++ r) = (q0i l && q0i r) := by
 induction l with
 | nil => rfl
 | cons x l ih => simp [q0i, ih, Bool.and_assoc]
theorem q3g {α : Type} {f : α → AVal} {l : List α} (h : ∀ x, (f x).stb = true) : q0i (l.map f) = true :=
 qbd fun y hy => by obtain ⟨x, _, rfl⟩ := List.mem_map.1 hy; exact h x
theorem VR.stable {D D' : Nat → Nat → Prop} {G G' : Gh} {B B' : Nat → Prop} {w w' : World} {x : AVal} {v : Value}
 (hw : ∀ b, b < w.heap.size → ¬ B b → G.ow b = none → w'.heap[b]? = w.heap[b]? ∧ ¬ B' b ∧ G'.ow b = none)
 (h : VR D G B w x v) (hs : x.stb = true) : VR D' G' B' w' x v := by
 induction h with
 | undef v => exact .undef v
 | int k n => exact .int k n
 | bool b => exact .bool b
 | str s => exact .str s
 | nil => exact .nil
 | slnil sz => exact .slnil sz
 | slemp sz a cap => exact .slemp sz a cap
 | sl sz xs b off cap f hcap hB hone hsz hc hv ih =>
  simp only [AVal.stb] at hs
  by_cases hne : flat xs = []
  ·exact .sl sz xs b off cap f hcap (fun h => absurd hne h) hone hsz (fun n x hx => by simp [hne] at hx) (fun n x hx => by simp [hne] at hx)
  ·obtain ⟨h1, h2⟩ := hB hne
   have h0 : ∃ x, (flat xs)[0]? = some x := by
    cases hf : flat xs with
    | nil => exact absurd hf hne
    | cons y ys => exact ⟨y, rfl⟩
   obtain ⟨x0, hx0⟩ := h0
   obtain ⟨e1, e2, e3⟩ := hw b (qg2 (hc 0 x0 hx0)) h1 h2
   exact .sl sz xs b off cap f hcap (fun _ => ⟨e2, e3⟩) hone hsz (fun n x hx => by rw [q2u (w := w) e1]; exact hc n x hx) (fun n x hx => ih n x hx (q2j hs x (List.mem_of_getElem? hx)))
 | agg cs vs hl h ih => exact .agg cs vs hl fun n x v h1 h2 => ih n x v h1 h2 (q3y (by simpa [AVal.stb] using hs) h1)
 | tup cs vs hl h ih => exact .tup cs vs hl fun n x v h1 h2 => ih n x v h1 h2 (q3y (by simpa [AVal.stb] using hs) h1)
 | ptr k off h => simp [AVal.stb] at hs
 | mp k h => simp [AVal.stb] at hs
 | nilptr => exact .nilptr
 | eptr k e sz i off b o len cap h hh => simp [AVal.stb] at hs
 | vw k e sz i n b o len cap h hh hn => simp [AVal.stb] at hs
 | sptr cs b off f hB hc hv ih =>
  simp only [AVal.stb] at hs
  by_cases hne : cs = []
  ·exact .sptr cs b off f (fun h => absurd hne h) (fun n x hx => by simp [hne] at hx) (fun n x hx => by simp [hne] at hx)
  ·obtain ⟨h1, h2⟩ := hB hne
   have h0 : ∃ x, cs[0]? = some x := by
    cases hf : cs with
    | nil => exact absurd hf hne
    | cons y ys => exact ⟨y, rfl⟩
   obtain ⟨x0, hx0⟩ := h0
   obtain ⟨e1, e2, e3⟩ := hw b (qg2 (hc 0 x0 hx0)) h1 h2
   exact .sptr cs b off f (fun _ => ⟨e2, e3⟩) (fun n x hx => by rw [q2u (w := w) e1]; exact hc n x hx) (fun n x hx => ih n x hx (q3y hs hx))
 | os k e h v hv => simp [AVal.stb] at hs
 | fn f cs vs hl h ih => exact .fn f cs vs hl fun n x v h1 h2 => ih n x v h1 h2 (q3y (by simpa [AVal.stb] using hs) h1)
 | nilfn => exact .nilfn
 | niliface => exact .niliface
 | iface t x v h ih => exact .iface t x v (ih (by simpa [AVal.stb] using hs))
mutual
def AVal.flt : AVal → Bool
 | .agg cs => flts cs
 | .tup cs => flts cs
 | .int _ _ | .bool _ | .str _ | .nil | .nilptr | .nilfn | .niliface | .undef => true
 | _ => false
def flts : List AVal → Bool
 | [] => true
 | x :: r => x.flt && flts r
end
theorem qfm : ∀ {l : List AVal}, flts l = true → ∀ {n : Nat} {x : AVal}, l[n]? = some x → x.flt = true
 | [], _, n, x, hx => by simp at hx
 | y :: l, h, n, x, hx => by
  simp only [flts, Bool.and_eq_true] at h
  cases n with
  | zero => simp at hx; subst hx; exact h.1
  | succ n => exact qfm h.2 (by simpa using hx)
theorem VR.flat {D D' : Nat → Nat → Prop} {G G' : Gh} {B B' : Nat → Prop} {w w' : World} {x : AVal} {v : Value} (h : VR D G B w x v) (hs : x.flt = true) : VR D' G' B' w' x v := by
 induction h with
 | undef v => exact .undef v
 | int k n => exact .int k n
 | bool b => exact .bool b
 | str s => exact .str s
 | nil => exact .nil
 | agg cs vs hl h ih => exact .agg cs vs hl fun n x v h1 h2 => ih n x v h1 h2 (qfm (by simpa [AVal.flt] using hs) h1)
 | tup cs vs hl h ih => exact .tup cs vs hl fun n x v h1 h2 => ih n x v h1 h2 (qfm (by simpa [AVal.flt] using hs) h1)
 | nilptr => exact .nilptr
 | nilfn => exact .nilfn
 | niliface => exact .niliface
 | _ => simp [AVal.flt] at hs
def fzc (K : Nat → Bool) (M : Mem) : AVal → AVal
 | .os k e => if K k = true then (match M k with | some (.arr e' sz xs) => if e = e' then .sl sz xs else .undef | _ => .undef) else .undef
 | .own sz xs => .sl sz xs
 | .hole => .undef
 | .ref _ => .undef
 | x => x
def fz (K : Nat → Bool) (M : Mem) : AVal → AVal
 | .ptr k off => if K k = true then (match M k with | some (.cells cs) => .sptr ((cs.map (fzc K M)).drop off) | _ => .undef) else .undef
 | .agg cs => .agg (cs.map (fzc K M))
 | .fn f cs => .fn f (cs.map fun c => match c with | .ptr k off => (if K k = true then (match M k with | some (.cells cs) => .sptr ((cs.map (fzc K M)).drop off) | _ => .undef) else .undef) | c => fzc K M c)
 | x => fzc K M x
def Gh.without (G : Gh) (K : Nat → Bool) : Gh := { G with ow := fun b => match G.ow b with | some key => if K key.of = true then none else some key | none => none }
theorem q1d {G : Gh} {K : Nat → Bool} {b : Nat} (h : G.ow b = none) : (G.without K).ow b = none := by simp [Gh.without, h]
theorem qgg {G : Gh} {K : Nat → Bool} {b : Nat} {key : OKey} (h : G.ow b = some key) (hk : K key.of = true) : (G.without K).ow b = none := by simp [Gh.without, h, hk]
section
variable {K : Nat → Bool} {M : Mem} {G : Gh} {B : Nat → Prop} {w : World}
theorem VR.without {D : Nat → Nat → Prop} {x : AVal} {v : Value} (h : VR D G B w x v) : VR D (G.without K) B w x v :=
 VR.mono (G := G) (G' := G.without K) (w := w) (w' := w) (B := B) (fun _ _ h => h) (fun _ _ _ => ⟨rfl, rfl⟩) (fun b _ hn ho => ⟨rfl, hn, q1d ho⟩) h
theorem OwnAt.frozen {D : Nat → Nat → Prop} {key : OKey} {sz : Nat} {xs : List AVal} {v : Value} (h : OwnAt D G B w key sz xs v) (hk : K key.of = true) : VR D (G.without K) B w (.sl sz xs) v := by
 rcases h with ⟨rfl, rfl⟩ | ⟨b, o, cap, c, el, h1, h2, h3, h4, h5, h6, h7, h7', h8⟩
 ·exact .slnil sz
 ·rw [h1]
  refine .sl sz xs b o cap (fun m => c.getD (o + m) undef) h2 (fun _ => ⟨h4, qgg h3 hk⟩) h7' h7 (fun m x hx => ?_) (fun m x hx => ?_)
  ·obtain ⟨u, hu, _⟩ := h8 m x hx
   rw [q29 h5, hu]
   simp [hu]
  ·obtain ⟨u, hu, hr⟩ := h8 m x hx
   have : c.getD (o + m) undef = u := by simp [hu]
   simp only [this]
   exact hr.without
theorem z0h (hm : ∀ k blk, M k = some blk → BlkRel (Dm M) G B w k blk) {x : AVal} {v : Value} (h : VR (Dm M) G B w x v) : VR (Dm M) (G.without K) B w (fzc K M x) v := by
 cases x <;> simp only [fzc] <;> first | exact h.without | exact .undef _ | skip
 case os k e =>
  split
  ·rename_i hK
   cases h with
   | os _ _ hD _ hv =>
    split
    ·rename_i e' sz xs hk
     split
     ·rename_i he
      subst he
      have := hm k _ hk
      simp only [BlkRel] at this
      rw [hv]
      exact this.frozen hK
     ·exact .undef _
    ·exact .undef _
  ·exact .undef _
 case own => cases h
theorem q8l (hm : ∀ k blk, M k = some blk → BlkRel (Dm M) G B w k blk) {k i : Nat} (hK : K k = true) {x : AVal} {v : Value} (h : CellRel (Dm M) G B w k i x v) : VR (Dm M) (G.without K) B w (fzc K M x) v := by
 cases x <;> first | exact z0h hm h | skip
 case own sz xs => exact OwnAt.frozen h hK
 case hole => exact .undef _
theorem fz_ptr (hm : ∀ k blk, M k = some blk → BlkRel (Dm M) G B w k blk) {k off : Nat} {v : Value} (h : VR (Dm M) G B w (.ptr k off) v) :
 VR (Dm M) (G.without K) B w (if K k = true then (match M k with | some (.cells cs) => .sptr ((cs.map (fzc K M)).drop off) | _ => .undef) else .undef) v := by
 split
 ·rename_i hK
  split
  ·rename_i cs hk
   cases h with
   | ptr _ _ hD =>
    obtain ⟨c, el, b1, b2, b3, b4, b5⟩ := hm k _ hk
    refine .sptr _ _ _ (fun n => c.getD (off + n) undef) (fun _ => ⟨b2, qgg b1 hK⟩) (fun n x hx => ?_) (fun n x hx => ?_)
    ·rw [List.getElem?_drop, List.getElem?_map] at hx
     cases hc : cs[off + n]? with
     | none => simp [hc] at hx
     | some y =>
      obtain ⟨u, hu, _⟩ := b5 _ y hc
      rw [q29 b3, hu]
      simp [hu]
    ·rw [List.getElem?_drop, List.getElem?_map] at hx
     cases hc : cs[off + n]? with
     | none => simp [hc] at hx
     | some y =>
      simp only [hc, Option.map_some, Option.some.injEq] at hx
      subst hx
      obtain ⟨u, hu, hr⟩ := b5 _ y hc
      have : c.getD (off + n) undef = u := by simp [hu]
      simp only [this]
      exact q8l hm hK hr
  ·exact .undef _
 ·exact .undef _
theorem qnz (hm : ∀ k blk, M k = some blk → BlkRel (Dm M) G B w k blk) {x : AVal} {v : Value} (h : VR (Dm M) G B w x v) : VR (Dm M) (G.without K) B w (fz K M x) v := by
 cases x <;> simp only [fz] <;> first | exact z0h hm h | skip
 case ptr k off => exact fz_ptr hm h
 case agg cs =>
  cases h with
  | agg _ vs hl h =>
   refine .agg _ vs (by simpa using hl) fun n x u hx hu => ?_
   rw [List.getElem?_map] at hx
   cases hc : cs[n]? with
   | none => simp [hc] at hx
   | some y =>
    simp only [hc, Option.map_some, Option.some.injEq] at hx
    subst hx
    exact z0h hm (h n y u hc hu)
 case fn f cs =>
  cases h with
  | fn _ _ vs hl h =>
   refine .fn f _ vs (by simpa using hl) fun n x u hx hu => ?_
   rw [List.getElem?_map] at hx
   cases hc : cs[n]? with
   | none => simp [hc] at hx
   | some y =>
    simp only [hc, Option.map_some, Option.some.injEq] at hx
    subst hx
    have hy := h n y u hc hu
    cases y <;> first | exact z0h hm hy | skip
    case ptr k off => exact fz_ptr hm hy
end
inductive Out where
 | ret (v : AVal)
 | pan (v : AVal)
def NoM : Mem := fun _ => none
theorem qd8 {k e : Nat} : ¬ Dm NoM k e := by simp [Dm, NoM]
structure Callable (P : Program) (f : FuncId) : Prop where
 ok : ∃ fn, P.funcs[f]? = some fn ∧ (fn.name == "runtime.NumGoroutine") = false ∧ fn.body.isNone = false
def Ev (P : Program) (f : FuncId) (args : List AVal) (out : Out) : Prop :=
 Callable P f ∧ ∀ (B : Nat → Prop) (w : World) (vs : Array Value) (G : Gh), (∀ b, G.ow b = none) → vs.size = args.length →
  (∀ (i : Nat) (x : AVal) (v : Value), args[i]? = some x → vs[i]? = some v → VR (Dm NoM) G B w x v) → (∀ b, B b → b < w.heap.size) →
  Calls P f vs w (fun e w' => ∃ G' v', (∀ b, G'.ow b = none) ∧ Adv G w G' w' ∧
   match out with
   | .ret x => e = .returned v' ∧ VR (Dm NoM) G' B w' x v'
   | .pan x => e = .panicked [{ v := v', recovered := false }] ∧ VR (Dm NoM) G' B w' x v')
def kill (K : Nat → Bool) (M : Mem) : Mem := fun k => if K k = true then (M k).map (fun _ => .dead) else M k
theorem qc8 (M : Mem) : kill (fun _ => false) M = M := by funext k; simp [kill]
theorem Rel.kill {n : Nat} {B : Nat → Prop} {G : Gh} {s : AS} {a : Act} {w : World} (h : Rel n B G s a w) (K : Nat → Bool) : Rel n B (G.without K) ⟨s.T, Avm.kill K s.M⟩ a w := by
 have hD : ∀ k e, Dm s.M k e → Dm (Avm.kill K s.M) k e := fun k e hk => by
  unfold Dm Avm.kill at *
  split
  ·rename_i heq
   split at heq
   ·cases hm : s.M k with
    | none => simp [hm] at hk
    | some b => simp [hm] at heq
   ·simp [heq] at hk
  ·rename_i e0 sz xs heq
   split at heq
   ·cases hm : s.M k with
    | none => simp [hm] at heq
    | some b => simp [hm] at heq
   ·simpa [heq] using hk
  ·trivial
 have hw : ∀ b, b < w.heap.size → ¬ B b → G.ow b = none → w.heap[b]? = w.heap[b]? ∧ ¬ B b ∧ (G.without K).ow b = none := fun b _ hn ho => ⟨rfl, hn, q1d ho⟩
 refine ⟨h.size, h.defers, fun t => VR.mono (G := G) (G' := G.without K) (w := w) (w' := w) (B := B) hD (fun _ _ _ => ⟨rfl, rfl⟩) hw (h.temps t), fun k blk hk => ?_, fun b hb => ⟨(h.fr b hb).1, q1d (h.fr b hb).2⟩, fun b hb => h.ol b (fun hn => hb (q1d hn))⟩
 simp only [Avm.kill] at hk
 split at hk
 ·cases hm : s.M k with
  | none => simp [hm] at hk
  | some b => simp [hm] at hk; subst hk; trivial
 ·rename_i hK
  refine BlkRel.mono (G := G) (G' := G.without K) (w := w) (w' := w) (B := B) hD (fun _ _ _ => ⟨rfl, rfl⟩) hw (fun b key hkey _ hb ho => ⟨rfl, hb, ?_⟩) (q90 hk) (h.mem k blk hk)
  simp [Gh.without, ho, hkey, hK]
theorem call_ok {P : Program} {n : Nat} {B : Nat → Prop} {G : Gh} {s : AS} {a : Act} {w : World} (h : Rel n B G s a w) (K : Nat → Bool) {f : FuncId} {args : List AVal} {vs : Array Value} (hl : vs.size = args.length)
 (hv : ∀ (i : Nat) (x : AVal) (v : Value), args[i]? = some x → vs[i]? = some v → VR (Dm s.M) G B w x v) (hs : q0i (args.map (fz K s.M)) = true) {out : Out} (he : Ev P f (args.map (fz K s.M)) out)
 {R : Ending → World → Prop}
 (hr : match out with
  | .ret x => ∀ v' w' G', Adv G w G' w' → Rel n B G' ⟨s.T, if x.flt = true then s.M else kill K s.M⟩ a w' → VR (Dm (if x.flt = true then s.M else kill K s.M)) G' B w' x v' → R (.returned v') w'
  | .pan x => ∀ v' w' G', Adv G w G' w' → Rel n B G' ⟨s.T, if x.flt = true then s.M else kill K s.M⟩ a w' → VR (Dm (if x.flt = true then s.M else kill K s.M)) G' B w' x v' → R (.panicked [{ v := v', recovered := false }]) w') :
 Calls P f vs w R := by
 let B' : Nat → Prop := fun b => B b ∨ (G.without K).ow b ≠ none
 let G0 : Gh := { G with ow := fun _ => none }
 have hargs : ∀ (i : Nat) (x : AVal) (v : Value), (args.map (fz K s.M))[i]? = some x → vs[i]? = some v → VR (Dm NoM) G0 B' w x v := by
  intro i x v hx hvi
  have hst := q3y hs hx
  rw [List.getElem?_map] at hx
  cases ha : args[i]? with
  | none => simp [ha] at hx
  | some y =>
   simp only [ha, Option.map_some, Option.some.injEq] at hx
   subst hx
   exact (qnz (K := K) h.mem (hv i y v ha hvi)).stable (fun b _ hn ho => ⟨rfl, by simp only [B', not_or]; exact ⟨hn, fun hc => hc ho⟩, rfl⟩) hst
 have hB' : ∀ b, B' b → b < w.heap.size := fun b hb => by
  rcases hb with hb | hb
  ·exact (h.fr b hb).1
  ·exact h.ol b fun hn => hb (q1d hn)
 refine (he.2 B' w vs G0 (fun _ => rfl) (by simpa using hl) hargs hB').mono fun e w' ⟨G', v', hG', hA, ho⟩ => ?_
 have hsame : ∀ b, b < w.heap.size → w'.heap[b]? = w.heap[b]? := fun b hb => (hA.keep b hb rfl).1
 have hR1 : Rel n B G s a w' := h.adv hA.size hsame
 have hA1 : Adv G w G w' := ⟨hA.os, hA.tape, hA.output, hA.size, fun b hb ho => ⟨hsame b hb, ho⟩⟩
 have hR2 := hR1.kill K
 have hA2 : Adv G w (G.without K) w' := ⟨hA.os, hA.tape, hA.output, hA.size, fun b hb ho => ⟨hsame b hb, q1d ho⟩⟩
 have hres : ∀ {x : AVal}, VR (Dm NoM) G' B' w' x v' → VR (Dm (Avm.kill K s.M)) (G.without K) B w' x v' := fun hx =>
  hx.mono (fun _ _ h => absurd h qd8) (fun _ _ h => absurd h qd8) (fun b _ hn _ => by
   simp only [B', not_or, ne_eq, Classical.not_not] at hn
   exact ⟨rfl, hn.1, hn.2⟩)
 cases out with
 | ret x =>
  obtain ⟨rfl, hx⟩ := ho
  cases hf : x.flt
  ·simp only [hf, Bool.false_eq_true, if_false] at hr
   exact hr v' w' _ hA2 hR2 (hres hx)
  ·simp only [hf, if_true] at hr
   exact hr v' w' G hA1 hR1 (hx.flat hf)
 | pan x =>
  obtain ⟨rfl, hx⟩ := ho
  cases hf : x.flt
  ·simp only [hf, Bool.false_eq_true, if_false] at hr
   exact hr v' w' _ hA2 hR2 (hres hx)
  ·simp only [hf, if_true] at hr
   exact hr v' w' G hA1 hR1 (hx.flat hf)
end
def EvOwn (P : Program) (f : FuncId) (args : List AVal) (p sz : Nat) (xs : List AVal) (back : Bool) (r : AVal) (ys : List AVal) : Prop :=
 Callable P f ∧ ∀ (B : Nat → Prop) (w : World) (vs : Array Value) (G : Gh), (∀ b key, G.ow b = some key → key = .arr p) → vs.size = args.length →
  (∀ (i : Nat) (x : AVal) (v : Value), i ≠ p → args[i]? = some x → vs[i]? = some v → VR (Dm NoM) G B w x v) →
  (∃ v, vs[p]? = some v ∧ OwnAt (Dm NoM) G B w (.arr p) sz xs v) → (∀ b, B b → b < w.heap.size ∧ G.ow b = none) → (∀ b, G.ow b ≠ none → b < w.heap.size) →
  Calls P f vs w (fun e w' => ∃ (G' : Gh) (v' u : Value), e = .returned v' ∧ (∀ b key, G'.ow b = some key → key = .arr p) ∧ (∀ b, G'.ow b ≠ none → b < w'.heap.size) ∧ Adv G w G' w' ∧
   OwnAt (Dm NoM) G' B w' (.arr p) sz ys u ∧ (back = true → v' = u) ∧ (back = false → vs[p]? = some u ∧ VR (Dm NoM) G' B w' r v'))
theorem OwnAt.one {D : Nat → Nat → Prop} {G : Gh} {B : Nat → Prop} {w : World} {key : OKey} {sz : Nat} {xs : List AVal} {v : Value} (h : OwnAt D G B w key sz xs v) : v.oneCell' = true := by
 rcases h with ⟨rfl, _⟩ | ⟨b, o, cap, c, el, rfl, _⟩ <;> rfl
theorem OwnAt.trade {D D' : Nat → Nat → Prop} {G G' : Gh} {B B' : Nat → Prop} {w : World} {key key' : OKey} {sz : Nat} {xs : List AVal} {v : Value}
 (hk : ∀ b, ¬ B b → G.ow b = some key → ¬ B' b ∧ G'.ow b = some key') (hv : ∀ x ∈ flat xs, ∀ u, VR D G B w x u → VR D' G' B' w x u) (h : OwnAt D G B w key sz xs v) : OwnAt D' G' B' w key' sz xs v := by
 rcases h with h | ⟨b, o, cap, c, el, h1, h2, h3, h4, h5, h6, h7, h7', h8⟩
 ·exact .inl h
 ·obtain ⟨k1, k2⟩ := hk b h4 h3
  exact .inr ⟨b, o, cap, c, el, h1, h2, k2, k1, h5, h6, h7, h7', fun n x hx => let ⟨u, hu, hr⟩ := h8 n x hx; ⟨u, hu, hv x (List.mem_of_getElem? hx) u hr⟩⟩
def qab (back : Bool) (e : Nat) : Nat := if back = true then e + 1 else e
theorem z2i {P : Program} {n : Nat} {B : Nat → Prop} {G : Gh} {s : AS} {a : Act} {w : World} (h : Rel n B G s a w) {f : FuncId} {args : List AVal} {vs : Array Value} (hl : vs.size = args.length)
 (hv : ∀ (i : Nat) (x : AVal) (v : Value), args[i]? = some x → vs[i]? = some v → VR (Dm s.M) G B w x v) {p k e sz : Nat} {xs : List AVal} (hp : args[p]? = some (.os k e)) (hk : s.M k = some (.arr e sz xs)) (hxs : q0i xs = true)
 {args' : List AVal} (ha : (args.map (fz (fun _ => false) s.M)).set p .undef = args') (hst : q0i args' = true) {back : Bool} {r : AVal} (hr : r.stb = true) {ys : List AVal} (hys : q0i ys = true) (he : EvOwn P f args' p sz xs back r ys)
 {R : Ending → World → Prop}
 (hR : ∀ v' w' G', Adv G w G' w' → Rel n B G' ⟨s.T, upd s.M k (some (.arr (qab back e) sz ys))⟩ a w' → VR (Dm (upd s.M k (some (.arr (qab back e) sz ys)))) G' B w' (if back = true then .os k (e + 1) else r) v' → R (.returned v') w') :
 Calls P f vs w R := by
 let B' : Nat → Prop := fun b => B b ∨ (G.ow b ≠ none ∧ G.ow b ≠ some (.arr k))
 let G0 : Gh := { G with ow := fun b => if G.ow b = some (.arr k) then some (.arr p) else none }
 have g0 : ∀ b, G.ow b = none → G0.ow b = none := fun b hb => by simp [G0, hb]
 have hlt : p < vs.size := by
  rw [hl]
  rcases Nat.lt_or_ge p args.length with h' | h'
  ·exact h'
  ·rw [List.getElem?_eq_none h'] at hp; cases hp
 have hvp : vs[p]? = some vs[p] := by simp [hlt]
 have hos := hv p _ _ hp hvp
 obtain ⟨D0, hhd⟩ : Dm s.M k e ∧ vs[p] = G.hd k e := by cases hos with | os _ _ hD v hv => exact ⟨hD, hv⟩
 have hown : OwnAt (Dm s.M) G B w (.arr k) sz xs (G.hd k e) := h.mem k _ hk
 have stab : ∀ x : AVal, x.stb = true → ∀ u, VR (Dm s.M) G B w x u → VR (Dm NoM) G0 B' w x u := fun x hx u hr =>
  hr.stable (fun b _ hn ho => ⟨rfl, by simp only [B', not_or]; exact ⟨hn, fun hc => hc.1 ho⟩, g0 b ho⟩) hx
 have hargs : ∀ (i : Nat) (x : AVal) (v : Value), i ≠ p → args'[i]? = some x → vs[i]? = some v → VR (Dm NoM) G0 B' w x v := by
  intro i x v hip hx hvi
  have hsx := q3y hst hx
  rw [← ha, List.getElem?_set_ne (Ne.symm hip), List.getElem?_map] at hx
  cases hy : args[i]? with
  | none => simp [hy] at hx
  | some y =>
   simp only [hy, Option.map_some, Option.some.injEq] at hx
   subst hx
   have := qnz (K := fun _ => false) h.mem (hv i y v hy hvi)
   refine this.stable (fun b _ hn ho => ?_) hsx
   have ho' : G.ow b = none := by
    simp only [Gh.without] at ho
    cases hb : G.ow b with
    | none => rfl
    | some key => simp [hb] at ho
   exact ⟨rfl, by simp only [B', not_or]; exact ⟨hn, fun hc => hc.1 ho'⟩, g0 b ho'⟩
 have hown0 : OwnAt (Dm NoM) G0 B' w (.arr p) sz xs vs[p] := by
  rw [hhd]
  refine hown.trade (fun b hb hkb => ⟨?_, by simp [G0, hkb]⟩) (fun x hx u hr => stab x (q2j hxs x hx) u hr)
  simp only [B', not_or]
  exact ⟨hb, fun hc => hc.2 hkb⟩
 refine (he.2 B' w vs G0 (fun b key hb => by
  simp only [G0] at hb
  split at hb
  ·exact (Option.some.inj hb).symm
  ·cases hb) (by rw [hl, ← ha]; simp) hargs ⟨_, hvp, hown0⟩ (fun b hb => by
  rcases hb with hb | hb
  ·exact ⟨(h.fr b hb).1, g0 b (h.fr b hb).2⟩
  ·exact ⟨h.ol b hb.1, by simp [G0, hb.2]⟩) (fun b hb => h.ol b fun hn => hb (g0 b hn))).mono ?_
 intro en w' hx
 obtain ⟨G', v', u, rfl, hkeys, hol, hA, hou, hb1, hb2⟩ := hx
 let ow1 : Nat → Option OKey := fun b => if G'.ow b = some (.arr p) then some (.arr k) else if b < w.heap.size then (if G.ow b = some (.arr k) then none else G.ow b) else none
 have hG' : ∀ b, G'.ow b = none ∨ G'.ow b = some (.arr p) := fun b => by
  cases hb : G'.ow b with
  | none => exact .inl rfl
  | some key => exact .inr (by rw [hkeys b key hb])
 have keep0 : ∀ b, b < w.heap.size → G0.ow b = none → w'.heap[b]? = w.heap[b]? ∧ G'.ow b = none := fun b hb ho => hA.keep b hb ho
 let G1 : Gh := if back = true then G.setHd k (e + 1) u hou.one ow1 else { G with ow := ow1 }
 have g1ow : ∀ b, G1.ow b = ow1 b := fun b => by simp only [G1]; split <;> rfl
 have hA1 : Adv G w G1 w' := ⟨hA.os, hA.tape, hA.output, hA.size, fun b hb ho => by
  obtain ⟨q1, q2⟩ := keep0 b hb (g0 b ho)
  exact ⟨q1, by rw [g1ow]; simp [ow1, q2, ho, hb]⟩⟩
 have hGd : ∀ j e', Dm s.M j e' → G1.β j = G.β j ∧ G1.hd j e' = G.hd j e' := by
  intro j e' hj
  simp only [G1]
  split
  ·exact qbi (by simp [Dm, hk]) j e' hj
  ·exact ⟨rfl, rfl⟩
 have hsucc : qmm (s.M k) (.arr (qab back e) sz ys) := by
  rw [hk]
  simp only [qmm, qab]
  split <;> omega
 have hhd1 : G1.hd k (qab back e) = u := by
  simp only [G1, qab]
  cases back with
  | true => simp only [if_true]; exact q2n
  | false =>
   simp only [Bool.false_eq_true, if_false]
   have := (hb2 rfl).1
   rw [hvp] at this
   rw [← hhd]
   exact Option.some.inj this
 have hmono : ∀ x u, VR (Dm NoM) G' B' w' x u → VR (Dm (upd s.M k (some (.arr (qab back e) sz ys)))) G1 B w' x u := fun x u hr =>
  hr.mono (fun _ _ h => absurd h qd8) (fun _ _ h => absurd h qd8) (fun b hb hn ho => by
   simp only [B', not_or, not_and, ne_eq, Classical.not_not] at hn
   refine ⟨rfl, hn.1, ?_⟩
   rw [g1ow]
   simp only [ow1, ho, reduceCtorEq, if_false]
   split
   ·split
    ·rfl
    ·rename_i hne
     cases hgo : G.ow b with
     | none => rfl
     | some key => exact absurd (hn.2 (by rw [hgo]; simp)) hne
   ·rfl)
 have hblk : OwnAt (Dm (upd s.M k (some (.arr (qab back e) sz ys)))) G1 B w' (.arr k) sz ys u :=
  hou.trade (fun b hb hkb => ⟨fun hB => hb (.inl hB), by rw [g1ow]; simp [ow1, hkb]⟩) (fun x _ u hr => hmono x u hr)
 have hR1 : Rel n B G1 ⟨s.T, upd s.M k (some (.arr (qab back e) sz ys))⟩ a w' := by
  refine h.update hA1 k _ hsucc hGd (fun b key hb hnB ho hkey => ?_) (fun b hb => ?_) ?_
  ·have hne : G.ow b ≠ some (.arr k) := by rw [ho]; intro e; apply hkey; rw [Option.some.inj e]; rfl
   obtain ⟨q1, q2⟩ := keep0 b hb (by simp [G0, hne])
   exact ⟨q1, by rw [g1ow]; simp only [ow1, q2, reduceCtorEq, if_false, hb, if_true, hne]; exact ho⟩
  ·rw [g1ow] at hb
   simp only [ow1] at hb
   split at hb
   ·rename_i hq; exact hol b (by rw [hq]; simp)
   ·split at hb
    ·rename_i hlt; exact Nat.lt_of_lt_of_le hlt hA.size
    ·exact absurd rfl hb
  ·show OwnAt _ G1 B w' (.arr k) sz ys (G1.hd k (qab back e))
   rw [hhd1]
   exact hblk
 refine hR v' w' G1 hA1 hR1 ?_
 cases back with
 | true =>
  simp only [if_true]
  refine .os k (e + 1) ?_ v' ?_
  ·simp [Dm, q00, qab]
  ·rw [hb1 rfl]; exact hhd1.symm
 | false =>
  simp only [Bool.false_eq_true, if_false]
  exact hmono r v' (hb2 rfl).2

end Go.Proofs.YtkionmommpgcmaaGreat.Avm
