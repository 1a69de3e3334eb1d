/- Part 3 of the proof: lemmas. -/
import Derived.Test.YthejoeiecenjkaaGreatL2
import Derived.Shelf.SlSortCmp.NoneTotal
import Derived.Test.YthejoeiecenjkaaGreatProg
import Derived.KernelRfl
set_option maxRecDepth 100000
set_option maxHeartbeats 4000000
set_option linter.unusedVariables false
set_option linter.unusedSimpArgs false
set_option linter.unusedSectionVars false
set_option linter.defProp false
namespace Go.Proofs.YthejoeiecenjkaaGreat.Avm
open Go.Proofs
section
open Go.Shelf Go.RowKit Go.Lib Go.Sort
def con : AVal → Value
 | .int k n => .int k n
 | .bool b => .bool b
 | .str s => .string s
 | _ => undef
def AVal.isCon : AVal → Bool
 | .int _ _ => true
 | .bool _ => true
 | .str _ => true
 | _ => false
theorem con_VR {D : Nat → Nat → Prop} {G : Gh} {B : Nat → Prop} {w : World} {x : AVal} (h : x.isCon = true) : VR D G B w x (con x) := by
 cases x <;> simp only [AVal.isCon, Bool.false_eq_true] at h
 ·exact .int _ _
 ·exact .bool _
 ·exact .str _
theorem con_of {D : Nat → Nat → Prop} {G : Gh} {B : Nat → Prop} {w : World} {x : AVal} {v : Value} (h : x.isCon = true) (hv : VR D G B w x v) : v = con x := by
 cases x <;> simp only [AVal.isCon, Bool.false_eq_true] at h <;> cases hv <;> rfl
theorem con_one {x : AVal} (h : x.isCon = true) : (con x).oneCell' = true := by
 cases x <;> simp only [AVal.isCon, Bool.false_eq_true] at h <;> rfl
theorem con_AOne {x : AVal} (h : x.isCon = true) : x.one = true := by
 cases x <;> simp only [AVal.isCon, Bool.false_eq_true] at h <;> rfl
theorem Adv.grown {G G' : Gh} {w w' : World} (h : Adv G w G' w') (hG : ∀ b, G.ow b = none) : ∃ q os, w' = grow (w.drewN q) os := by
 refine ⟨w'.drawn - w.drawn, w'.heap.extract w.heap.size w'.heap.size, ?_⟩
 have hh : w'.heap = w.heap ++ w'.heap.extract w.heap.size w'.heap.size := by
  apply Array.ext_getElem?
  intro i
  rcases Nat.lt_or_ge i w.heap.size with hi | hi
  ·rw [Array.getElem?_append_left hi]
   exact (h.keep i hi (hG i)).1
  ·rw [Array.getElem?_append_right hi, Array.getElem?_extract]
   rw [show w.heap.size + (i - w.heap.size) = i by omega]
   split
   ·rfl
   ·exact Array.getElem?_eq_none (by omega)
 have h1 := h.os
 have h2 := h.tape
 have h3 := h.output
 cases w; cases w'
 simp only [grow, World.drewN] at *
 congr 1
 ·omega
 ·exact h1.1
theorem q3u {τ : Type} {c : τ → List AVal} (l : List τ) : flat (l.map fun x => .agg (c x)) = l.flatMap c := by
 induction l with
 | nil => rfl
 | cons x l ih => simp only [List.map_cons, q38, ih, List.flatMap_cons]; rfl
theorem qac {τ : Type} {c : τ → List AVal} {k : Nat} (hk : ∀ x, (c x).length = k) {l : List τ} {i j : Nat} {x : τ} (hi : l[i]? = some x) (hj : j < k) : (l.flatMap c)[i * k + j]? = (c x)[j]? := by
 rw [← q3u]
 rw [qab (sz := k) (x := .agg (c x)) (i := i) (j := j) (fun y hy => ?_) (by simp [hi]) hj]
 ·rfl
 ·obtain ⟨z, _, rfl⟩ := List.mem_map.1 hy
  exact hk z
section
variable {P : Program} {ρ : Ren} {τ : Type} [Inhabited τ]
theorem sortOwn (L : SlLaysF0.n6 P ρ) (hc6 : Callable P (ρ.f 6)) (k : Nat) (h0k : 0 < k) (aE : ∀ w, (isAgg (ρ.t 24)).run P w = .ok true w) (zE : ∀ w, (Go.sizeOf (ρ.t 24)).run P w = .ok k w)
 (c : τ → List AVal) (hk : ∀ x, (c x).length = k) (hcon : ∀ x, ∀ y ∈ c x, y.isCon = true) (cf : τ → τ → Int) (hO : SWO (ltOf cf)) (g : FuncId) (hcmp : ∀ x y : τ, Ev P g [.agg (c x), .agg (c y)] (.ret (.int .i64 (cf x y)))) (l : List τ) (hl : l.length < 4611686018427387904) :
 ∃ s : List τ, s.Perm l ∧ s.Pairwise (fun x y => ltOf cf y x = false) ∧ EvOwn P (ρ.f 6) [.undef, .fn g []] 0 k (l.map fun x => .agg (c x)) false (.tup []) (s.map fun x => .agg (c x)) := by
 let d : Array τ := l.toArray
 let d' := pdq (ltOf cf) d 0 d.size (Lib.bitLen d.size) true true
 have hds : d.size = l.length := by simp [d]
 obtain ⟨hp, hsrt⟩ := pdq_sorts (ltOf cf) hO d 0 d.size (Lib.bitLen d.size) true true (Nat.zero_le _) (Nat.le_refl _) (Or.inl rfl)
 have hsz' : d'.size = d.size := hp.1
 have hperm : d'.toList.Perm l := by
  have := hp.2.2
  have e : ∀ (x : Array τ) (n : Nat), x.size = n → x.extract 0 n = x := by rintro x n rfl; exact Array.extract_size
  rw [e d _ rfl, e _ _ hsz'] at this
  simpa [d] using this
 have hpw : d'.toList.Pairwise (fun x y => ltOf cf y x = false) := by
  rw [List.pairwise_iff_getElem]
  intro i j hi hj hij
  have h1 : i < d'.size := by simpa using hi
  have h2 : j < d'.size := by simpa using hj
  have := hsrt i j (Nat.zero_le _) hij (by rw [← hsz']; exact h2)
  rw [show (pdq (ltOf cf) d 0 d.size (Lib.bitLen d.size) true true) = d' from rfl, getElem!_pos d' i h1, getElem!_pos d' j h2] at this
  simpa using this
 refine ⟨d'.toList, hperm, hpw, hc6, fun B w vs G hkey hvs hv hown hB hol => ?_⟩
 obtain ⟨v0, hv0, hown⟩ := hown
 obtain ⟨v1, hv1⟩ : ∃ v, vs[1]? = some v := ⟨vs[1]'(by rw [hvs]; simp), by simp [hvs]⟩
 have hfn := hv 1 (.fn g []) v1 (by decide) rfl hv1
 have hf1 : v1 = .func (.func g) #[] #[] := by
  cases hfn with
  | fn _ _ ws hl0 _ =>
   have : ws = #[] := Array.eq_empty_of_size_eq_zero (by simpa using hl0)
   rw [this]
 have hvs' : vs = #[v0, v1] := by
  have h2 : vs.size = 2 := hvs
  apply Array.ext_getElem?
  intro i
  match i with
  | 0 => simpa using hv0
  | 1 => simpa using hv1
  | i + 2 => rw [Array.getElem?_eq_none (by omega)]; simp
 rw [hvs', hf1]
 rcases hown with ⟨rfl, hnil⟩ | ⟨b, off, cap, cc, el, hb1, hb2, hb3, hb4, hb5, hb6, hb7, hb8, hb9⟩
 ·have hl0 : l = [] := by simpa using hnil
  have hd0 : d'.toList = [] := by rw [hl0] at hperm; exact hperm.eq_nil
  refine (AnyF.slices_SortFunc_none L none 0 (.func (.func g) #[] #[]) w).mono ?_
  rintro e w' ⟨rfl, rfl⟩
  refine ⟨G, .tuple #[], .slice none 0 0, rfl, hkey, hol, .refl G _, .inl ⟨rfl, by rw [hd0]; rfl⟩, fun h => (by cases h), fun _ => ⟨by simp, .tup [] #[] rfl fun n x v hx => by simp at hx⟩⟩
 ·rw [q3u] at hb8 hb9
  have hblk : b < w.heap.size := by
   rcases Nat.lt_or_ge b w.heap.size with h | h
   ·exact h
   ·rw [Array.getElem?_eq_none h] at hb5; cases hb5
  have hlen : (l.map fun x => AVal.agg (c x)).length = l.length := by simp
  rw [hlen] at hb1 hb2
  have hroom : off + l.length * k ≤ cc.size := by
   have := Nat.mul_le_mul_right k hb2
   omega
  let enc : τ → List Value := fun x => (c x).map con
  have hek : ∀ x, (enc x).length = k := fun x => by simp [enc, hk]
  have he1 : ∀ x, ∀ v ∈ enc x, v.oneCell' = true := fun x v hv => by
   obtain ⟨y, hy, rfl⟩ := List.mem_map.1 hv
   exact con_one (hcon x y hy)
  have cellv : ∀ (m : Array τ) (t : Nat), t < m.size * k → ∃ (x : τ) (y : AVal), m.toList[t / k]? = some x ∧ (c x)[t % k]? = some y ∧ (m.toList.flatMap c)[t]? = some y ∧ (flatK enc k m)[t]! = con y := by
   intro m t ht
   have h1 : t / k < m.size := Nat.div_lt_of_lt_mul (by rw [Nat.mul_comm]; exact ht)
   have h2 : t % k < k := Nat.mod_lt _ h0k
   have hx : m.toList[t / k]? = some m[t / k] := by simp [h1]
   have hy : (c m[t / k])[t % k]? = some ((c m[t / k])[t % k]'(by rw [hk]; exact h2)) := by simp [hk, h2]
   refine ⟨m[t / k], _, hx, hy, ?_, ?_⟩
   ·rw [← hy, ← qac hk hx h2, Nat.mul_comm, Nat.div_add_mod]
   ·rw [get_flatK _ _ _ _ ht, getElem!_pos m _ h1, getElem!_pos (enc m[t / k]) _ (by rw [hek]; exact h2)]
    simp [enc]
  have hH : HoldsK enc k w b off d := by
   intro t ht
   rw [size_flatK, hds] at ht
   obtain ⟨x, y, e1, e2, e3, e4⟩ := cellv d t (by rw [hds]; exact ht)
   obtain ⟨u, hu, hr⟩ := hb9 t y (by simpa [d] using e3)
   have hx := hcon x y (List.mem_of_getElem? e2)
   refine ⟨?_, ?_⟩
   ·rw [q35 hb5, hu, con_of hx hr, e4]; rfl
   ·simp [World.frozen?, hb5]
  have hlays : CmpLays P g #[] enc k cf b off d.size w := by
   intro m os dk hdk x y
   have hE := (hcmp x y).2 (fun _ => False) (sortWorldK enc k w b off m dk os) #[.agg (enc x).toArray, .agg (enc y).toArray] { G with ow := fun _ => none } (fun _ => rfl) rfl (fun i z v hz hv => ?_) (fun _ h => h.elim)
   ·refine hE.mono ?_
    rintro e w' ⟨G', v', hG', hA, he, hr⟩
    cases hr
    exact ⟨he, hA.grown (fun _ => rfl)⟩
   ·have hone : ∀ x : τ, VR (Dm NoM) { G with ow := fun _ => none } (fun _ => False) (sortWorldK enc k w b off m dk os) (.agg (c x)) (.agg (enc x).toArray) := fun x => by
     refine .agg _ _ (by simp [enc]) fun n z v hz hv => ?_
     simp only [enc, List.getElem?_toArray, List.getElem?_map, hz, Option.map_some, Option.some.injEq] at hv
     subst hv
     exact con_VR (hcon x z (List.mem_of_getElem? hz))
    match i with
    | 0 => simp at hz hv; subst hz; subst hv; exact hone x
    | 1 => simp at hz hv; subst hz; subst hv; exact hone y
    | i + 2 => simp at hz
  have eg : ∀ args w, (callFunc g args).run P w = .ok (.enter g args) w := fun args w => by
   obtain ⟨fn, hfn, hnm, hbd⟩ := (hcmp default default).1.ok
   have e1 : (fn.name = "runtime.NumGoroutine") = False := by simpa using hnm
   have e2 : (fn.body = none) = False := by simp only [eq_iff_iff, iff_false]; intro hn; rw [hn] at hbd; simp at hbd
   simp [callFunc, hfn, e1, e2]
  have hmain := AnyQ.slices_SortFunc_eq L k aE zE enc hek he1 cf hO g #[] b off cap d w eg hlays hH hblk (by rw [hds]; exact hl)
  rw [hb1, show l.length = d.size by rw [hds]]
  refine hmain.mono ?_
  rintro e w' ⟨rfl, n, os, hw'⟩
  have hw0 : ∀ b', b' < w.heap.size → w'.heap[b']? = if b' = b then some (.cells (putCells id off (flatK enc k d') cc) el (0, 0)) else w.heap[b']? := by
   intro b' hb'
   rw [hw']
   simp only [sortWorldK, grow, putRowK, putRow, mapBlock, Sort.ahead]
   rw [Array.getElem?_append_left (by simpa using hb'), Array.getElem?_modify]
   by_cases hbb : b = b'
   ·subst hbb
    rw [if_pos rfl, if_pos rfl, hb5]
    rfl
   ·rw [if_neg hbb, if_neg (Ne.symm hbb)]
  have hsize : w.heap.size ≤ w'.heap.size := by
   rw [hw']
   simp [sortWorldK, grow, putRowK, putRow, mapBlock, Sort.ahead]
  have hkeep : ∀ b', b' < w.heap.size → G.ow b' = none → w'.heap[b']? = w.heap[b']? ∧ G.ow b' = none := fun b' hb' ho => by
   refine ⟨?_, ho⟩
   rw [hw0 b' hb', if_neg]
   rintro rfl
   rw [hb3] at ho; cases ho
  have hA : Adv G w G w' := ⟨by rw [hw']; exact ⟨rfl, Nat.le_add_right _ _⟩, by rw [hw']; rfl, by rw [hw']; rfl, hsize, hkeep⟩
  refine ⟨G, .tuple #[], v0, rfl, hkey, fun b' hb' => Nat.lt_of_lt_of_le (hol b' hb') hsize, hA, .inr ⟨b, off, cap, putCells id off (flatK enc k d') cc, el, ?_, ?_, hb3, hb4, ?_, ?_, ?_, ?_, ?_⟩, fun h => (by cases h), fun _ => ⟨by simp [hb1, hds], .tup [] #[] rfl fun n x v hx => by simp at hx⟩⟩
  ·rw [hb1]; simp [hsz', hds]
  ·simp only [List.length_map, Array.length_toList, hsz', hds]; exact hb2
  ·rw [hw0 b hblk, if_pos rfl]
  ·simp only [putCells, Array.size_mapIdx]; exact hb6
  ·intro x hx
   obtain ⟨z, _, rfl⟩ := List.mem_map.1 hx
   exact hk z
  ·intro x hx
   rw [q3u] at hx
   obtain ⟨z, _, hz⟩ := List.mem_flatMap.1 hx
   exact con_AOne (hcon z x hz)
  ·intro t x hx
   rw [q3u] at hx
   have htl : t < d'.size * k := by
    have h1 : t < (d'.toList.flatMap c).length := by
     rcases Nat.lt_or_ge t (d'.toList.flatMap c).length with h | h
     ·exact h
     ·rw [List.getElem?_eq_none h] at hx; cases hx
    rwa [← q3u, q0q (sz := k) (fun y hy => by obtain ⟨z, _, rfl⟩ := List.mem_map.1 hy; exact hk z), List.length_map, Array.length_toList] at h1
   obtain ⟨z, y, e1, e2, e3, e4⟩ := cellv d' t htl
   rw [hx] at e3
   cases e3
   have hlt : off + t < cc.size := by rw [hsz', hds] at htl; omega
   refine ⟨con x, ?_, con_VR (hcon z x (List.mem_of_getElem? e2))⟩
   simp only [putCells, Array.getElem?_mapIdx, Array.getElem?_eq_getElem hlt, Option.map_some]
   rw [if_pos ⟨by omega, by rw [size_flatK]; omega⟩, show off + t - off = t by omega, e4]
   rfl
end
end
theorem qez {K : Nat → Bool} {x : AVal} (h : x.stb = true) : x.noC K = true := by
 have h' := q20 (K := K) h
 cases x <;> first | exact h' | exact absurd h (by simp [AVal.stb])
theorem qbk (K : Nat → Bool) {cs : List AVal} (h : q0k cs = true) : (ABlk.cells cs).no K = true := by
 simp only [ABlk.no, List.all_eq_true]
 exact fun x hx => qez (q8y h x hx)
def zmy : AVal → Bool
 | .own _ xs => q0k xs
 | .hole => true
 | x => x.stb
def qqr (cs : List AVal) : Bool := cs.all zmy
theorem z80 (K : Nat → Bool) {cs : List AVal} (h : qqr cs = true) : (ABlk.cells cs).no K = true := by
 simp only [ABlk.no, List.all_eq_true]
 intro x hx
 have := List.all_eq_true.1 h x hx
 cases x <;> first | exact qez this | rfl | skip
 case own sz xs =>
  simp only [AVal.noC, List.all_eq_true]
  exact fun y hy => q20 (q4b this y hy)
def frz : AVal → AVal
 | .own sz xs => .sl sz xs
 | .hole => .undef
 | x => x
def qox (k : Nat) : OKey → Bool
 | .cell k' _ => k' == k
 | _ => false
theorem Wk.freeze {n : Nat} {T : q1y} {M : Mem} {k : Nat} {cs : List AVal} (hk : M k = some (.cells cs)) : Wk n ⟨T, M⟩ ⟨T, upd M k (some (.cells (cs.map frz)))⟩ := by
 intro B G a w hR
 obtain ⟨c, el, b1, b2, b3, b4, b5⟩ := hR.mem k _ hk
 let G' : Gh := { G with ow := fun b => match G.ow b with | some key => if qox k key = true then none else some key | none => none }
 have g0 : ∀ b, G.ow b = none → G'.ow b = none := fun b hb => by simp [G', hb]
 have hA : Adv G w G' w := ⟨⟨rfl, Nat.le_refl _⟩, rfl, rfl, Nat.le_refl _, fun b _ ho => ⟨rfl, g0 b ho⟩⟩
 have hD : ∀ j e, Dm M j e → Dm (upd M k (some (.cells (cs.map frz)))) j e := fun j e => q5c (by rw [hk]; trivial)
 have hw : ∀ b, b < w.heap.size → ¬ B b → G.ow b = none → w.heap[b]? = w.heap[b]? ∧ ¬ B b ∧ G'.ow b = none := fun b _ hn ho => ⟨rfl, hn, g0 b ho⟩
 refine ⟨G', hR.update hA k (.cells (cs.map frz)) (by show zag (M k) _; rw [hk]; trivial) (fun _ _ _ => ⟨rfl, rfl⟩) (fun b key _ _ ho hne => ⟨rfl, ?_⟩) (fun b hb => hR.ol b fun hn => hb (g0 b hn)) ?_, hA⟩
 ·have : qox k key = false := by cases key <;> simp_all [qox, OKey.of]
  simp [G', ho, this]
 ·refine ⟨c, el, by simp [G', b1, qox], b2, b3, by simp [b4], fun i y hy => ?_⟩
  rw [List.getElem?_map] at hy
  cases hx : cs[i]? with
  | none => simp [hx] at hy
  | some x =>
   simp only [hx, Option.map_some, Option.some.injEq] at hy
   subst hy
   obtain ⟨u, hu, hr⟩ := b5 i x hx
   refine ⟨u, hu, ?_⟩
   cases x with
   | own sz xs =>
    show VR _ G' B w (.sl sz xs) u
    rcases hr with ⟨rfl, rfl⟩ | ⟨b, o, cap, cc, ell, h1, h2, h3, h4, h5, h6, h7, h7', h8⟩
    ·exact .slnil sz
    ·rw [h1]
     refine .sl sz xs b o cap (fun m => cc.getD (o + m) undef) h2 (fun _ => ⟨h4, by simp [G', h3, qox]⟩) h7' h7 (fun m x hx => ?_) (fun m x hx => ?_)
     ·obtain ⟨v, hv, _⟩ := h8 m x hx
      rw [q35 h5, hv]
      simp [hv]
     ·obtain ⟨v, hv, hvr⟩ := h8 m x hx
      have : cc.getD (o + m) undef = v := by simp [hv]
      simp only [this]
      exact VR.mono (G := G) (G' := G') (w := w) (w' := w) (B := B) hD (fun _ _ _ => ⟨rfl, rfl⟩) hw hvr
   | hole => exact .undef _
   | _ => exact VR.mono (G := G) (G' := G') (w := w) (w' := w) (B := B) hD (fun _ _ _ => ⟨rfl, rfl⟩) hw hr

def qya : List SOp := [⟨some 2,.assign (.const (.slice none 0 0)),none⟩]
instance : Live qya := ⟨[0]⟩
def qy9 : List SOp := [⟨some 3,.move (.tmp 0),none⟩,⟨some 4,.buildSlice 223 1 #[(0,.tmp 3)],none⟩,⟨some 5,.call ⟨.value (.func 169),#[.tmp 4],#[223]⟩,none⟩,⟨some 2,.assign (.tmp 5),none⟩]
instance : Live qy9 := ⟨[0]⟩
def t_k156 : SC :=
 (.seq (.ops false qya) (.seq (.ops false qy9) .ret))
theorem it_k156 : FnIs Tryz.prog 156 6 [.tmp 2] t_k156 := ⟨Tryz.f156, _, Tryz.func156, rfl, rfl, rfl, rfl, by kernel_rfl⟩

theorem z9o (l m : List Rn) (hU : Ev (En Tryz.prog rfl).P 169 [.sl 1 [.sl 2 (q06 l)]] (.ret (.sl 2 (q06 m)))) : Ev (En Tryz.prog rfl).P 156 [.sl 2 (q06 l)] (.ret (.sl 2 (q06 m))) := by
 refine Ev.of_body it_k156 (by simp) (Run.start ?_)
 unfold t_k156
 (have hF := True.intro; refine q1i (k:=?_); clear hF)
 refine q2p (l := [.sl 1 [.sl 2 (q06 l)]]) rfl rfl (by simp [q0k, AVal.stb, q08]) hU ?_
 (have hF := True.intro; refine q1i (k:=?_); clear hF)
 exact Fin.tmp' rfl (q08 m)

def zc5 : List SOp := [⟨some 2,.assign (.const (.pointer none)),none⟩]
instance : Live zc5 := ⟨[0]⟩
def zc4 : List SOp := [⟨some 9,.build 151 #[],none⟩,⟨some 10,.box 151 (.tmp 9),none⟩,⟨some 3,.assign (.tmp 10),none⟩]
instance : Live zc4 := ⟨[0]⟩
def zc3 : List SOp := [⟨some 11,.move (.tmp 0),none⟩,⟨some 12,.call ⟨.builtin .len,#[.tmp 11],#[116]⟩,none⟩,⟨some 13,.move (.const (.int .i64 0)),none⟩]
instance : Live zc3 := ⟨[0,3]⟩
def zc2 : List SOp := [⟨some 14,.binOp .lss 3 (.tmp 13) (.tmp 12) 3,none⟩]
instance : Live zc2 := ⟨[3,11,12,13]⟩
def zc1 : List SOp := [⟨some 15,.indexAddr 116 (.tmp 11) (.tmp 13),none⟩,⟨some 16,.load 26 (.tmp 15),none⟩,⟨some 5,.alloc 26,none⟩,⟨none,.store 26 (.tmp 5) (.tmp 16),none⟩]
instance : Live zc1 := ⟨[3,11,12,13]⟩
def zc0 : List SOp := [⟨some 17,.fieldAddr 26 (.tmp 5) 0,none⟩,⟨some 18,.load 23 (.tmp 17),none⟩,⟨some 19,.call ⟨.builtin .len,#[.tmp 18],#[23]⟩,none⟩,⟨some 20,.call ⟨.builtin .min,#[.tmp 19,.const (.int .i64 16)],#[3,3]⟩,none⟩,⟨some 21,.move (.const (.int .i64 0)),none⟩]
instance : Live zc0 := ⟨[3,5,11,12,13]⟩
def zbz : List SOp := [⟨some 22,.binOp .lss 3 (.tmp 21) (.tmp 20) 3,none⟩]
instance : Live zbz := ⟨[3,5,11,12,13,20,21]⟩
def zby : List SOp := [⟨some 23,.move (.tmp 21),none⟩,⟨some 6,.assign (.tmp 23),none⟩]
instance : Live zby := ⟨[3,5,11,12,13,20,21]⟩
def qpq : List SOp := [⟨some 24,.move (.tmp 3),none⟩,⟨some 25,.move (.tmp 6),none⟩,⟨some 26,.move (.tmp 3),none⟩,⟨some 27,.move (.tmp 6),none⟩,⟨some 28,.nilCheck (.tmp 26),none⟩,⟨some 29,.indexAddr 151 (.tmp 28) (.tmp 27),none⟩,⟨some 30,.load 149 (.tmp 29),none⟩,⟨some 31,.fieldAddr 26 (.tmp 5) 0,none⟩,⟨some 32,.load 23 (.tmp 31),none⟩,⟨some 33,.move (.tmp 6),none⟩,⟨some 34,.indexAddr 23 (.tmp 32) (.tmp 33),none⟩,⟨some 35,.load 3 (.tmp 34),none⟩,⟨some 36,.build 179 #[(0,.const (.int .i64 1)),(1,.tmp 35)],none⟩,⟨some 37,.buildSlice 149 1 #[(0,.tmp 36)],none⟩,⟨some 38,.call ⟨.builtin .append,#[.tmp 30,.tmp 37],#[149,149]⟩,none⟩,⟨some 39,.nilCheck (.tmp 24),none⟩,⟨some 40,.indexAddr 151 (.tmp 39) (.tmp 25),none⟩,⟨none,.store 149 (.tmp 40) (.tmp 38),none⟩]
instance : Live qpq := ⟨[3,5,6,11,12,13,20,21]⟩
instance : Rd qpq := ⟨fun j => j == 5⟩
def qsk : List SOp := [⟨some 41,.binOp .add 3 (.tmp 21) (.const (.int .i64 1)) 3,none⟩,⟨some 21,.move (.tmp 41),none⟩]
instance : Live qsk := ⟨[3,5,11,12,13,20,21]⟩
def qsj : List SOp := [⟨some 42,.fieldAddr 26 (.tmp 5) 1,none⟩,⟨some 43,.load 24 (.tmp 42),none⟩,⟨some 44,.call ⟨.builtin .len,#[.tmp 43],#[24]⟩,none⟩,⟨some 45,.move (.const (.int .i64 0)),none⟩]
instance : Live qsj := ⟨[3,5,11,12,13]⟩
def qsi : List SOp := [⟨some 46,.binOp .lss 3 (.tmp 45) (.tmp 44) 3,none⟩]
instance : Live qsi := ⟨[3,11,12,13,43,44,45]⟩
def qsh : List SOp := [⟨some 47,.indexAddr 24 (.tmp 43) (.tmp 45),none⟩,⟨some 48,.load 127 (.tmp 47),none⟩,⟨some 8,.alloc 127,none⟩,⟨none,.store 127 (.tmp 8) (.tmp 48),none⟩]
instance : Live qsh := ⟨[3,11,12,13,43,44,45]⟩
def qsg : List SOp := [⟨some 49,.fieldAddr 127 (.tmp 8) 0,none⟩,⟨some 50,.load 3 (.tmp 49),none⟩,⟨some 51,.binOp .geq 3 (.tmp 50) (.const (.int .i64 0)) 3,none⟩,⟨some 52,.move (.tmp 51),none⟩,⟨some 53,.fieldAddr 127 (.tmp 8) 0,some ((some 52),true)⟩,⟨some 54,.load 3 (.tmp 53),some ((some 52),true)⟩,⟨some 55,.binOp .lss 3 (.tmp 54) (.const (.int .i64 16)) 3,some ((some 52),true)⟩,⟨some 56,.pick (.tmp 52) (.tmp 55) (.const (.bool false)),none⟩]
instance : Live qsg := ⟨[3,8,11,12,13,43,44,45]⟩
def qg4 : List SOp := [⟨some 57,.move (.tmp 3),none⟩,⟨some 58,.fieldAddr 127 (.tmp 8) 0,none⟩,⟨some 59,.load 3 (.tmp 58),none⟩,⟨some 60,.move (.tmp 3),none⟩,⟨some 61,.fieldAddr 127 (.tmp 8) 0,none⟩,⟨some 62,.load 3 (.tmp 61),none⟩,⟨some 63,.nilCheck (.tmp 60),none⟩,⟨some 64,.indexAddr 151 (.tmp 63) (.tmp 62),none⟩,⟨some 65,.load 149 (.tmp 64),none⟩,⟨some 66,.fieldAddr 127 (.tmp 8) 1,none⟩,⟨some 67,.load 3 (.tmp 66),none⟩,⟨some 68,.fieldAddr 127 (.tmp 8) 2,none⟩,⟨some 69,.load 3 (.tmp 68),none⟩,⟨some 70,.build 179 #[(0,.tmp 67),(1,.tmp 69)],none⟩,⟨some 71,.buildSlice 149 1 #[(0,.tmp 70)],none⟩,⟨some 72,.call ⟨.builtin .append,#[.tmp 65,.tmp 71],#[149,149]⟩,none⟩,⟨some 73,.nilCheck (.tmp 57),none⟩,⟨some 74,.indexAddr 151 (.tmp 73) (.tmp 59),none⟩,⟨none,.store 149 (.tmp 74) (.tmp 72),none⟩]
instance : Live qg4 := ⟨[3,8,11,12,13,43,44,45]⟩
instance : Rd qg4 := ⟨fun j => j == 8⟩
def qsf : List SOp := [⟨some 75,.binOp .add 3 (.tmp 45) (.const (.int .i64 1)) 3,none⟩,⟨some 45,.move (.tmp 75),none⟩]
instance : Live qsf := ⟨[3,11,12,13,43,44,45]⟩
def qse : List SOp := [⟨some 76,.binOp .add 3 (.tmp 13) (.const (.int .i64 1)) 3,none⟩,⟨some 13,.move (.tmp 76),none⟩]
instance : Live qse := ⟨[3,11,12,13]⟩
def qsd : List SOp := [⟨some 77,.move (.tmp 3),none⟩,⟨some 2,.assign (.tmp 77),none⟩]
instance : Live qsd := ⟨[3]⟩
def qba : SC :=
 (.seq (.ops false zbz) (.seq (.cond (.tmp 22) .skip (.exit 2)) (.seq (.block 3 (.seq (.ops false zby) (.opsW [30] qpq))) (.ops false qsk))))
def qb9 : SC :=
 (.seq (.ops false qsi) (.seq (.cond (.tmp 46) .skip (.exit 4)) (.seq (.block 5 (.seq (.ops false qsh) (.seq (.ops false qsg) (.cond (.tmp 56) (.opsW [65] qg4) .skip)))) (.ops false qsf))))
def q8x : SC :=
 (.seq (.ops false zc2) (.seq (.cond (.tmp 14) .skip (.exit 0)) (.seq (.block 1 (.seq (.ops false zc1) (.seq (.seq (.ops false zc0) (.block 2 (.loop qba))) (.seq (.ops false qsj) (.block 4 (.loop qb9)))))) (.ops false qse))))
def t_k96 : SC :=
 (.seq (.ops false zc5) (.seq (.ops false zc4) (.seq (.seq (.ops false zc3) (.block 0 (.loop q8x))) (.seq (.ops false qsd) .ret))))
theorem it_k96 : FnIs Tryz.prog 96 78 [.tmp 2] t_k96 := ⟨Tryz.f96, _, Tryz.func96, rfl, rfl, rfl, rfl, by kernel_rfl⟩

abbrev Sn := Int × Int × Int
def qqj (s : Sn) : AVal := .agg [.int .i64 s.1, .int .i64 s.2.1, .int .i64 s.2.2]
def q0d (l : List Sn) : List AVal := l.map qqj
theorem q04 (l : List Sn) : q0k (q0d l) = true := q46 fun _ => rfl
theorem q1e (l : List Sn) : (q0d l).length = l.length := by simp [q0d]
theorem q2c {l : List Sn} {i : Nat} {r : Sn} (h : l[i]? = some r) : (q0d l)[i]? = some (qqj r) := by simp [q0d, h]
theorem q0v {l : List Int} {i : Nat} {r : Int} (h : l[i]? = some r) : (q05 l)[i]? = some (.int .i64 r) := by simp [q05, h, encI]
structure Pst where
 vec : List Int
 cloud : List Sn
def q0f (p : Pst) : AVal := .agg [.sl 1 (q05 p.vec), .sl 3 (q0d p.cloud)]
def q1k (l : List Pst) : List AVal := l.map q0f
theorem q13 (p : Pst) : (q0f p).stb = true := by simp [q0f, AVal.stb, q0k, q03, q04]
theorem q0e (l : List Pst) : q0k (q1k l) = true := q46 q13
theorem q9l (l : List Pst) : (q1k l).length = l.length := by simp [q1k]
theorem qdn {l : List Pst} {i : Nat} {r : Pst} (h : l[i]? = some r) : (q1k l)[i]? = some (q0f r) := by simp [q1k, h]
abbrev Tab := List (List Rn)
def q4p (t : Tab) : List AVal := t.map fun l => .own 2 (q06 l)
theorem qh7 (t : Tab) : (q4p t).length = t.length := by simp [q4p]
def q6d (t : Tab) (r : Nat) (x : Rn) : Tab := t.set r (t.getD r [] ++ [x])
theorem q9u (t : Tab) (r : Nat) (x : Rn) : (q6d t r x).length = t.length := by simp [q6d]
theorem qh8 {t : Tab} {r : Nat} (h : r < t.length) : (q4p t)[r]? = some (.own 2 (q06 (t.getD r []))) := by
 simp [q4p, h]
theorem qdl {t : Tab} {r : Nat} (h : r < t.length) : ((q4p t).set r .hole)[r]? = some .hole := by
 simp [q4p, h]
theorem qh9 {t : Tab} {r : Nat} (h : r < t.length) (x : Rn) : ((q4p t).set r .hole).set r (.own 2 (q06 (t.getD r []) ++ [.agg [.int .i64 x.1, .int .i64 x.2]])) = q4p (q6d t r x) := by
 rw [List.set_set]
 simp [q4p, q6d, q06, q3v, List.map_set]
theorem q2r (K : Nat → Bool) (t : Tab) : (ABlk.cells (q4p t)).no K = true := by
 simp only [ABlk.no, List.all_eq_true]
 intro x hx
 obtain ⟨l, _, rfl⟩ := List.mem_map.1 hx
 simp only [AVal.noC, List.all_eq_true]
 intro y hy
 exact q20 (q4b (q08 l) y hy)
def q1q (v : List Int) (i : Nat) : Int := v.getD i 0
def q3k (v : List Int) (t : Tab) (i : Nat) : Tab := q6d t i (1, q1q v i)
def q5b (v : List Int) (t : Tab) : Tab := (List.range (min v.length 16)).foldl (q3k v) t
def putSn (t : Tab) (s : Sn) : Tab := if 0 ≤ s.1 ∧ s.1 < 16 then q6d t s.1.toNat s.2 else t
def q4a (c : List Sn) (t : Tab) : Tab := c.foldl putSn t
def q1n (t : Tab) (p : Pst) : Tab := q4a p.cloud (q5b p.vec t)
def q6e : Tab := List.replicate 16 []
def q0l (ps : List Pst) : Tab := ps.foldl q1n q6e
def TabLe (t : Tab) (n : Nat) : Prop := t.length = 16 ∧ ∀ r, (t.getD r []).length ≤ n
theorem TabLe.add {t : Tab} {n : Nat} (h : TabLe t n) (r : Nat) (x : Rn) : TabLe (q6d t r x) (n + 1) := by
 refine ⟨by rw [q9u, h.1], fun q => ?_⟩
 unfold q6d
 rw [List.getD_eq_getElem?_getD, List.getElem?_set]
 split
 ·split
  ·simp; exact h.2 r
  ·simp
 ·have := h.2 q
  rw [List.getD_eq_getElem?_getD] at this
  omega
theorem TabLe.mono {t : Tab} {n m : Nat} (h : TabLe t n) (hm : n ≤ m) : TabLe t m := ⟨h.1, fun r => Nat.le_trans (h.2 r) hm⟩
theorem TabLe.range {v : List Int} {t : Tab} {n : Nat} (h : TabLe t n) : ∀ i, TabLe ((List.range i).foldl (q3k v) t) (n + i)
 | 0 => h
 | i + 1 => by
  rw [List.range_succ, List.foldl_append]
  exact (TabLe.range h i).add i _
theorem TabLe.putSn {t : Tab} {n : Nat} (h : TabLe t n) (s : Sn) : TabLe (putSn t s) (n + 1) := by
 unfold Avm.putSn
 split
 ·exact h.add _ _
 ·exact h.mono (by omega)
theorem TabLe.cloud {t : Tab} {n : Nat} (h : TabLe t n) : ∀ c : List Sn, TabLe (c.foldl Avm.putSn t) (n + c.length)
 | [] => h
 | s :: c => by
  have := TabLe.cloud (h.putSn s) c
  simp only [List.foldl_cons, List.length_cons]
  exact this.mono (by omega)
def wt (p : Pst) : Nat := p.vec.length + p.cloud.length
theorem TabLe.one {t : Tab} {n : Nat} (h : TabLe t n) (p : Pst) : TabLe (q1n t p) (n + wt p) := by
 have := ((TabLe.range (v := p.vec) h (min p.vec.length 16))).cloud p.cloud
 exact this.mono (by unfold wt; omega)
theorem TabLe.all {t : Tab} {n : Nat} (h : TabLe t n) : ∀ ps : List Pst, TabLe (ps.foldl q1n t) (n + (ps.map wt).sum)
 | [] => h
 | p :: ps => by
  have := TabLe.all (h.one p) ps
  simp only [List.foldl_cons, List.map_cons, List.sum_cons]
  exact this.mono (by omega)
theorem q9x : TabLe q6e 0 := ⟨rfl, fun r => by
 unfold q6e
 rw [List.getD_eq_getElem?_getD, List.getElem?_replicate]
 split <;> simp⟩
theorem q8i {l : List Nat} (i : Nat) : (l.take i).sum ≤ l.sum := by
 induction l generalizing i with
 | nil => simp
 | cons x l ih => cases i with
  | zero => simp
  | succ i => simp only [List.take_succ_cons, List.sum_cons]; have := ih i; omega

def qvy : List SOp := [⟨some 2,.assign (.const (.slice none 0 0)),none⟩]
instance : Live qvy := ⟨[0]⟩
def qvx : List SOp := [⟨some 3,.assign (.const (.slice none 0 0)),none⟩]
instance : Live qvx := ⟨[0]⟩
def qvw : List SOp := [⟨some 13,.move (.tmp 0),none⟩,⟨some 14,.call ⟨.builtin .len,#[.tmp 13],#[223]⟩,none⟩,⟨some 15,.move (.const (.int .i64 0)),none⟩]
instance : Live qvw := ⟨[0,3]⟩
def qvv : List SOp := [⟨some 16,.binOp .lss 3 (.tmp 15) (.tmp 14) 3,none⟩]
instance : Live qvv := ⟨[3,13,14,15]⟩
def qvu : List SOp := [⟨some 17,.indexAddr 223 (.tmp 13) (.tmp 15),none⟩,⟨some 18,.load 149 (.tmp 17),none⟩,⟨some 5,.assign (.tmp 18),none⟩]
instance : Live qvu := ⟨[3,13,14,15]⟩
def qvt : List SOp := [⟨some 19,.move (.tmp 5),none⟩,⟨some 20,.call ⟨.builtin .len,#[.tmp 19],#[149]⟩,none⟩,⟨some 21,.move (.const (.int .i64 0)),none⟩]
instance : Live qvt := ⟨[3,5,13,14,15]⟩
def qvs : List SOp := [⟨some 22,.binOp .lss 3 (.tmp 21) (.tmp 20) 3,none⟩]
instance : Live qvs := ⟨[3,13,14,15,19,20,21]⟩
def qvr : List SOp := [⟨some 23,.indexAddr 149 (.tmp 19) (.tmp 21),none⟩,⟨some 24,.load 179 (.tmp 23),none⟩,⟨some 7,.alloc 179,none⟩,⟨none,.store 179 (.tmp 7) (.tmp 24),none⟩]
instance : Live qvr := ⟨[3,13,14,15,19,20,21]⟩
def qvq : List SOp := [⟨some 26,.load 179 (.tmp 7),none⟩,⟨some 27,.call ⟨.value (.func 155),#[.tmp 26],#[179]⟩,none⟩,⟨some 25,.move (.tmp 27),none⟩,⟨some 28,.extract (.tmp 25) 0,none⟩,⟨some 29,.extract (.tmp 25) 1,none⟩,⟨some 8,.alloc 179,none⟩,⟨none,.store 179 (.tmp 8) (.tmp 28),none⟩,⟨some 9,.assign (.tmp 29),none⟩]
instance : Live qvq := ⟨[3,7,13,14,15,19,20,21]⟩
def qjm : List SOp := [⟨some 30,.move (.tmp 9),none⟩]
instance : Live qjm := ⟨[3,8,9,13,14,15,19,20,21]⟩
def qjl : List SOp := [⟨some 31,.move (.tmp 3),none⟩,⟨some 32,.load 179 (.tmp 8),none⟩,⟨some 33,.buildSlice 149 1 #[(0,.tmp 32)],none⟩,⟨some 34,.call ⟨.builtin .append,#[.tmp 31,.tmp 33],#[149,149]⟩,none⟩,⟨some 3,.assign (.tmp 34),none⟩]
instance : Live qjl := ⟨[3,8,13,14,15,19,20,21]⟩
def qjk : List SOp := [⟨some 35,.binOp .add 3 (.tmp 21) (.const (.int .i64 1)) 3,none⟩,⟨some 21,.move (.tmp 35),none⟩]
instance : Live qjk := ⟨[3,13,14,15,19,20,21]⟩
def qjj : List SOp := [⟨some 36,.binOp .add 3 (.tmp 15) (.const (.int .i64 1)) 3,none⟩,⟨some 15,.move (.tmp 36),none⟩]
instance : Live qjj := ⟨[3,13,14,15]⟩
def qji : List SOp := [⟨some 37,.move (.tmp 3),none⟩,⟨some 38,.call ⟨.value (.func 185),#[.tmp 37,.func 186],#[149,225]⟩,none⟩]
instance : Live qji := ⟨[3]⟩
def qjh : List SOp := [⟨some 10,.assign (.const (.slice none 0 0)),none⟩]
instance : Live qjh := ⟨[3]⟩
def qjg : List SOp := [⟨some 39,.move (.tmp 3),none⟩,⟨some 40,.call ⟨.builtin .len,#[.tmp 39],#[149]⟩,none⟩,⟨some 41,.move (.const (.int .i64 0)),none⟩]
instance : Live qjg := ⟨[3,10]⟩
def qjf : List SOp := [⟨some 42,.binOp .lss 3 (.tmp 41) (.tmp 40) 3,none⟩]
instance : Live qjf := ⟨[10,39,40,41]⟩
def qje : List SOp := [⟨some 43,.indexAddr 149 (.tmp 39) (.tmp 41),none⟩,⟨some 44,.load 179 (.tmp 43),none⟩,⟨some 12,.alloc 179,none⟩,⟨none,.store 179 (.tmp 12) (.tmp 44),none⟩]
instance : Live qje := ⟨[10,39,40,41]⟩
def qjd : List SOp := [⟨some 45,.move (.tmp 10),none⟩,⟨some 46,.load 179 (.tmp 12),none⟩,⟨some 47,.call ⟨.value (.func 187),#[.tmp 45,.tmp 46],#[149,179]⟩,none⟩,⟨some 10,.assign (.tmp 47),none⟩]
instance : Live qjd := ⟨[10,12,39,40,41]⟩
def qjc : List SOp := [⟨some 48,.binOp .add 3 (.tmp 41) (.const (.int .i64 1)) 3,none⟩,⟨some 41,.move (.tmp 48),none⟩]
instance : Live qjc := ⟨[10,39,40,41]⟩
def qjb : List SOp := [⟨some 49,.move (.tmp 10),none⟩,⟨some 2,.assign (.tmp 49),none⟩]
instance : Live qjb := ⟨[10]⟩
def qhx : SC :=
 (.seq (.ops false qvs) (.seq (.cond (.tmp 22) .skip (.exit 2)) (.seq (.block 3 (.seq (.ops false qvr) (.seq (.ops false qvq) (.seq (.ops false qjm) (.cond (.tmp 30) (.ops false qjl) .skip))))) (.ops false qjk))))
def qhy : SC :=
 (.seq (.ops false qvv) (.seq (.cond (.tmp 16) .skip (.exit 0)) (.seq (.block 1 (.seq (.ops false qvu) (.seq (.ops false qvt) (.block 2 (.loop qhx))))) (.ops false qjj))))
def qhw : SC :=
 (.seq (.ops false qjf) (.seq (.cond (.tmp 42) .skip (.exit 4)) (.seq (.block 5 (.seq (.ops false qje) (.ops false qjd))) (.ops false qjc))))
def t_k169 : SC :=
 (.seq (.ops false qvy) (.seq (.ops false qvx) (.seq (.seq (.ops false qvw) (.block 0 (.loop qhy))) (.seq (.ops false qji) (.seq (.ops false qjh) (.seq (.seq (.ops false qjg) (.block 4 (.loop qhw))) (.seq (.ops false qjb) .ret)))))))
theorem it_k169 : FnIs Tryz.prog 169 50 [.tmp 2] t_k169 := ⟨Tryz.f169, _, Tryz.func169, rfl, rfl, rfl, rfl, by kernel_rfl⟩

def quv : List SOp := [⟨some 5,.move (.tmp 0),none⟩,⟨some 6,.call ⟨.builtin .len,#[.tmp 5],#[149]⟩,none⟩,⟨some 4,.assign (.tmp 6),none⟩]
instance : Live quv := ⟨[0,1]⟩
def quu : List SOp := [⟨some 7,.move (.tmp 0),none⟩,⟨some 8,.move (.tmp 4),none⟩,⟨some 9,.move (.tmp 4),none⟩,⟨some 10,.convert 3 204 (.tmp 9),none⟩,⟨some 11,.call ⟨.value (.func 164),#[.tmp 10],#[204]⟩,none⟩,⟨some 12,.move (.tmp 1),none⟩,⟨some 13,.call ⟨.value (.func 196),#[.tmp 7,.const (.int .i64 0),.tmp 8,.tmp 11,.tmp 12],#[149,3,3,3,225]⟩,none⟩]
instance : Live quu := ⟨[0,1,4]⟩
def t_k185 : SC :=
 (.seq (.ops false quv) (.ops false quu))
theorem it_k185 : FnIs Tryz.prog 185 14 [] t_k185 := ⟨Tryz.f185, _, Tryz.func185, rfl, rfl, rfl, rfl, by kernel_rfl⟩

section
open Go.Proofs Go.Shelf Go.RowKit Go.Lib Go.Sort
def qd3 : Go.Shelf.Ren := ⟨fun | 6 => 185 | 15 => 164 | 14 => 196 | 28 => 182 | 29 => 183 | 20 => 198 | 21 => 199 | 22 => 200 | 23 => 201 | 24 => 202 | 25 => 203 | 26 => 204 | 27 => 205 | 46 => 206 | 47 => 189 | 48 => 190 | 49 => 207 | 50 => 208 | 57 => 209 | n => n, fun | 22 => 149 | 24 => 179 | 25 => 225 | 3 => 3 | 39 => 204 | 0 => 0 | 53 => 220 | 55 => 79 | 4 => 4 | 46 => 213 | 45 => 212 | 50 => 217 | 5 => 5 | 9 => 9 | 66 => 227 | 70 => 231 | 76 => 234 | 77 => 205 | n => n, fun | n => n⟩
theorem qpz : Go.Proofs.SlLaysF0.n6 Tryz.prog qd3 where
 mixed := by kernel_rfl
 f6 := ⟨Tryz.f185.name, by decide, Tryz.func185.trans (congrArg some (by kernel_rfl))⟩
 f14 := ⟨Tryz.f196.name, by decide, Tryz.func196.trans (congrArg some (by kernel_rfl))⟩
 f15 := Tryz.func164.trans (congrArg some (by kernel_rfl))
 f20 := ⟨Tryz.f198.name, by decide, Tryz.func198.trans (congrArg some (by kernel_rfl))⟩
 f21 := ⟨Tryz.f199.name, by decide, Tryz.func199.trans (congrArg some (by kernel_rfl))⟩
 f22 := ⟨Tryz.f200.name, by decide, Tryz.func200.trans (congrArg some (by kernel_rfl))⟩
 f23 := ⟨Tryz.f201.name, by decide, Tryz.func201.trans (congrArg some (by kernel_rfl))⟩
 f24 := ⟨Tryz.f202.name, by decide, Tryz.func202.trans (congrArg some (by kernel_rfl))⟩
 f25 := ⟨Tryz.f203.name, by decide, Tryz.func203.trans (congrArg some (by kernel_rfl))⟩
 f26 := ⟨Tryz.f204.name, by decide, Tryz.func204.trans (congrArg some (by kernel_rfl))⟩
 f27 := ⟨Tryz.f205.name, by decide, Tryz.func205.trans (congrArg some (by kernel_rfl))⟩
 f28 := Tryz.func182.trans (congrArg some (by kernel_rfl))
 f29 := Tryz.func183.trans (congrArg some (by kernel_rfl))
 f46 := ⟨Tryz.f206.name, by decide, Tryz.func206.trans (congrArg some (by kernel_rfl))⟩
 f47 := Tryz.func189.trans (congrArg some (by kernel_rfl))
 f48 := Tryz.func190.trans (congrArg some (by kernel_rfl))
 f49 := ⟨Tryz.f207.name, by decide, Tryz.func207.trans (congrArg some (by kernel_rfl))⟩
 f50 := ⟨Tryz.f208.name, by decide, Tryz.func208.trans (congrArg some (by kernel_rfl))⟩
 f57 := ⟨Tryz.f209.name, by decide, Tryz.func209.trans (congrArg some (by kernel_rfl))⟩
 t0 := Tryz.underlying0
 a0 := Tryz.isAgg0
 z0 := Tryz.sizeOf0
 v0 := Tryz.zeroValue0
 t3 := Tryz.underlying3
 a3 := Tryz.isAgg3
 z3 := Tryz.sizeOf3
 v3 := Tryz.zeroValue3
 t4 := Tryz.underlying4
 a4 := Tryz.isAgg4
 z4 := Tryz.sizeOf4
 v4 := Tryz.zeroValue4
 t5 := Tryz.underlying5
 a5 := Tryz.isAgg5
 z5 := Tryz.sizeOf5
 v5 := Tryz.zeroValue5
 t9 := Tryz.underlying9
 a9 := Tryz.isAgg9
 z9 := Tryz.sizeOf9
 v9 := Tryz.zeroValue9
 t22 := Tryz.underlying149
 a22 := Tryz.isAgg149
 z22 := Tryz.sizeOf149
 v22 := Tryz.zeroValue149
 t25 := Tryz.underlying225
 a25 := Tryz.isAgg225
 z25 := Tryz.sizeOf225
 v25 := Tryz.zeroValue225
 t39 := Tryz.underlying204
 a39 := Tryz.isAgg204
 z39 := Tryz.sizeOf204
 v39 := Tryz.zeroValue204
 t45 := Tryz.underlying212
 a45 := Tryz.isAgg212
 z45 := Tryz.sizeOf212
 v45 := Tryz.zeroValue212
 t46 := Tryz.underlying213
 a46 := Tryz.isAgg213
 z46 := Tryz.sizeOf213
 v46 := Tryz.zeroValue213
 t50 := Tryz.underlying217
 a50 := Tryz.isAgg217
 z50 := Tryz.sizeOf217
 v50 := Tryz.zeroValue217
 t53 := Tryz.underlying220
 a53 := Tryz.isAgg220
 z53 := Tryz.sizeOf220
 v53 := Tryz.zeroValue220
 t55 := Tryz.underlying79
 a55 := Tryz.isAgg79
 z55 := Tryz.sizeOf79
 v55 := Tryz.zeroValue79
 t66 := Tryz.underlying227
 a66 := Tryz.isAgg227
 z66 := Tryz.sizeOf227
 v66 := Tryz.zeroValue227
 t70 := Tryz.underlying231
 a70 := Tryz.isAgg231
 z70 := Tryz.sizeOf231
 v70 := Tryz.zeroValue231
 t76 := Tryz.underlying234
 a76 := Tryz.isAgg234
 z76 := Tryz.sizeOf234
 v76 := Tryz.zeroValue234
 t77 := Tryz.underlying205
 a77 := Tryz.isAgg205
 z77 := Tryz.sizeOf205
 v77 := Tryz.zeroValue205
end
section
open Go.Proofs Go.Shelf Go.RowKit Go.Lib Go.Sort
abbrev RnOk := { r : Rn // okR r }
instance : Inhabited RnOk := ⟨⟨(1, 1), by unfold okR; decide⟩⟩
theorem FnIs.callable {P : Program} {f : FuncId} {n : Nat} {rs : List ResultVar} {sc : SC} (h : FnIs P f n rs sc) : Callable P f := by
 obtain ⟨fn, c, h1, h2, h3, _⟩ := h
 exact ⟨⟨fn, h1, h2, by simp [h3]⟩⟩
theorem qq8 (l : List Rn) (hok : ∀ r ∈ l, okR r) (hl : l.length ≤ 1000000000) :
 ∃ s : List Rn, s.Perm l ∧ s.Pairwise leLo ∧ EvOwn (En Tryz.prog rfl).P 185 [.undef, .fn 186 []] 0 2 (q06 l) false (.tup []) (q06 s) := by
 have hlt : ∀ x y : RnOk, ltOf (fun x y : RnOk => x.1.1 - y.1.1) x y = decide (x.1.1 < y.1.1) := fun x y => by
  unfold ltOf
  simp only [decide_eq_decide]
  omega
 obtain ⟨s, h1, h2, h3⟩ := sortOwn (τ := RnOk) qpz (FnIs.callable it_k185) 2 (by decide) Tryz.isAgg179 Tryz.sizeOf179 (fun x => [.int .i64 x.1.1, .int .i64 x.1.2]) (fun _ => rfl)
  (fun x y hy => by simp at hy; rcases hy with rfl | rfl <;> rfl) (fun x y => x.1.1 - y.1.1)
  ⟨fun x => by rw [hlt]; simp, fun x y z h1 h2 => by rw [hlt] at *; simp at *; omega, fun x y z h1 h2 => by rw [hlt] at *; simp at *; omega⟩
  186 (fun x y => ev_k186 x.1 y.1 (by have := x.2; unfold okR at this; omega) (by have := y.2; unfold okR at this; omega)) (l.attachWith okR hok) (by simp; omega)
 refine ⟨s.map (·.1), ?_, ?_, ?_⟩
 ·have := h1.map (·.1)
  have e0 : (l.attachWith okR hok).map (·.1) = l := List.ext_getElem (by simp) (by simp)
  rw [e0] at this
  exact this
 ·rw [List.pairwise_map]
  refine h2.imp fun {a b} h => ?_
  rw [hlt] at h
  simp at h
  exact h
 ·have e1 : (l.attachWith okR hok).map (fun x => AVal.agg [.int .i64 x.1.1, .int .i64 x.1.2]) = q06 l := by
   have : (l.attachWith okR hok).map (fun x => AVal.agg [.int .i64 x.1.1, .int .i64 x.1.2]) = ((l.attachWith okR hok).map (·.1)).map q3v := by rw [List.map_map]; rfl
   rw [this]
   simp [q06]
  have e2 : s.map (fun x => AVal.agg [.int .i64 x.1.1, .int .i64 x.1.2]) = q06 (s.map (·.1)) := by
   rw [q06, List.map_map]; rfl
  rw [e1, e2] at h3
  exact h3
theorem qoa (r : Rn) : Ev (En Tryz.prog rfl).P 155 [q3v r] (.ret (.tup [.agg [.int .i64 (max r.1 1), .int .i64 (min r.2 1000000000)], .bool (decide (max r.1 1 ≤ min r.2 1000000000))])) := ev_k155 r
def q6r (ss : List (List Rn)) : List AVal := ss.map fun l => .sl 2 (q06 l)
theorem q56 (ss : List (List Rn)) : q0k (q6r ss) = true := q46 fun l => q08 l
theorem qqi (ss : List (List Rn)) : (q6r ss).length = ss.length := by simp [q6r]
theorem q69 (l : List Rn) (a b : Int) : q06 l ++ [.agg [.int .i64 a, .int .i64 b]] = q06 (l ++ [(a, b)]) := by simp [q06, q3v]
theorem qqp {l : List Rn} {i : Nat} {r : Rn} (h : l[i]? = some r) : q0s (l.take (i + 1)) = q0s (l.take i) ++ q0s [r] := by
 rw [List.take_add_one, h, q5q]
 rfl
theorem zms {r : Rn} (h : max r.1 1 ≤ min r.2 1000000000) : q0s [r] = [(max r.1 1, min r.2 1000000000)] := by rw [q7z, if_pos (show (q4m r).1 ≤ (q4m r).2 from h)]; rfl
theorem clips_no {r : Rn} (h : ¬ max r.1 1 ≤ min r.2 1000000000) : q0s [r] = [] := by rw [q7z, if_neg (show ¬ (q4m r).1 ≤ (q4m r).2 from h)]; rfl
theorem qo7 {α : Type} {ss : List (List α)} {i : Nat} {l : List α} (h : ss[i]? = some l) : (ss.take (i + 1)).flatten = (ss.take i).flatten ++ l := by
 rw [List.take_add_one, h]
 simp
theorem qqw {s : List Rn} (hs : s.Pairwise leLo) (hok : ∀ r ∈ s, okR r) (i : Nat) : Can ((s.take i).foldl qe5 []) :=
 (qan (out := []) (hs.sublist (List.take_sublist i s)) (fun r hr => hok r (List.mem_of_mem_take hr)) Can.nil (fun x hx => by cases hx)).1
theorem ev_k169 (ss : List (List Rn)) (hl : ss.length ≤ 900000000) (hw : ss.flatten.length ≤ 900000000) : Ev (En Tryz.prog rfl).P 169 [.sl 1 (q6r ss)] (.ret (.sl 2 (q06 (q0y ss.flatten)))) := by
 refine Ev.of_body it_k169 (by simp) (Run.start ?_)
 unfold t_k169
 have e0 := qqi ss
 (have hF := @e0; refine q01 (k:=?_); clear hF)
 refine Run.wk (Wk.own_nil 3 34 2 rfl rfl) ?_
 refine Run.while (σ := Nat) (fun i => ⟨tms [(3, .os 34 (q0s (ss.take i).flatten).length), (13, .sl 1 (q6r ss)), (14, .int .i64 ss.length), (15, .int .i64 i)], mms [(34, .arr (q0s (ss.take i).flatten).length 2 (q06 (q0s (ss.take i).flatten)))]⟩)
  (fun i => i ≤ ss.length) (fun i => ss.length - i) 0 (have hW := @q56; q0g) (Nat.zero_le _) ?_
 intro i hi
 unfold qhy
 by_cases hlt : i < ss.length
 ·obtain ⟨row, hrow⟩ : ∃ row, ss[i]? = some row := ⟨ss[i], by simp [hlt]⟩
  have e1 : (q6r ss)[i]? = some (.sl 2 (q06 row)) := by simp [q6r, hrow]
  have e2 := q0u row
  have hft := qo7 hrow
  have hrl : (ss.take (i + 1)).flatten.length ≤ ss.flatten.length := by
   have h := List.take_append_drop (i + 1) ss
   have h2 : ss.flatten = (ss.take (i + 1)).flatten ++ (ss.drop (i + 1)).flatten := by rw [← List.flatten_append, h]
   rw [h2]; simp
  have hrl2 : row.length ≤ ss.flatten.length := by rw [hft] at hrl; simp only [List.length_append] at hrl; omega
  generalize (ss.take i).flatten = acc at hft ⊢
  (have hF := (aI @e0 (aI @e1 @e2)); refine q01 (k:=?_); clear hF)
  refine Run.while (σ := Nat) (fun j => ⟨tms [(3, .os 34 (q0s (acc ++ row.take j)).length), (13, .sl 1 (q6r ss)), (14, .int .i64 ss.length), (15, .int .i64 i), (19, .sl 2 (q06 row)), (20, .int .i64 row.length), (21, .int .i64 j)], mms [(34, .arr (q0s (acc ++ row.take j)).length 2 (q06 (q0s (acc ++ row.take j))))]⟩)
   (fun j => j ≤ row.length) (fun j => row.length - j) 0 (have hW := @q56; q0g) (Nat.zero_le _) ?_
  intro j hj
  unfold qhx
  by_cases hjl : j < row.length
  ·obtain ⟨r, hr⟩ : ∃ r, row[j]? = some r := ⟨row[j], by simp [hjl]⟩
   have g1 : (q06 row)[j]? = some (.agg [.int .i64 r.1, .int .i64 r.2]) := q39 hr
   have hk : q0s (acc ++ row.take (j + 1)) = q0s (acc ++ row.take j) ++ q0s [r] := by rw [q5q, qqp hr, q5q, List.append_assoc]
   have hb : (q0s (acc ++ row.take j)).length ≤ 900000000 := by
    have h1 := q9p (acc ++ row.take j)
    have h2 : (acc ++ row.take j).length ≤ (acc ++ row).length := by simp only [List.length_append, List.length_take]; omega
    rw [← hft] at h2
    omega
   have g2 := q0u (q0s (acc ++ row.take j))
   (have hF := (aI (aI @e0 @e1) (aI @e2 @g1)); refine q01 (k:=?_); clear hF)
   refine q00 [q3v r] (he := qoa r) (k:=?_)
   (focus (have hF := (aI (aI @e0 (aI @e1 @e2)) (aI @g1 (aI @g2 @q69))); (repeat' (first | refine go1 (k:=?_) | with_reducible refine Ny.of ?_ ?_ | (refine Hyp.of ?_; intro hc; (try simp only [hc]); (try simp only [Bh] at hc)))); all_goals clear hF))
   ·have hk2 := hk.trans (by rw [zms hc])
    (refine Fin.nextW (j + 1) ?_ (have hW := (aI @hk2 @q56); q0g); (try dsimp only))
    omega
   ·have hk2 := hk.trans (by rw [clips_no hc, List.append_nil])
    (refine Fin.nextW (j + 1) ?_ (have hW := (aI @hk2 @q56); q0g); (try dsimp only))
    omega
  ·have hje : acc ++ row.take j = (ss.take (i + 1)).flatten := by rw [hft, show j = row.length by omega, List.take_length]
   rw [hje]
   (have hF := (aI @e0 (aI @e1 @e2)); refine q01 (k:=?_); clear hF)
   (refine Fin.nextW (i + 1) ?_ (have hW := @q56; q0g); (try dsimp only))
   omega
 ·have hie : (ss.take i).flatten = ss.flatten := by rw [show i = ss.length by omega, List.take_length]
  rw [hie]
  have hcl := q9p ss.flatten
  obtain ⟨s, hp, hs, hsort⟩ := qq8 (q0s ss.flatten) q9o (by omega)
  have hres := z72 hs hp
  have hok : ∀ r ∈ s, okR r := fun r hr => q9o r (hp.mem_iff.1 hr)
  have hlen := hp.length_eq
  rw [← hres]
  generalize q0s ss.flatten = c at *
  (have hF := @e0; refine q01 (k:=?_); clear hF)
  refine z86 (args' := [.undef, .fn 186 []]) 0 34 rfl rfl rfl rfl rfl (q08 _) (q08 s) rfl hsort ?_
  have g0 := q0u s
  (have hF := (aI @e0 @g0); refine q01 (k:=?_); clear hF)
  refine Run.wk (Wk.own_nil 10 47 2 rfl rfl) ?_
  refine Run.while (σ := Nat) (fun i => ⟨tms [(10, .os 47 i), (39, .os 34 c.length), (40, .int .i64 s.length), (41, .int .i64 i)], mms [(34, .arr c.length 2 (q06 s)), (47, .arr i 2 (q06 ((s.take i).foldl qe5 [])))]⟩)
   (fun i => i ≤ s.length) (fun i => s.length - i) 0 (have hW := True.intro; q0g) (Nat.zero_le _) ?_
  clear hi hlt hie
  intro i hi
  unfold qhw
  by_cases hlt : i < s.length
  ·obtain ⟨r, hr⟩ : ∃ r, s[i]? = some r := ⟨s[i], by simp [hlt]⟩
   have g1 : (q06 s)[i]? = some (.agg [.int .i64 r.1, .int .i64 r.2]) := q39 hr
   have hcan := qqw hs hok i
   have hle := qfp (s.take i) []
   have hnx := q2w qe5 [] s hr
   simp only [List.length_nil, List.length_take] at hle
   generalize (s.take i).foldl qe5 [] = out at hcan hle hnx ⊢
   (have hF := (aI @e0 (aI @g0 @g1)); refine q01 (k:=?_); clear hF)
   refine z88 (args' := [.undef, q3v r]) 0 47 rfl rfl rfl rfl rfl (q08 _) (q08 _) (ev_k187 out r (fun x hx => by have := hcan.2 x hx; unfold okR at this; omega) (by omega)) ?_
   (have hF := (aI @e0 (aI @g0 @g1)); refine q01 (k:=?_); clear hF)
   (refine Fin.nextW (i + 1) ?_ (have hW := @hnx; q0g); (try dsimp only))
   omega
  ·rw [show i = s.length by omega, List.take_length]
   (have hF := (aI @e0 @g0); refine q01 (k:=?_); clear hF)
   exact qfz (.sl 2 (q06 (s.foldl qe5 [])))
theorem qdi (l : List Rn) (hl : l.length ≤ 900000000) : Ev (En Tryz.prog rfl).P 156 [.sl 2 (q06 l)] (.ret (.sl 2 (q06 (q0y l)))) := by
 refine z9o l (q0y l) ?_
 have h := ev_k169 [l] (by simp) (by simpa using hl)
 simpa [q6r] using h
end
def z1e : List SOp := [⟨some 2,.assign (.const (.int .i64 0)),none⟩,⟨some 3,.assign (.const (.slice none 0 0)),none⟩]
instance : Live z1e := ⟨[0]⟩
def z1d : List SOp := [⟨some 5,.move (.tmp 0),none⟩,⟨some 6,.call ⟨.value (.func 156),#[.tmp 5],#[149]⟩,none⟩,⟨some 4,.assign (.tmp 6),none⟩]
instance : Live z1d := ⟨[0]⟩
def z1c : List SOp := [⟨some 7,.move (.tmp 4),none⟩,⟨some 8,.call ⟨.builtin .len,#[.tmp 7],#[149]⟩,none⟩,⟨some 9,.binOp .eql 3 (.tmp 8) (.const (.int .i64 0)) 3,none⟩,⟨some 10,.move (.tmp 9),none⟩,⟨some 11,.move (.tmp 4),some ((some 10),false)⟩,⟨some 12,.indexAddr 149 (.tmp 11) (.const (.int .i64 0)),some ((some 10),false)⟩,⟨some 13,.fieldAddr 179 (.tmp 12) 0,some ((some 10),false)⟩,⟨some 14,.load 3 (.tmp 13),some ((some 10),false)⟩,⟨some 15,.binOp .neq 3 (.tmp 14) (.const (.int .i64 1)) 3,some ((some 10),false)⟩,⟨some 16,.pick (.tmp 10) (.const (.bool true)) (.tmp 15),none⟩]
instance : Live z1c := ⟨[4]⟩
def z1b : List SOp := [⟨some 17,.move (.tmp 4),none⟩,⟨some 2,.assign (.const (.int .i64 0)),none⟩,⟨some 3,.assign (.tmp 17),none⟩]
instance : Live z1b := ⟨[4]⟩
def z1a : List SOp := [⟨some 18,.move (.tmp 4),none⟩,⟨some 19,.indexAddr 149 (.tmp 18) (.const (.int .i64 0)),none⟩,⟨some 20,.fieldAddr 179 (.tmp 19) 1,none⟩,⟨some 21,.load 3 (.tmp 20),none⟩,⟨some 22,.move (.tmp 4),none⟩,⟨some 23,.slice 149 (.tmp 22) (some (.const (.int .i64 1))) none none,none⟩,⟨some 24,.call ⟨.value (.func 157),#[.tmp 23],#[149]⟩,none⟩,⟨some 2,.assign (.tmp 21),none⟩,⟨some 3,.assign (.tmp 24),none⟩]
instance : Live z1a := ⟨[4]⟩
def t_k134 : SC :=
 (.seq (.ops false z1e) (.seq (.ops false z1d) (.seq (.seq (.ops false z1c) (.cond (.tmp 16) (.seq (.ops false z1b) .ret) .skip)) (.seq (.ops true z1a) .ret))))
theorem it_k134 : FnIs Tryz.prog 134 25 [.tmp 2, .tmp 3] t_k134 := ⟨Tryz.f134, _, Tryz.func134, rfl, rfl, rfl, rfl, by kernel_rfl⟩

def q1t : List Rn → Int × List Rn
 | [] => (0, [])
 | x :: r => if x.1 = 1 then (x.2, r) else (0, x :: r)
theorem qbe {x : Rn} {r : List Rn} (h : x.1 = 1) : q1t (x :: r) = (x.2, r) := if_pos h
theorem qbd {x : Rn} {r : List Rn} (h : ¬ x.1 = 1) : q1t (x :: r) = (0, x :: r) := if_neg h
theorem z9r (l m : List Rn) (hm : m.length ≤ 1000000000) (hN : Ev (En Tryz.prog rfl).P 156 [.sl 2 (q06 l)] (.ret (.sl 2 (q06 m)))) :
 Ev (En Tryz.prog rfl).P 134 [.sl 2 (q06 l)] (.ret (.tup [.int .i64 (q1t m).1, .sl 2 (q06 (q1t m).2)])) := by
 refine Ev.of_body it_k134 (by simp) (Run.start ?_)
 unfold t_k134
 (have hF := True.intro; refine q1i (k:=?_); clear hF)
 refine q2p (l := [.sl 2 (q06 l)]) rfl rfl (by simp [q0k, AVal.stb, q08]) hN ?_
 cases m with
 | nil =>
  have e0 : q06 [] = [] := rfl
  rw [e0]
  (have hF := True.intro; refine q1i (k:=?_); clear hF)
  exact Fin.two rfl rfl rfl rfl (.inl rfl) (.inl rfl)
 | cons x r =>
  have e0 : q06 (x :: r) = .agg [.int .i64 x.1, .int .i64 x.2] :: q06 r := rfl
  have e1 : (q06 r).length = r.length := q0u r
  have e2 : decide (((r.length + 1 : Nat) : Int) = 0) = false := by simp; omega
  have e3 : ((0 : Int) < ((r.length + 1 : Nat) : Int)) = True := by simp only [eq_iff_iff, iff_true]; omega
  by_cases c : x.1 = 1
  ·rw [qbe c, e0]
   have d : (!decide (x.1 = 1)) = false := by simpa using c
   (have hF := (aI (aI @e1 @e2) (aI @e3 @d)); refine q1i (k:=?_); clear hF)
   have e4 : (1 ≤ r.length + 1) = True := by simp
   have hcl := ev_k157 r (by simp at hm; omega)
   have e5 : ((1 : Int).toNat) = 1 := rfl
   have e6 : (AVal.agg [.int .i64 x.1, .int .i64 x.2] :: q06 r).take (r.length + 1) = AVal.agg [.int .i64 x.1, .int .i64 x.2] :: q06 r := List.take_of_length_le (by simp [e1])
   have e7 : (q06 r).take r.length = q06 r := List.take_of_length_le (by simp [e1])
   (have hF := (aI (aI (aI @e1 @e2) (aI @e3 @e4)) (aI (aI @e5 @e6) (aI @e7 @d))); refine q1i (k:=?_); clear hF)
   refine q2p (l := [.sl 2 (q06 r)]) rfl ?hl (by simp [q0k, AVal.stb, q08]) hcl ?k
   case hl =>
    show [AVal.sl 2 ((q06 r).take r.length)] = _
    rw [e7]
   (have hF := (aI (aI @e1 @e2) (aI @e3 @d)); refine q1i (k:=?_); clear hF)
   exact Fin.two rfl rfl rfl (q08 r) (.inl rfl) (.inl rfl)
  ·rw [qbd c, e0]
   have d : (!decide (x.1 = 1)) = true := by simpa using c
   (have hF := (aI (aI @e1 @e2) (aI @e3 @d)); refine q1i (k:=?_); clear hF)
   exact Fin.two rfl rfl rfl (q08 (x :: r)) (.inl rfl) (.inl rfl)

theorem q7n {v : List Int} {t : Tab} (i : Nat) : (List.range (i + 1)).foldl (q3k v) t = q3k v ((List.range i).foldl (q3k v) t) i := by
 rw [List.range_succ, List.foldl_append]
 rfl
theorem zkc {Q : Ex → AS → Prop} {y : SC} {k : Kont} (A11 : AVal) (h11 : A11.stb = true) (n12 i13 : Int) (p : Pst) (hp : p.vec.length ≤ 1000000000) (t : Tab) {n0 : Nat} (ht : TabLe t n0) (hn : n0 + 16 ≤ 1000000000)
 (h : Run (En Tryz.prog rfl) 78 Q y k ⟨tms [(3, .ptr 10 0), (11, A11), (12, .int .i64 n12), (13, .int .i64 i13), (5, .ptr 5 0)], mms [(10, .cells (q4p (q5b p.vec t))), (5, .cells [.sl 1 (q05 p.vec), .sl 3 (q0d p.cloud)])]⟩) :
 Run (En Tryz.prog rfl) 78 Q (.loop qba) (.block 2 (.seq y k)) ⟨tms [(3, .ptr 10 0), (11, A11), (12, .int .i64 n12), (13, .int .i64 i13), (5, .ptr 5 0), (20, .int .i64 (min p.vec.length 16)), (21, .int .i64 0)], mms [(10, .cells (q4p t)), (5, .cells [.sl 1 (q05 p.vec), .sl 3 (q0d p.cloud)])]⟩ := by
 refine Run.range (min p.vec.length 16) (fun i => ⟨tms [(3, .ptr 10 0), (11, A11), (12, .int .i64 n12), (13, .int .i64 i13), (5, .ptr 5 0), (20, .int .i64 (min p.vec.length 16)), (21, .int .i64 i)], mms [(10, .cells (q4p ((List.range i).foldl (q3k p.vec) t))), (5, .cells [.sl 1 (q05 p.vec), .sl 3 (q0d p.cloud)])]⟩) (Wk.refl _ _) (fun i hi => ?_) ?_
 ·obtain ⟨q1, q2⟩ := TabLe.range (v := p.vec) ht i
  rw [q7n]
  generalize (List.range i).foldl (q3k p.vec) t = u at q1 q2 ⊢
  have hiv : i < p.vec.length := by omega
  have hi16 : i < 16 := by omega
  have hiu : i < u.length := by rw [q1]; exact hi16
  have e1 : ((i : Int) < min (p.vec.length : Int) 16) = True := by simp only [eq_iff_iff, iff_true]; omega
  have e2 : (0 ≤ (i : Int)) = True := by simp
  have e3 : ((i : Int) < ((16 : Nat) : Int)) = True := by simp only [eq_iff_iff, iff_true]; omega
  have e4 : (q4p u)[i]? = some (.own 2 (q06 (u.getD i []))) := qh8 hiu
  have e5 : ((q4p u).set i .hole)[i]? = some .hole := qdl hiu
  have e6 := qh9 hiu (1, q1q p.vec i)
  simp only at e6
  have e7 : (q05 p.vec)[i]? = some (.int .i64 (q1q p.vec i)) := q0v (by simp [q1q, hiv])
  have e8 : (q05 p.vec).length = p.vec.length := q0i _
  have e9 : ((i : Int) < (p.vec.length : Int)) = True := by simp only [eq_iff_iff, iff_true]; omega
  have e10 : (q06 (u.getD i [])).length = (u.getD i []).length := q0u _
  have hq := q2 i
  have e11 : (((u.getD i []).length + 1) * 16 ≤ 70368744177664) = True := by simp only [eq_iff_iff, iff_true]; omega
  have e12 : ((u.getD i []).length + 1 ≤ 4611686018427387904) = True := by simp only [eq_iff_iff, iff_true]; omega
  have e13 : IntKind.i64.wrap ((i : Int) + 1) = ((i + 1 : Nat) : Int) := by rw [q3d (by omega)]; omega
  have e14 : (q4p u).length = 16 := by rw [qh7, q1]
  have e15 : (i + 1 ≤ 16) = True := by simp only [eq_iff_iff, iff_true]; omega
  unfold qba
  (have hF := (aI @e1 @e2); refine q1i (k:=?_); clear hF)
  ((with_reducible apply toW); refine stW (fun j => j == 5) (k:=?_))
  (have hF := (aI (aI (aI (aI @e1 @e2) (aI @e3 @e4)) (aI (aI @e5 @e6) (aI @e7 @e8))) (aI (aI (aI @e9 @e10) (aI @e11 @e12)) (aI (aI @e13 @e14) (aI @e15 @List.length_set.{0})))); refine q1i (k:=?_); clear hF)
  refine Fin.next (Wk.toL _ _ ⟨rfl, rfl, rfl, rfl, rfl, rfl, rfl, trivial⟩ ⟨rfl, rfl, trivial⟩ ⟨rfl, q20 h11, rfl, rfl, rfl, rfl, rfl, trivial⟩ ⟨q2r _ _, ?_, trivial⟩)
  simp [ABlk.no, AVal.noC, AVal.no, AVal.stb, q03, q04]
 ·have e1 : (((min p.vec.length 16 : Nat) : Int) < min (p.vec.length : Int) 16) = False := by simp only [eq_iff_iff, iff_false]; omega
  unfold qba
  (have hF := @e1; refine q1i (k:=?_); clear hF)
  exact Run.wk (Wk.keep [(3, .ptr 10 0), (11, A11), (12, .int .i64 n12), (13, .int .i64 i13), (5, .ptr 5 0)] ⟨rfl, rfl, rfl, rfl, rfl, trivial⟩) h

theorem z6x {t : Tab} {s : Sn} (h : 0 ≤ s.1 ∧ s.1 < 16) : putSn t s = q6d t s.1.toNat s.2 := if_pos h
theorem qcn {t : Tab} {s : Sn} (h : ¬ (0 ≤ s.1 ∧ s.1 < 16)) : putSn t s = t := if_neg h
theorem zkb {Q : Ex → AS → Prop} {k : Kont} (A11 : AVal) (h11 : A11.stb = true) (n12 i13 : Int) (cl : List Sn) (hp : cl.length ≤ 1000000000) (t : Tab) {n0 : Nat} (ht : TabLe t n0) (hn : n0 + cl.length ≤ 1000000000)
 (h : Fin (En Tryz.prog rfl) 78 Q k .normal ⟨upd (tms [(3, .ptr 10 0), (11, A11), (12, .int .i64 n12), (13, .int .i64 i13), (43, .sl 3 (q0d cl)), (44, .int .i64 cl.length), (45, .int .i64 cl.length)]) 46 (.bool false), mms [(10, .cells (q4p (q4a cl t)))]⟩) :
 Run (En Tryz.prog rfl) 78 Q (.loop qb9) (.block 4 k) ⟨tms [(3, .ptr 10 0), (11, A11), (12, .int .i64 n12), (13, .int .i64 i13), (43, .sl 3 (q0d cl)), (44, .int .i64 cl.length), (45, .int .i64 0)], mms [(10, .cells (q4p t))]⟩ := by
 refine Run.range cl.length (fun i => ⟨tms [(3, .ptr 10 0), (11, A11), (12, .int .i64 n12), (13, .int .i64 i13), (43, .sl 3 (q0d cl)), (44, .int .i64 cl.length), (45, .int .i64 i)], mms [(10, .cells (q4p ((cl.take i).foldl putSn t)))]⟩) (Wk.refl _ _) (fun i hi => ?_) ?_
 ·have hq0 := TabLe.cloud ht (cl.take i)
  obtain ⟨s, hs⟩ : ∃ s, cl[i]? = some s := ⟨cl[i], by simp [hi]⟩
  rw [q2w putSn t cl hs]
  generalize (cl.take i).foldl putSn t = u at hq0 ⊢
  obtain ⟨q1, q2⟩ := hq0
  have e1 : ((i : Int) < (cl.length : Int)) = True := by simp only [eq_iff_iff, iff_true]; omega
  have e2 : (0 ≤ (i : Int)) = True := by simp
  have e3 : (q0d cl)[i]? = some (.agg [.int .i64 s.1, .int .i64 s.2.1, .int .i64 s.2.2]) := q2c hs
  have e4 : (q0d cl).length = cl.length := q1e _
  have e13 : IntKind.i64.wrap ((i : Int) + 1) = ((i + 1 : Nat) : Int) := by rw [q3d (by omega)]; omega
  unfold qb9
  by_cases c1 : 0 ≤ s.1
  ·have d1 : decide (0 ≤ s.1) = true := by simpa using c1
   by_cases c2 : s.1 < 16
   ·have d2 : decide (s.1 < 16) = true := by simpa using c2
    rw [z6x ⟨c1, c2⟩]
    obtain ⟨r, hr⟩ : ∃ r : Nat, s.1 = r := ⟨s.1.toNat, by omega⟩
    have hr16 : r < 16 := by omega
    have hru : r < u.length := by rw [q1]; exact hr16
    have e5 : (q4p u)[r]? = some (.own 2 (q06 (u.getD r []))) := qh8 hru
    have e6 : ((q4p u).set r .hole)[r]? = some .hole := qdl hru
    have e7 := qh9 hru s.2
    have e8 : (q06 (u.getD r [])).length = (u.getD r []).length := q0u _
    have hq := q2 r
    have hcl : (cl.take i).length ≤ cl.length := by rw [List.length_take]; omega
    have e9 : (((u.getD r []).length + 1) * 16 ≤ 70368744177664) = True := by simp only [eq_iff_iff, iff_true]; omega
    have e10 : ((u.getD r []).length + 1 ≤ 4611686018427387904) = True := by simp only [eq_iff_iff, iff_true]; omega
    have e11 : (q4p u).length = 16 := by rw [qh7, q1]
    have e12 : (r + 1 ≤ 16) = True := by simp only [eq_iff_iff, iff_true]; omega
    have e14 : ((r : Int) < ((16 : Nat) : Int)) = True := by simp only [eq_iff_iff, iff_true]; omega
    have e15 : (0 ≤ (r : Int)) = True := by simp
    rw [hr] at d1 d2 e3 ⊢
    rw [Int.toNat_natCast]
    (have hF := (aI (aI @e1 (aI @e2 @e3)) (aI @e4 (aI @d1 @d2))); refine q1i (k:=?_); clear hF)
    ((with_reducible apply toW); refine stW (fun j => j == 8) (k:=?_))
    (have hF := (aI (aI (aI (aI @e1 @e2) (aI @e3 @e4)) (aI (aI @d1 @d2) (aI @e5 (aI @e6 @e7)))) (aI (aI (aI @e8 @e9) (aI @e10 @e11)) (aI (aI @e12 @e13) (aI @e14 (aI @e15 @List.length_set.{0}))))); refine q1i (k:=?_); clear hF)
    exact Fin.next (Wk.toL _ _ ⟨rfl, rfl, rfl, rfl, rfl, rfl, rfl, trivial⟩ ⟨rfl, trivial⟩ ⟨rfl, q20 h11, rfl, rfl, q04 cl, rfl, rfl, trivial⟩ ⟨q2r _ _, trivial⟩)
   ·have d2 : decide (s.1 < 16) = false := by simpa using c2
    rw [qcn (by omega)]
    (have hF := (aI (aI @e1 (aI @e2 @e3)) (aI (aI @e4 @d1) (aI @d2 @e13))); refine q1i (k:=?_); clear hF)
    exact Fin.next (Wk.toL _ _ ⟨rfl, rfl, rfl, rfl, rfl, rfl, rfl, trivial⟩ ⟨rfl, trivial⟩ ⟨rfl, q20 h11, rfl, rfl, q04 cl, rfl, rfl, trivial⟩ ⟨q2r _ _, trivial⟩)
  ·have d1 : decide (0 ≤ s.1) = false := by simpa using c1
   rw [qcn (by omega)]
   (have hF := (aI (aI @e1 (aI @e2 @e3)) (aI @e4 (aI @d1 @e13))); refine q1i (k:=?_); clear hF)
   exact Fin.next (Wk.toL _ _ ⟨rfl, rfl, rfl, rfl, rfl, rfl, rfl, trivial⟩ ⟨rfl, trivial⟩ ⟨rfl, q20 h11, rfl, rfl, q04 cl, rfl, rfl, trivial⟩ ⟨q2r _ _, trivial⟩)
 ·have e1 : ((cl.length : Int) < (cl.length : Int)) = False := by simp
  have e3 : cl.take cl.length = cl := List.take_length
  rw [e3]
  unfold qb9
  (have hF := @e1; refine q1i (k:=?_); clear hF)
  exact h

def q1w (t : Tab) : List AVal := t.map fun l => .sl 2 (q06 l)
theorem encT_fz (M : Mem) (t : Tab) : (q4p t).map (fzc q4i M) = q1w t := by simp [q4p, q1w, fzc]
theorem q1b (t : Tab) : q0k (q1w t) = true := by
 refine qbz fun x hx => ?_
 obtain ⟨l, _, rfl⟩ := List.mem_map.1 hx
 exact q08 l
theorem qf9 (ps : List Pst) (hl : ps.length ≤ 1000000000) (hw : (ps.map wt).sum ≤ 900000000) : Ev (En Tryz.prog rfl).P 96 [.sl 2 (q1k ps)] (.ret (.sptr (q1w (q0l ps)))) := by
 refine Ev.of_body it_k96 (by simp) (Run.start ?_)
 unfold t_k96
 have e0 : (q1k ps).length = ps.length := q9l _
 (have hF := @e0; refine q1i (k:=?_); clear hF)
 refine Run.wk (Wk.trans (Wk.own_cells (k := 10) (cs' := q4p q6e) rfl rfl ?_) (Wk.toL [(3, .ptr 10 0), (11, .sl 2 (q1k ps)), (12, .int .i64 ps.length), (13, .int .i64 0)] [(10, .cells (q4p q6e))] ⟨rfl, rfl, rfl, rfl, trivial⟩ ⟨rfl, trivial⟩ ⟨rfl, q0e ps, rfl, rfl, trivial⟩ ⟨q2r _ _, trivial⟩)) ?_
 ·intro i x y hx hy
  have hx' : (List.replicate 16 AVal.nil)[i]? = some x := hx
  rw [List.getElem?_replicate] at hx'
  have hy' : (List.replicate 16 (AVal.own 2 []))[i]? = some y := hy
  rw [List.getElem?_replicate] at hy'
  split at hx'
  ·rename_i h16
   rw [if_pos h16] at hy'
   cases hx'; cases hy'
   exact .inr ⟨rfl, 2, rfl⟩
  ·cases hx'
 refine Run.range ps.length (fun i => ⟨tms [(3, .ptr 10 0), (11, .sl 2 (q1k ps)), (12, .int .i64 ps.length), (13, .int .i64 i)], mms [(10, .cells (q4p ((ps.take i).foldl q1n q6e)))]⟩) (Wk.refl _ _) (fun i hi => ?_) ?_
 ·have hq0 := TabLe.all q9x (ps.take i)
  obtain ⟨p, hp⟩ : ∃ p, ps[i]? = some p := ⟨ps[i], by simp [hi]⟩
  rw [q2w q1n q6e ps hp]
  have hsum : ((ps.take i).map wt).sum + wt p ≤ (ps.map wt).sum := by
   have : ((ps.take (i + 1)).map wt).sum ≤ (ps.map wt).sum := by rw [List.map_take]; exact q8i _
   rw [List.take_add_one, hp] at this
   simpa using this
  generalize (ps.take i).foldl q1n q6e = u at hq0 ⊢
  generalize ((ps.take i).map wt).sum = m at hq0 hsum
  have hwt : wt p = p.vec.length + p.cloud.length := rfl
  have hv : p.vec.length ≤ 1000000000 := by omega
  have hc : p.cloud.length ≤ 1000000000 := by omega
  have e1 : ((i : Int) < (ps.length : Int)) = True := by simp only [eq_iff_iff, iff_true]; omega
  have e2 : (0 ≤ (i : Int)) = True := by simp
  have e3 : (q1k ps)[i]? = some (.agg [.sl 1 (q05 p.vec), .sl 3 (q0d p.cloud)]) := qdn hp
  have e4 : (q05 p.vec).length = p.vec.length := q0i _
  have e5 : (q0d p.cloud).length = p.cloud.length := q1e _
  have e13 : IntKind.i64.wrap ((i : Int) + 1) = ((i + 1 : Nat) : Int) := by rw [q3d (by omega)]; omega
  unfold q8x
  (have hF := (aI (aI @e0 (aI @e1 @e2)) (aI @e3 (aI @e4 @e5))); refine q1i (k:=?_); clear hF)
  refine Run.wk (Wk.toL [(3, .ptr 10 0), (11, .sl 2 (q1k ps)), (12, .int .i64 ps.length), (13, .int .i64 i), (5, .ptr 5 0), (20, .int .i64 (min p.vec.length 16)), (21, .int .i64 0)] [(10, .cells (q4p u)), (5, .cells [.sl 1 (q05 p.vec), .sl 3 (q0d p.cloud)])] ⟨rfl, rfl, rfl, rfl, rfl, rfl, rfl, trivial⟩ ⟨rfl, rfl, trivial⟩ ⟨rfl, q0e ps, rfl, rfl, rfl, rfl, rfl, trivial⟩ ⟨q2r _ _, by simp [ABlk.no, AVal.noC, AVal.no, AVal.stb, q03, q04], trivial⟩) ?_
  refine zkc (.sl 2 (q1k ps)) (q0e ps) _ _ p hv u (n0 := 0 + m) hq0 (by omega) ?_
  (have hF := (aI (aI @e0 (aI @e1 @e2)) (aI @e3 (aI @e4 @e5))); refine q1i (k:=?_); clear hF)
  refine Run.wk (Wk.toL [(3, .ptr 10 0), (11, .sl 2 (q1k ps)), (12, .int .i64 ps.length), (13, .int .i64 i), (43, .sl 3 (q0d p.cloud)), (44, .int .i64 p.cloud.length), (45, .int .i64 0)] [(10, .cells (q4p (q5b p.vec u)))] ⟨rfl, rfl, rfl, rfl, rfl, rfl, rfl, trivial⟩ ⟨rfl, trivial⟩ ⟨rfl, q0e ps, rfl, rfl, q04 _, rfl, rfl, trivial⟩ ⟨q2r _ _, trivial⟩) ?_
  refine zkb (.sl 2 (q1k ps)) (q0e ps) _ _ p.cloud hc (q5b p.vec u) (n0 := 0 + m + min p.vec.length 16) (TabLe.range hq0 _) (by omega) ?_
  (have hF := (aI (aI @e0 (aI @e1 @e2)) (aI (aI @e3 @e4) (aI @e5 @e13))); refine q1i (k:=?_); clear hF)
  exact Fin.next (Wk.toL _ _ ⟨rfl, rfl, rfl, rfl, trivial⟩ ⟨rfl, trivial⟩ ⟨rfl, q0e ps, rfl, rfl, trivial⟩ ⟨q2r _ _, trivial⟩)
 ·have e1 : ((ps.length : Int) < (ps.length : Int)) = False := by simp
  have e3 : ps.take ps.length = ps := List.take_length
  rw [e3]
  unfold q8x
  (have hF := (aI @e0 @e1); refine q1i (k:=?_); clear hF)
  refine Fin.tmp' ?_ (q1b _)
  show AVal.sptr ((((q4p (q0l ps))).map (fzc q4i _)).drop 0) = _
  rw [encT_fz]
  rfl


def lastP (p : Pst) (r : Int) : Int := if 0 ≤ r ∧ r < 16 then lastR ((q0l [p]).getD r.toNat []) else 0
theorem q1c (ps : List Pst) : TabLe (q0l ps) (ps.map wt).sum := by
 have := TabLe.all q9x ps
 simpa [q0l] using this
theorem q67 {t : Tab} {r : Nat} (h : r < t.length) : (q1w t)[r]? = some (.sl 2 (q06 (t.getD r []))) := by simp [q1w, h]
theorem q55 (t : Tab) : (q1w t).length = t.length := by simp [q1w]
theorem q7j {α : Type} {l : List α} {i : Nat} {x : α} (h : l[i]? = some x) : (l.drop i)[0]? = some x := by simp [h]

section
def q6w (l : List Int) : List Int := l.mergeSort (fun x y => decide (x ≤ y))
theorem q41 (l : List Int) : (q6w l).Perm l := List.mergeSort_perm l _
theorem q4c (l : List Int) : (q6w l).Pairwise (fun x y => x ≤ y) := by
 have := List.pairwise_mergeSort (le := fun (x y : Int) => decide (x ≤ y)) (fun a b c h1 h2 => by simp at *; omega) (fun a b => by simp; omega) l
 exact this.imp fun {a b} h => by simpa using h
theorem q90 (l : List Int) : (q6w l).length = l.length := (q41 l).length_eq
def cnt (l : List Int) (m : Int) : Nat := l.countP fun x => decide (x ≤ m)
theorem q6s (m : Int) : cnt [] m = 0 := rfl
theorem q22 (x : Int) (l : List Int) (m : Int) : cnt (x :: l) m = cnt l m + if x ≤ m then 1 else 0 := by
 unfold cnt
 rw [List.countP_cons]
 simp only [decide_eq_true_eq]
theorem q7y (l l' : List Int) (m : Int) : cnt (l ++ l') m = cnt l m + cnt l' m := List.countP_append
theorem qbj {l l' : List Int} (h : l.Perm l') (m : Int) : cnt l m = cnt l' m := h.countP_eq _
theorem qdr {l : List Int} {m : Int} (h : ∀ x ∈ l, x ≤ m) : cnt l m = l.length := List.countP_eq_length.2 fun x hx => by simpa using h x hx
theorem q3y {l : List Int} {m : Int} (h : ∀ x ∈ l, m < x) : cnt l m = 0 := List.countP_eq_zero.2 fun x hx => by simpa using h x hx
theorem qdq : ∀ {l : List Int} {m : Int} {i : Nat}, i ≤ l.length → (∀ k, k < i → l.getD k 0 ≤ m) → (∀ k, i ≤ k → k < l.length → m < l.getD k 0) → cnt l m = i
 | [], m, i, hi, _, _ => by simp at hi; subst hi; rfl
 | x :: l, m, 0, _, _, h2 => q3y fun y hy => by
  obtain ⟨k, hk, rfl⟩ := List.getElem_of_mem hy
  have := h2 k (by omega) hk
  simpa [List.getD_eq_getElem?_getD, List.getElem?_eq_getElem hk] using this
 | x :: l, m, i + 1, hi, h1, h2 => by
  rw [q22, qdq (i := i) (by simpa using hi) (fun k hk => by simpa using h1 (k + 1) (by omega)) (fun k hk hl => by simpa using h2 (k + 1) (by omega) (by simpa using hl))]
  have := h1 0 (by omega)
  simp at this
  simp [this]
def Srt (l : List Int) : Prop := ∀ a b, a ≤ b → b < l.length → l.getD a 0 ≤ l.getD b 0
theorem Srt.of {l : List Int} (h : l.Pairwise (fun x y => x ≤ y)) : Srt l := by
 intro a b hab hb
 rcases Nat.lt_or_ge a b with h' | h'
 ·have := (List.pairwise_iff_getElem.1 h) a b (by omega) hb h'
  simpa [List.getD_eq_getElem?_getD, List.getElem?_eq_getElem hb, List.getElem?_eq_getElem (show a < l.length by omega)] using this
 ·have : a = b := by omega
  subst this
  exact Int.le_refl _
theorem Srt.get_le : ∀ {l : List Int} {m : Int} {k : Nat}, l.Pairwise (fun x y => x ≤ y) → k < cnt l m → l.getD k 0 ≤ m
 | [], m, k, _, h => by simp [q6s] at h
 | x :: l, m, k, hp, h => by
  rw [List.pairwise_cons] at hp
  rw [q22] at h
  split at h
  ·rename_i hx
   cases k with
   | zero => simpa using hx
   | succ k => simpa using Srt.get_le hp.2 (by omega)
  ·rename_i hx
   have : cnt l m = 0 := q3y fun y hy => by have := hp.1 y hy; omega
   omega
theorem Srt.cnt_gt {l : List Int} {m : Int} {k : Nat} (hp : Srt l) (hk : k < l.length) (h : l.getD k 0 ≤ m) : k < cnt l m := by
 have : (l.take (k + 1)).countP (fun x => decide (x ≤ m)) = k + 1 := by
  have h1 : (l.take (k + 1)).length = k + 1 := by rw [List.length_take]; omega
  refine Eq.trans (List.countP_eq_length.2 fun x hx => ?_) h1
  obtain ⟨j, hj, rfl⟩ := List.getElem_of_mem hx
  rw [List.length_take] at hj
  rw [List.getElem_take]
  have := hp j k (by omega) hk
  rw [List.getD_eq_getElem?_getD, List.getElem?_eq_getElem (show j < l.length by omega)] at this
  simp only [Option.getD_some] at this
  simpa using Int.le_trans this h
 have h2 : cnt l m = (l.take (k + 1)).countP (fun x => decide (x ≤ m)) + (l.drop (k + 1)).countP (fun x => decide (x ≤ m)) := by
  rw [← List.countP_append, List.take_append_drop]
  rfl
 omega
structure Sw where
 t : List Int
 deep : Int
 i : Nat
 j : Nat
def swIn (ins : List Int) (s : Sw) : Sw := ⟨if s.deep = 0 then s.t ++ [ins.getD s.i 0] else s.t, s.deep + 1, s.i + 1, s.j⟩
def swOut (outs : List Int) (s : Sw) : Sw := ⟨if s.deep - 1 = 0 then s.t ++ [outs.getD s.j 0] else s.t, s.deep - 1, s.i, s.j + 1⟩
def qfs (ins outs : List Int) (s : Sw) : Prop := s.i < ins.length ∧ ins.getD s.i 0 ≤ outs.getD s.j 0
structure SwI (ins outs : List Int) (s : Sw) : Prop where
 ij : s.j ≤ s.i
 i : s.i ≤ ins.length
 d : s.deep = (s.i : Int) - s.j
 rise : s.t.Pairwise (fun x y => x < y)
 oi : ∀ k k', k < s.j → s.i ≤ k' → k' < ins.length → outs.getD k 0 < ins.getD k' 0
 io : ∀ k k', k < s.i → s.j ≤ k' → k' < outs.length → ins.getD k 0 ≤ outs.getD k' 0
 t0 : s.deep = 0 → ∀ x ∈ s.t, 0 < s.j ∧ x ≤ outs.getD (s.j - 1) 0
 t1 : 0 < s.deep → ∀ x ∈ s.t, x ≤ ins.getD (s.i - 1) 0
 par : s.t.length % 2 = if 0 < s.deep then 1 else 0
 all : ∀ m, (∀ k, s.i ≤ k → k < ins.length → m < ins.getD k 0) → (∀ k, s.j ≤ k → k < outs.length → m < outs.getD k 0) → (cnt s.t m % 2 = 1 ↔ cnt outs m < cnt ins m)
 src : ∀ x ∈ s.t, x ∈ ins ∨ x ∈ outs
section
variable {ins outs : List Int} (hl : outs.length = ins.length) (hi : Srt ins) (ho : Srt outs) (hlt : ∀ k, k < ins.length → ins.getD k 0 < outs.getD k 0)
theorem SwI.start : SwI ins outs ⟨[], 0, 0, 0⟩ := by
 refine ⟨Nat.le_refl _, Nat.zero_le _, rfl, .nil, fun k k' h => by simp at h, fun k k' h => by simp at h, fun _ x hx => (by simp at hx), fun _ x hx => (by simp at hx), by simp, fun m h1 h2 => ?_, fun x hx => (by simp at hx)⟩
 rw [qdq (l := ins) (i := 0) (Nat.zero_le _) (fun k hk => by omega) h1, qdq (l := outs) (i := 0) (Nat.zero_le _) (fun k hk => by omega) h2]
 simp [q6s]
theorem z7i {l : List Int} {k : Nat} (h : k < l.length) : l.getD k 0 ∈ l := by
 rw [List.getD_eq_getElem?_getD, List.getElem?_eq_getElem h]
 simp
theorem qco {t : List Int} {v : Int} (h : t.Pairwise (fun x y => x < y)) (hv : ∀ x ∈ t, x < v) : (t ++ [v]).Pairwise (fun x y => x < y) := by
 rw [List.pairwise_append]
 exact ⟨h, by simp, fun a ha b hb => by simp at hb; subst hb; exact hv a ha⟩
include hl hi ho hlt in
theorem SwI.stepIn {s : Sw} (h : SwI ins outs s) (ht : qfs ins outs s) : SwI ins outs (swIn ins s) := by
 obtain ⟨t, deep, i, j⟩ := s
 obtain ⟨h1, h2, h3, h4, h5, h6, h7, h8, h9, h10, h11⟩ := h
 obtain ⟨g1, g2⟩ := ht
 simp only at *
 have hjl : j < outs.length := by omega
 have low : ∀ x ∈ t, x ≤ ins.getD i 0 ∧ (deep = 0 → x < ins.getD i 0) := by
  intro x hx
  by_cases hd : deep = 0
  ·obtain ⟨q1, q2⟩ := h7 hd x hx
   have := h5 (j - 1) i (by omega) (Nat.le_refl _) g1
   omega
  ·have q := h8 (by omega) x hx
   have := hi (i - 1) i (by omega) g1
   exact ⟨by omega, fun h => absurd h hd⟩
 have hlow : ∀ x ∈ (if deep = 0 then t ++ [ins.getD i 0] else t), x ≤ ins.getD i 0 := by
  intro x hx
  split at hx
  ·rcases List.mem_append.1 hx with hx | hx
   ·exact (low x hx).1
   ·simp only [List.mem_singleton] at hx; omega
  ·exact (low x hx).1
 have hpar : (if deep = 0 then t ++ [ins.getD i 0] else t).length % 2 = 1 := by
  by_cases hd : deep = 0
  ·rw [if_pos hd]
   rw [if_neg (by omega)] at h9
   simp only [List.length_append, List.length_cons, List.length_nil]
   omega
  ·rw [if_neg hd]
   rw [if_pos (by omega)] at h9
   exact h9
 unfold swIn
 refine ⟨?_, ?_, ?_, ?_, ?_, ?_, ?_, ?_, ?_, ?_, ?_⟩ <;> simp only
 ·omega
 ·omega
 ·omega
 ·split
  ·rename_i hd
   exact qco h4 fun x hx => (low x hx).2 hd
  ·exact h4
 ·intro k k' a b c
  exact h5 k k' a (by omega) c
 ·intro k k' a b c
  rcases Nat.lt_or_ge k i with hk | hk
  ·exact h6 k k' hk b c
  ·have : k = i := by omega
   subst this
   have := ho j k' b c
   omega
 ·intro hd
  omega
 ·intro _ x hx
  rw [Nat.add_sub_cancel]
  exact hlow x hx
 ·rw [hpar, if_pos (by omega)]
 ·intro m a b
  by_cases hm : m < ins.getD i 0
  ·have := h10 m (fun k hk hkl => by
    rcases Nat.eq_or_lt_of_le hk with rfl | hk
    ·exact hm
    ·exact a k (by omega) hkl) b
   rw [← this]
   split
   ·rw [q7y, q3y (l := [ins.getD i 0]) (by simpa using hm)]
    simp
   ·rfl
  ·rw [qdr fun x hx => Int.le_trans (hlow x hx) (by omega), hpar, qdq (l := ins) (i := i + 1) (by omega) (fun k hk => Int.le_trans (hi k i (by omega) g1) (by omega)) a,
    qdq (l := outs) (i := j) (by omega) (fun k hk => by have := h5 k i hk (Nat.le_refl _) g1; omega) b]
   simp
   omega
 ·intro x hx
  split at hx
  ·rcases List.mem_append.1 hx with hx | hx
   ·exact h11 x hx
   ·simp only [List.mem_singleton] at hx; subst hx; exact .inl (z7i g1)
  ·exact h11 x hx
include hl hi ho hlt in
theorem SwI.stepOut {s : Sw} (h : SwI ins outs s) (hj : s.j < outs.length) (ht : ¬ qfs ins outs s) : SwI ins outs (swOut outs s) ∧ 1 ≤ s.deep := by
 obtain ⟨t, deep, i, j⟩ := s
 obtain ⟨h1, h2, h3, h4, h5, h6, h7, h8, h9, h10, h11⟩ := h
 unfold qfs at ht
 simp only at *
 have hd : 0 < deep := by
  rcases Nat.lt_or_ge j i with h | h
  ·omega
  ·exfalso
   have : i = j := by omega
   subst this
   have := hlt i (by omega)
   exact ht ⟨by omega, by omega⟩
 have low : ∀ x ∈ t, x ≤ outs.getD j 0 ∧ (deep - 1 = 0 → x < outs.getD j 0) := by
  intro x hx
  have q := h8 hd x hx
  have := h6 (i - 1) j (by omega) (Nat.le_refl _) hj
  refine ⟨by omega, fun he => ?_⟩
  have : i - 1 = j := by omega
  rw [this] at q
  have := hlt j (by omega)
  omega
 have hlow : ∀ x ∈ (if deep - 1 = 0 then t ++ [outs.getD j 0] else t), x ≤ outs.getD j 0 := by
  intro x hx
  split at hx
  ·rcases List.mem_append.1 hx with hx | hx
   ·exact (low x hx).1
   ·simp only [List.mem_singleton] at hx; omega
  ·exact (low x hx).1
 have hpar : (if deep - 1 = 0 then t ++ [outs.getD j 0] else t).length % 2 = if 0 < deep - 1 then 1 else 0 := by
  rw [if_pos hd] at h9
  by_cases he : deep - 1 = 0
  ·rw [if_pos he, if_neg (by omega)]
   simp only [List.length_append, List.length_cons, List.length_nil]
   omega
  ·rw [if_neg he, if_pos (by omega)]
   exact h9
 refine ⟨?_, by omega⟩
 unfold swOut
 refine ⟨?_, ?_, ?_, ?_, ?_, ?_, ?_, ?_, ?_, ?_, ?_⟩ <;> simp only
 ·omega
 ·omega
 ·omega
 ·split
  ·rename_i he
   exact qco h4 fun x hx => (low x hx).2 he
  ·exact h4
 ·intro k k' a b c
  rcases Nat.lt_or_ge k j with hk | hk
  ·exact h5 k k' hk b c
  ·have : k = j := by omega
   subst this
   have q1 := hi i k' b c
   rcases Nat.lt_or_ge i ins.length with hil | hil
   ·rcases Int.lt_or_le (outs.getD k 0) (ins.getD i 0) with h | h
    ·omega
    ·exact absurd ⟨hil, h⟩ ht
   ·omega
 ·intro k k' a b c
  exact h6 k k' a (by omega) c
 ·intro he x hx
  rw [Nat.add_sub_cancel]
  exact ⟨by omega, hlow x hx⟩
 ·intro he x hx
  rw [if_neg (by omega)] at hx
  exact h8 hd x hx
 ·exact hpar
 ·intro m a b
  by_cases hm : m < outs.getD j 0
  ·have := h10 m a (fun k hk hkl => by
    rcases Nat.eq_or_lt_of_le hk with rfl | hk
    ·exact hm
    ·exact b k (by omega) hkl)
   rw [← this]
   split
   ·rw [q7y, q3y (l := [outs.getD j 0]) (by simpa using hm)]
    simp
   ·rfl
  ·rw [qdr fun x hx => Int.le_trans (hlow x hx) (by omega), hpar, qdq (l := outs) (i := j + 1) (by omega) (fun k hk => Int.le_trans (ho k j (by omega) hj) (by omega)) b,
    qdq (l := ins) (i := i) h2 (fun k hk => by have := h6 k j hk (Nat.le_refl _) hj; omega) a]
   split
   ·simp; omega
   ·simp; omega
 ·intro x hx
  split at hx
  ·rcases List.mem_append.1 hx with hx | hx
   ·exact h11 x hx
   ·simp only [List.mem_singleton] at hx; subst hx; exact .inr (z7i hj)
  ·exact h11 x hx
end
structure Turns (q : Int → Prop) (t : List Int) : Prop where
 rise : t.Pairwise (fun x y => x < y)
 even : t.length % 2 = 0
 mem : ∀ m, q m ↔ cnt t m % 2 = 1
theorem SwI.turns {ins outs : List Int} {s : Sw} (h : SwI ins outs s) (hi : s.i = ins.length) (hj : s.j = ins.length) (hl : outs.length = ins.length) : Turns (fun m => cnt outs m < cnt ins m) s.t := by
 have hd : s.deep = 0 := by have := h.d; omega
 refine ⟨h.rise, ?_, fun m => (h.all m (fun k hk => by omega) (fun k hk => by omega)).symm⟩
 have := h.par
 rw [if_neg (by omega)] at this
 exact this
theorem Turns.iff {q q' : Int → Prop} {t : List Int} (h : Turns q t) (hq : ∀ m, q m ↔ q' m) : Turns q' t := ⟨h.rise, h.even, fun m => (hq m).symm.trans (h.mem m)⟩
theorem qoo (c : List Rn) (hc : ∀ r ∈ c, r.1 ≤ r.2) (m : Int) : cnt (c.map fun r => r.2 + 1) m ≤ cnt (c.map fun r => r.1) m ∧ (cnt (c.map fun r => r.2 + 1) m < cnt (c.map fun r => r.1) m ↔ inR c m) ∧ cnt (c.map fun r => r.2 + 1) m ≤ cnt (c.map fun r => r.1) (m - 1) := by
 induction c with
 | nil => simp [q6s, q29]
 | cons x c ih =>
  obtain ⟨h1, h2, h4⟩ := ih fun r hr => hc r (by simp [hr])
  have h3 := hc x (by simp)
  rw [List.map_cons, List.map_cons, q22, q22, q22, q0t, ← h2]
  refine ⟨?_, ?_, ?_⟩
  ·split <;> split <;> omega
  ·split <;> split <;> omega
  ·split <;> split <;> omega
structure Sweep (c : List Rn) (ins outs : List Int) : Prop where
 pi : ins.Perm (c.map fun r => r.1)
 po : outs.Perm (c.map fun r => r.2 + 1)
 si : ins.Pairwise (fun x y => x ≤ y)
 so : outs.Pairwise (fun x y => x ≤ y)
 ok : ∀ r ∈ c, okR r
theorem Sweep.len {c : List Rn} {ins outs : List Int} (h : Sweep c ins outs) : outs.length = ins.length := by rw [h.pi.length_eq, h.po.length_eq]; simp
theorem Sweep.lt {c : List Rn} {ins outs : List Int} (h : Sweep c ins outs) (k : Nat) (hk : k < ins.length) : ins.getD k 0 < outs.getD k 0 := by
 have h1 : k < cnt outs (outs.getD k 0) := Srt.cnt_gt (Srt.of h.so) (by rw [h.len]; exact hk) (Int.le_refl _)
 rw [qbj h.po] at h1
 have h2 := (qoo c (fun r hr => (h.ok r hr).2.1) (outs.getD k 0)).2.2
 rw [← qbj h.pi] at h2
 have := Srt.get_le h.si (show k < cnt ins (outs.getD k 0 - 1) by omega)
 omega
theorem Sweep.turns {c : List Rn} {ins outs : List Int} (h : Sweep c ins outs) {s : Sw} (hs : SwI ins outs s) (hi : s.i = ins.length) (hj : s.j = ins.length) : Turns (inR c) s.t ∧ ∀ x ∈ s.t, 1 ≤ x ∧ x ≤ 1000000001 := by
 refine ⟨(hs.turns hi hj h.len).iff fun m => ?_, fun x hx => ?_⟩
 ·rw [qbj h.pi, qbj h.po]
  exact (qoo c (fun r hr => (h.ok r hr).2.1) m).2.1
 ·rcases hs.src x hx with hx | hx
  ·obtain ⟨r, hr, rfl⟩ := List.mem_map.1 (h.pi.mem_iff.1 hx)
   have := h.ok r hr
   unfold okR at this
   omega
  ·obtain ⟨r, hr, rfl⟩ := List.mem_map.1 (h.po.mem_iff.1 hx)
   have := h.ok r hr
   unfold okR at this
   omega
theorem Sweep.of (l : List Rn) : Sweep (q0s l) (q6w ((q0s l).map fun r => r.1)) (q6w ((q0s l).map fun r => r.2 + 1)) :=
 ⟨q41 _, q41 _, q4c _, q4c _, q9o⟩
end
def qw7 : List SOp := [⟨some 2,.assign (.const (.slice none 0 0)),none⟩]
instance : Live qw7 := ⟨[0]⟩
def qw6 : List SOp := [⟨some 8,.move (.tmp 0),none⟩,⟨some 9,.call ⟨.builtin .len,#[.tmp 8],#[23]⟩,none⟩,⟨some 10,.binOp .lss 3 (.tmp 9) (.const (.int .i64 2)) 3,none⟩]
instance : Live qw6 := ⟨[0]⟩
def qw5 : List SOp := [⟨some 11,.buildSlice 23 0 #[],none⟩,⟨some 12,.move (.tmp 0),none⟩,⟨some 13,.call ⟨.builtin .append,#[.tmp 11,.tmp 12],#[23,23]⟩,none⟩,⟨some 2,.assign (.tmp 13),none⟩]
instance : Live qw5 := ⟨[0]⟩
def qw4 : List SOp := [⟨some 14,.move (.tmp 0),none⟩,⟨some 15,.move (.tmp 0),none⟩,⟨some 16,.call ⟨.builtin .len,#[.tmp 15],#[23]⟩,none⟩,⟨some 17,.binOp .quo 3 (.tmp 16) (.const (.int .i64 2)) 3,none⟩,⟨some 18,.slice 23 (.tmp 14) none (some (.tmp 17)) none,none⟩,⟨some 19,.call ⟨.value (.func 168),#[.tmp 18],#[23]⟩,none⟩,⟨some 3,.assign (.tmp 19),none⟩]
instance : Live qw4 := ⟨[0]⟩
def qw3 : List SOp := [⟨some 20,.move (.tmp 0),none⟩,⟨some 21,.move (.tmp 0),none⟩,⟨some 22,.call ⟨.builtin .len,#[.tmp 21],#[23]⟩,none⟩,⟨some 23,.binOp .quo 3 (.tmp 22) (.const (.int .i64 2)) 3,none⟩,⟨some 24,.slice 23 (.tmp 20) (some (.tmp 23)) none none,none⟩,⟨some 25,.call ⟨.value (.func 168),#[.tmp 24],#[23]⟩,none⟩,⟨some 4,.assign (.tmp 25),none⟩]
instance : Live qw3 := ⟨[0,3]⟩
def qw2 : List SOp := [⟨some 26,.move (.tmp 0),none⟩,⟨some 27,.call ⟨.builtin .len,#[.tmp 26],#[23]⟩,none⟩,⟨some 28,.makeSlice 23 (.const (.int .i64 0)) (.tmp 27),none⟩,⟨some 5,.assign (.tmp 28),none⟩]
instance : Live qw2 := ⟨[0,3,4]⟩
def qw1 : List SOp := [⟨some 6,.assign (.const (.int .i64 0)),none⟩,⟨some 7,.assign (.const (.int .i64 0)),none⟩]
instance : Live qw1 := ⟨[3,4,5]⟩
def qw0 : List SOp := [⟨some 29,.move (.tmp 6),none⟩,⟨some 30,.move (.tmp 3),none⟩,⟨some 31,.call ⟨.builtin .len,#[.tmp 30],#[23]⟩,none⟩,⟨some 32,.binOp .lss 3 (.tmp 29) (.tmp 31) 3,none⟩,⟨some 33,.move (.tmp 32),none⟩,⟨some 34,.move (.tmp 7),some ((some 33),false)⟩,⟨some 35,.move (.tmp 4),some ((some 33),false)⟩,⟨some 36,.call ⟨.builtin .len,#[.tmp 35],#[23]⟩,some ((some 33),false)⟩,⟨some 37,.binOp .lss 3 (.tmp 34) (.tmp 36) 3,some ((some 33),false)⟩,⟨some 38,.pick (.tmp 33) (.const (.bool true)) (.tmp 37),none⟩]
instance : Live qw0 := ⟨[3,4,5,6,7]⟩
def qvz : List SOp := [⟨some 39,.move (.tmp 7),none⟩,⟨some 40,.move (.tmp 4),none⟩,⟨some 41,.call ⟨.builtin .len,#[.tmp 40],#[23]⟩,none⟩,⟨some 42,.binOp .eql 3 (.tmp 39) (.tmp 41) 3,none⟩,⟨some 43,.move (.tmp 42),none⟩,⟨some 44,.move (.tmp 6),some ((some 43),false)⟩,⟨some 45,.move (.tmp 3),some ((some 43),false)⟩,⟨some 46,.call ⟨.builtin .len,#[.tmp 45],#[23]⟩,some ((some 43),false)⟩,⟨some 47,.binOp .lss 3 (.tmp 44) (.tmp 46) 3,some ((some 43),false)⟩,⟨some 48,.move (.tmp 47),some ((some 43),false)⟩,⟨some 49,.move (.tmp 3),some ((some 48),true)⟩,⟨some 50,.move (.tmp 6),some ((some 48),true)⟩,⟨some 51,.indexAddr 23 (.tmp 49) (.tmp 50),some ((some 48),true)⟩,⟨some 52,.load 3 (.tmp 51),some ((some 48),true)⟩,⟨some 53,.move (.tmp 4),some ((some 48),true)⟩,⟨some 54,.move (.tmp 7),some ((some 48),true)⟩,⟨some 55,.indexAddr 23 (.tmp 53) (.tmp 54),some ((some 48),true)⟩,⟨some 56,.load 3 (.tmp 55),some ((some 48),true)⟩,⟨some 57,.binOp .leq 3 (.tmp 52) (.tmp 56) 3,some ((some 48),true)⟩,⟨some 58,.pick (.tmp 48) (.tmp 57) (.const (.bool false)),some ((some 43),false)⟩,⟨some 59,.pick (.tmp 43) (.const (.bool true)) (.tmp 58),none⟩]
instance : Live qvz := ⟨[3,4,5,6,7]⟩
def qjr : List SOp := [⟨some 60,.move (.tmp 5),none⟩,⟨some 61,.move (.tmp 3),none⟩,⟨some 62,.move (.tmp 6),none⟩,⟨some 63,.indexAddr 23 (.tmp 61) (.tmp 62),none⟩,⟨some 64,.load 3 (.tmp 63),none⟩,⟨some 65,.buildSlice 23 1 #[(0,.tmp 64)],none⟩,⟨some 66,.call ⟨.builtin .append,#[.tmp 60,.tmp 65],#[23,23]⟩,none⟩,⟨some 5,.assign (.tmp 66),none⟩]
instance : Live qjr := ⟨[3,4,5,6,7]⟩
def qjq : List SOp := [⟨some 67,.move (.tmp 6),none⟩,⟨some 68,.binOp .add 3 (.tmp 67) (.const (.int .i64 1)) 3,none⟩,⟨some 6,.assign (.tmp 68),none⟩]
instance : Live qjq := ⟨[3,4,5,6,7]⟩
def qjp : List SOp := [⟨some 69,.move (.tmp 5),none⟩,⟨some 70,.move (.tmp 4),none⟩,⟨some 71,.move (.tmp 7),none⟩,⟨some 72,.indexAddr 23 (.tmp 70) (.tmp 71),none⟩,⟨some 73,.load 3 (.tmp 72),none⟩,⟨some 74,.buildSlice 23 1 #[(0,.tmp 73)],none⟩,⟨some 75,.call ⟨.builtin .append,#[.tmp 69,.tmp 74],#[23,23]⟩,none⟩,⟨some 5,.assign (.tmp 75),none⟩]
instance : Live qjp := ⟨[3,4,5,6,7]⟩
def qjo : List SOp := [⟨some 76,.move (.tmp 7),none⟩,⟨some 77,.binOp .add 3 (.tmp 76) (.const (.int .i64 1)) 3,none⟩,⟨some 7,.assign (.tmp 77),none⟩]
instance : Live qjo := ⟨[3,4,5,6,7]⟩
def qjn : List SOp := [⟨some 78,.move (.tmp 5),none⟩,⟨some 2,.assign (.tmp 78),none⟩]
instance : Live qjn := ⟨[5]⟩
def qhz : SC :=
 (.seq (.seq (.ops false qw0) (.cond (.tmp 38) .skip (.exit 0))) (.block 1 (.seq (.ops true qvz) (.cond (.tmp 59) (.seq (.ops false qjr) (.ops false qjq)) (.seq (.ops false qjp) (.ops false qjo))))))
def zb2 : SC :=
 (.seq (.ops false qw7) (.seq (.seq (.ops false qw6) (.cond (.tmp 10) (.seq (.ops false qw5) .ret) .skip)) (.seq (.ops false qw4) (.seq (.ops false qw3) (.seq (.ops false qw2) (.seq (.ops false qw1) (.seq (.block 0 (.loop qhz)) (.seq (.ops false qjn) .ret))))))))
theorem zl1 : FnIs Tryz.prog 168 79 [.tmp 2] zb2 := ⟨Tryz.f168, _, Tryz.func168, rfl, rfl, rfl, rfl, by kernel_rfl⟩

theorem q9m {l : List Int} {i : Nat} (h : i < l.length) : (q05 l)[i]? = some (.int .i64 (l.getD i 0)) := q0v (by simp [h])
theorem q6a (l : List Int) (i : Nat) : (q05 l).take i = q05 (l.take i) := by simp [q05]
theorem qai (l : List Int) (i : Nat) : (q05 l).drop i = q05 (l.drop i) := by simp [q05]
theorem q3n (l : List Int) (x : Int) : q05 l ++ [.int .i64 x] = q05 (l ++ [x]) := by simp [q05, encI]
theorem zmk : q05 [] = [] := rfl
def leI (x y : Int) : Bool := decide (x ≤ y)
theorem qf0 {a b : List Int} {i j : Nat} (hi : i < a.length) (h : j = b.length ∨ a.getD i 0 ≤ b.getD j 0) (hj : j ≤ b.length) : List.merge (a.drop i) (b.drop j) leI = a.getD i 0 :: List.merge (a.drop (i + 1)) (b.drop j) leI := by
 rw [List.drop_eq_getElem_cons hi]
 have e : a.getD i 0 = a[i] := by simp [hi]
 rcases Nat.lt_or_ge j b.length with h' | h'
 ·rw [List.drop_eq_getElem_cons h', List.cons_merge_cons]
  have e2 : b.getD j 0 = b[j] := by simp [h']
  rw [e, e2] at h
  have h3 : a[i] ≤ b[j] := by rcases h with h | h; omega; exact h
  simp [leI, h3, e, hi]
 ·rw [List.drop_of_length_le h']
  simp [List.merge, hi]
theorem qcx {a b : List Int} {i j : Nat} (hj : j < b.length) (h : i = a.length ∨ ¬ a.getD i 0 ≤ b.getD j 0) (hi : i ≤ a.length) : List.merge (a.drop i) (b.drop j) leI = b.getD j 0 :: List.merge (a.drop i) (b.drop (j + 1)) leI := by
 rw [List.drop_eq_getElem_cons hj]
 have e2 : b.getD j 0 = b[j] := by simp [hj]
 rcases Nat.lt_or_ge i a.length with h' | h'
 ·rw [List.drop_eq_getElem_cons h', List.cons_merge_cons]
  have e : a.getD i 0 = a[i] := by simp [h']
  rw [e, e2] at h
  have h3 : ¬ a[i] ≤ b[j] := by rcases h with h | h; omega; exact h
  simp [leI, h3, e2, hj]
 ·rw [List.drop_of_length_le h']
  simp [List.merge, hj]
theorem qnv {l a b : List Int} (ha : a.Perm (l.take (l.length / 2))) (hb : b.Perm (l.drop (l.length / 2))) (sa : a.Pairwise (fun x y => x ≤ y)) (sb : b.Pairwise (fun x y => x ≤ y)) : List.merge a b leI = q6w l := by
 have h1 : (List.merge a b leI).Perm l := by
  refine List.Perm.trans (List.merge_perm_append leI) ?_
  refine List.Perm.trans (ha.append hb) ?_
  rw [List.take_append_drop]
 have h2 : (List.merge a b leI).Pairwise (fun x y => leI x y = true) := List.pairwise_merge (le := leI) (fun a b c h1 h2 => by simp [leI] at *; omega) (fun a b => by simp [leI]; omega) _ _ (sa.imp fun {a b} h => by simpa [leI] using h) (sb.imp fun {a b} h => by simpa [leI] using h)
 have h3 := q4c l
 refine List.Perm.eq_of_pairwise (le := fun x y => x ≤ y) (fun a b _ _ h1 h2 => by omega) (h2.imp fun {a b} h => by simpa [leI] using h) h3 (h1.trans (q41 l).symm)
theorem qc1 {l : List Int} (h : l.length < 2) : q6w l = l := by
 have := q41 l
 match l, h with
 | [], _ => exact List.Perm.eq_nil this
 | [x], _ => exact List.Perm.eq_singleton this
theorem zm3 (l : List Int) (hl : l.length ≤ 1000000000) : Ev (En Tryz.prog rfl).P 168 [.sl 1 (q05 l)] (.ret (.sl 1 (q05 (q6w l)))) := by
 suffices h : ∀ n l, l.length ≤ n → l.length ≤ 1000000000 → Ev (En Tryz.prog rfl).P 168 [.sl 1 (q05 l)] (.ret (.sl 1 (q05 (q6w l)))) from h _ l (Nat.le_refl _) hl
 clear hl l
 intro n
 induction n with
 | zero =>
  intro l hn hl
  have : l = [] := List.length_eq_zero_iff.1 (by omega)
  subst this
  refine Ev.of_body zl1 (by simp) (Run.start ?_)
  unfold zb2
  rw [qc1 (by simp), zmk]
  (have hF := True.intro; refine q01 (k:=?_); clear hF)
  exact Fin.tmp' rfl rfl
 | succ n ih =>
 intro l hn hl
 refine Ev.of_body zl1 (by simp) (Run.start ?_)
 unfold zb2
 have e0 := q0i l
 have e1 : (0:Int) ≤ ((l.length / 2 : Nat) : Int) := by omega
 (focus (have hF := (aI (aI @e0 @e1) (aI @q6a @qai)); (repeat' (first | refine go1 (k:=?_) | with_reducible refine Ny.of ?_ ?_ | (refine Hyp.of ?_; intro hc; (try simp only [hc]); (try simp only [Bh] at hc)))); all_goals clear hF))
 ·refine Fin.tmp' ?_ (q03 _)
  rw [qc1 (by omega)]
  rfl
 ·have c1 := ih (l.take (l.length / 2)) (by rw [List.length_take]; omega) (by rw [List.length_take]; omega)
  have c2 := ih (l.drop (l.length / 2)) (by rw [List.length_drop]; omega) (by rw [List.length_drop]; omega)
  have l1 : (q6w (l.take (l.length / 2))).length = l.length / 2 := by rw [q90, List.length_take]; omega
  have l2 : (q6w (l.drop (l.length / 2))).length = l.length - l.length / 2 := by rw [q90, List.length_drop]
  have hm := qnv (q41 (l.take (l.length / 2))) (q41 (l.drop (l.length / 2))) (q4c _) (q4c _)
  generalize q6w (l.take (l.length / 2)) = a at c1 l1 hm
  generalize q6w (l.drop (l.length / 2)) = b at c2 l2 hm
  refine q00 [.sl 1 (q05 (l.take (l.length / 2)))] (he := c1) (k:=?_)
  (have hF := (aI (aI @e0 @e1) (aI @q6a @qai)); refine q01 (k:=?_); clear hF)
  refine q00 [.sl 1 (q05 (l.drop (l.length / 2)))] (he := c2) (k:=?_)
  (have hF := (aI (aI @e0 @e1) (aI @q6a @qai)); refine q01 (k:=?_); clear hF)
  refine Run.while (σ := List Int × Nat × Nat) (fun q => ⟨tms [(3, .sl 1 (q05 a)), (4, .sl 1 (q05 b)), (5, .os 28 q.1.length), (6, .int .i64 q.2.1), (7, .int .i64 q.2.2)], mms [(28, .arr q.1.length 1 (q05 q.1))]⟩)
   (fun q => q.1.length = q.2.1 + q.2.2 ∧ q.2.1 ≤ a.length ∧ q.2.2 ≤ b.length ∧ q.1 ++ List.merge (a.drop q.2.1) (b.drop q.2.2) leI = List.merge a b leI) (fun q => a.length + b.length - q.1.length) ([], 0, 0) (have hW := True.intro; q0g) ⟨rfl, Nat.zero_le _, Nat.zero_le _, by simp⟩ ?_
  rintro ⟨s, i, j⟩ ⟨h1, h2, h3, h4⟩
  dsimp only at h1 h2 h3 h4
  unfold qhz
  have f1 := q0i a
  have f2 := q0i b
  have f3 := q0i s
  (focus (have hF := (aI (aI @f1 (aI @f2 @f3)) (aI @q9m (aI @q3n @Int.natCast_inj))); (repeat' (first | refine go1 (k:=?_) | with_reducible refine Ny.of ?_ ?_ | (refine Hyp.of ?_; intro hc; (try simp only [hc]); (try simp only [Bh] at hc)))); all_goals clear hF))
  ·(refine Fin.nextW (s ++ [a.getD i 0], i + 1, j) ?_ (have hW := True.intro; q0g); (try dsimp only))
   refine ⟨⟨(by first | omega | (simp only [List.length_append, List.length_cons, List.length_nil]; omega)), (by first | omega | (simp only [List.length_append, List.length_cons, List.length_nil]; omega)), h3, ?_⟩, (by first | omega | (simp only [List.length_append, List.length_cons, List.length_nil]; omega))⟩
   rw [← h4, qf0 (i := i) (j := j) (by omega) (.inl hc) h3]; simp
  ·(refine Fin.nextW (s ++ [a.getD i 0], i + 1, j) ?_ (have hW := True.intro; q0g); (try dsimp only))
   refine ⟨⟨(by first | omega | (simp only [List.length_append, List.length_cons, List.length_nil]; omega)), (by first | omega | (simp only [List.length_append, List.length_cons, List.length_nil]; omega)), h3, ?_⟩, (by first | omega | (simp only [List.length_append, List.length_cons, List.length_nil]; omega))⟩
   rw [← h4, qf0 (i := i) (j := j) (by omega) (.inr hc) h3]; simp
  ·(refine Fin.nextW (s ++ [b.getD j 0], i, j + 1) ?_ (have hW := True.intro; q0g); (try dsimp only))
   refine ⟨⟨(by first | omega | (simp only [List.length_append, List.length_cons, List.length_nil]; omega)), h2, (by first | omega | (simp only [List.length_append, List.length_cons, List.length_nil]; omega)), ?_⟩, (by first | omega | (simp only [List.length_append, List.length_cons, List.length_nil]; omega))⟩
   rw [← h4, qcx (i := i) (j := j) (by omega) (.inr hc) h2]; simp
  ·(refine Fin.nextW (s ++ [b.getD j 0], i, j + 1) ?_ (have hW := True.intro; q0g); (try dsimp only))
   refine ⟨⟨(by first | omega | (simp only [List.length_append, List.length_cons, List.length_nil]; omega)), h2, (by first | omega | (simp only [List.length_append, List.length_cons, List.length_nil]; omega)), ?_⟩, (by first | omega | (simp only [List.length_append, List.length_cons, List.length_nil]; omega))⟩
   rw [← h4, qcx (i := i) (j := j) (by omega) (.inl (by omega)) h2]; simp
  ·have hs : s = q6w l := by
    rw [← hm, ← h4, show i = a.length by omega, show j = b.length by omega, List.drop_length, List.drop_length]
    simp [List.merge]
   rw [← hs]
   exact qfz (.sl 1 (q05 s))

def zbx : List SOp := [⟨some 2,.alloc 26,none⟩]
instance : Live zbx := ⟨[0]⟩
def zbw : List SOp := [⟨some 3,.alloc 26,none⟩]
instance : Live zbw := ⟨[0,2]⟩
def zbv : List SOp := [⟨some 11,.makeSlice 23 (.const (.int .i64 16)) (.const (.int .i64 16)),none⟩,⟨some 4,.assign (.tmp 11),none⟩]
instance : Live zbv := ⟨[0,2,3]⟩
def zbu : List SOp := [⟨some 5,.assign (.const (.int .i64 0)),none⟩]
instance : Live zbu := ⟨[0,2,3,4]⟩
def zbt : List SOp := [⟨some 12,.move (.const (.int .i64 0)),none⟩]
instance : Live zbt := ⟨[0,2,3,4,5]⟩
def zbs : List SOp := [⟨some 13,.binOp .lss 3 (.tmp 12) (.const (.int .i64 16)) 3,none⟩]
instance : Live zbs := ⟨[0,2,3,4,5,12]⟩
def zbr : List SOp := [⟨some 14,.move (.tmp 12),none⟩,⟨some 6,.assign (.tmp 14),none⟩]
instance : Live zbr := ⟨[0,2,3,4,5,12]⟩
def zbq : List SOp := [⟨some 16,.move (.tmp 0),none⟩,⟨some 17,.move (.tmp 6),none⟩,⟨some 18,.nilCheck (.tmp 16),none⟩,⟨some 19,.indexAddr 151 (.tmp 18) (.tmp 17),none⟩,⟨some 20,.load 149 (.tmp 19),none⟩,⟨some 21,.call ⟨.value (.func 134),#[.tmp 20],#[149]⟩,none⟩,⟨some 15,.move (.tmp 21),none⟩,⟨some 22,.extract (.tmp 15) 0,none⟩,⟨some 23,.extract (.tmp 15) 1,none⟩,⟨some 7,.assign (.tmp 22),none⟩,⟨some 8,.assign (.tmp 23),none⟩]
instance : Live zbq := ⟨[0,2,3,4,5,6,12]⟩
def zbp : List SOp := [⟨some 24,.move (.tmp 4),none⟩,⟨some 25,.move (.tmp 6),none⟩,⟨some 26,.move (.tmp 7),none⟩,⟨some 27,.indexAddr 23 (.tmp 24) (.tmp 25),none⟩,⟨none,.store 3 (.tmp 27) (.tmp 26),none⟩]
instance : Live zbp := ⟨[0,2,3,4,5,6,7,8,12]⟩
def qsc : List SOp := [⟨some 28,.move (.tmp 7),none⟩,⟨some 29,.binOp .gtr 3 (.tmp 28) (.const (.int .i64 0)) 3,none⟩]
instance : Live qsc := ⟨[0,2,3,4,5,6,7,8,12]⟩
def qsb : List SOp := [⟨some 30,.move (.tmp 6),none⟩,⟨some 31,.binOp .add 3 (.tmp 30) (.const (.int .i64 1)) 3,none⟩,⟨some 5,.assign (.tmp 31),none⟩]
instance : Live qsb := ⟨[0,2,3,4,6,8,12]⟩
def qsa : List SOp := [⟨some 32,.move (.tmp 8),none⟩,⟨some 33,.call ⟨.builtin .len,#[.tmp 32],#[149]⟩,none⟩,⟨some 34,.move (.const (.int .i64 0)),none⟩]
instance : Live qsa := ⟨[0,2,3,4,5,6,8,12]⟩
def qs9 : List SOp := [⟨some 35,.binOp .lss 3 (.tmp 34) (.tmp 33) 3,none⟩]
instance : Live qs9 := ⟨[0,2,3,4,5,6,12,32,33,34]⟩
def qs8 : List SOp := [⟨some 36,.indexAddr 149 (.tmp 32) (.tmp 34),none⟩,⟨some 37,.load 179 (.tmp 36),none⟩,⟨some 10,.alloc 179,none⟩,⟨none,.store 179 (.tmp 10) (.tmp 37),none⟩]
instance : Live qs8 := ⟨[0,2,3,4,5,6,12,32,33,34]⟩
def qs7 : List SOp := [⟨some 38,.fieldAddr 26 (.tmp 3) 1,none⟩,⟨some 39,.load 24 (.tmp 38),none⟩,⟨some 40,.move (.tmp 6),none⟩,⟨some 41,.fieldAddr 179 (.tmp 10) 0,none⟩,⟨some 42,.load 3 (.tmp 41),none⟩,⟨some 43,.fieldAddr 179 (.tmp 10) 1,none⟩,⟨some 44,.load 3 (.tmp 43),none⟩,⟨some 45,.build 127 #[(0,.tmp 40),(1,.tmp 42),(2,.tmp 44)],none⟩,⟨some 46,.buildSlice 24 1 #[(0,.tmp 45)],none⟩,⟨some 47,.call ⟨.builtin .append,#[.tmp 39,.tmp 46],#[24,24]⟩,none⟩,⟨some 48,.fieldAddr 26 (.tmp 3) 1,none⟩,⟨none,.store 24 (.tmp 48) (.tmp 47),none⟩]
instance : Live qs7 := ⟨[0,2,3,4,5,6,10,12,32,33,34]⟩
def qs6 : List SOp := [⟨some 49,.binOp .add 3 (.tmp 34) (.const (.int .i64 1)) 3,none⟩,⟨some 34,.move (.tmp 49),none⟩]
instance : Live qs6 := ⟨[0,2,3,4,5,6,12,32,33,34]⟩
def qs5 : List SOp := [⟨some 50,.binOp .add 3 (.tmp 12) (.const (.int .i64 1)) 3,none⟩,⟨some 12,.move (.tmp 50),none⟩]
instance : Live qs5 := ⟨[0,2,3,4,5,12]⟩
def qs4 : List SOp := [⟨some 51,.move (.tmp 5),none⟩,⟨some 52,.binOp .gtr 3 (.tmp 51) (.const (.int .i64 0)) 3,none⟩]
instance : Live qs4 := ⟨[2,3,4,5]⟩
def qs3 : List SOp := [⟨some 53,.move (.tmp 4),none⟩,⟨some 54,.move (.tmp 5),none⟩,⟨some 55,.slice 23 (.tmp 53) none (some (.tmp 54)) none,none⟩,⟨some 56,.call ⟨.value (.func 135),#[.tmp 55],#[23]⟩,none⟩,⟨some 57,.fieldAddr 26 (.tmp 3) 0,none⟩,⟨none,.store 23 (.tmp 57) (.tmp 56),none⟩]
instance : Live qs3 := ⟨[2,3,4,5]⟩
def qs2 : List SOp := [⟨some 58,.load 26 (.tmp 3),none⟩,⟨none,.store 26 (.tmp 2) (.tmp 58),none⟩]
instance : Live qs2 := ⟨[2,3]⟩
def qr9 : SC :=
 (.seq (.ops false qs9) (.seq (.cond (.tmp 35) .skip (.exit 2)) (.seq (.block 3 (.seq (.ops false qs8) (.ops false qs7))) (.ops false qs6))))
def qra : SC :=
 (.seq (.ops false zbs) (.seq (.cond (.tmp 13) .skip (.exit 0)) (.seq (.block 1 (.seq (.ops false zbr) (.seq (.ops false zbq) (.seq (.ops false zbp) (.seq (.seq (.ops false qsc) (.cond (.tmp 29) (.ops false qsb) .skip)) (.seq (.ops false qsa) (.block 2 (.loop qr9)))))))) (.ops false qs5))))
def t_k97 : SC :=
 (.seq (.ops false zbx) (.seq (.ops false zbw) (.seq (.ops false zbv) (.seq (.ops false zbu) (.seq (.seq (.ops false zbt) (.block 0 (.loop qra))) (.seq (.seq (.ops false qs4) (.cond (.tmp 52) (.ops false qs3) .skip)) (.seq (.ops false qs2) .ret)))))))
theorem it_k97 : FnIs Tryz.prog 97 59 [.cell 2 26] t_k97 := ⟨Tryz.f97, _, Tryz.func97, rfl, rfl, rfl, rfl, by kernel_rfl⟩

theorem ev_k134 (l : List Rn) (hl : l.length ≤ 900000000) : Ev (En Tryz.prog rfl).P 134 [.sl 2 (q06 l)] (.ret (.tup [.int .i64 (q1t (q0y l)).1, .sl 2 (q06 (q1t (q0y l)).2)])) :=
 z9r l (q0y l) (by have := q1z l; omega) (qdi l hl)
def q8o (t : Tab) (r : Nat) : Int := (q1t (q0y (t.getD r []))).1
def q5t (t : Tab) (r : Nat) : List Rn := (q1t (q0y (t.getD r []))).2
def q8z (r : Nat) (x : Rn) : Sn := ((r : Int), x.1, x.2)
def q5p (t : Tab) (r : Nat) : List Sn := (q5t t r).map (q8z r)
def q1v (t : Tab) (n : Nat) : List Sn := (List.range n).flatMap (q5p t)
def q2t (t : Tab) (n : Nat) : Nat := (List.range n).foldl (fun a r => if 0 < q8o t r then r + 1 else a) 0
def q2m (t : Tab) (n : Nat) : List Int := (List.range n).map (q8o t)
def qap (t : Tab) (n : Nat) : List Int := q2m t n ++ List.replicate (16 - n) 0
def q5u (t : Tab) : Pst := ⟨(q2m t 16).take (q2t t 16), q1v t 16⟩
theorem qa7 (l : List Rn) : (q1t l).2.length ≤ l.length := by
 cases l with
 | nil => simp [q1t]
 | cons x l => simp only [q1t]; split <;> simp
theorem qj6 {t : Tab} {n : Nat} (h : TabLe t n) (r : Nat) : (q5t t r).length ≤ n := by
 have h1 := qa7 (q0y (t.getD r []))
 have h2 := q1z (t.getD r [])
 have h3 := h.2 r
 unfold q5t
 omega
theorem q6t (t : Tab) (n : Nat) : q1v t (n + 1) = q1v t n ++ q5p t n := by
 unfold q1v
 rw [List.range_succ, List.flatMap_append]
 simp
theorem qaj {t : Tab} {n : Nat} (h : TabLe t n) : ∀ m, (q1v t m).length ≤ m * n
 | 0 => by simp [q1v]
 | m + 1 => by
  rw [q6t, List.length_append, Nat.succ_mul]
  have h1 := qaj h m
  have h2 := qj6 h m
  simp only [q5p, List.length_map]
  omega
theorem q7m (t : Tab) (n : Nat) : q2t t (n + 1) = if 0 < q8o t n then n + 1 else q2t t n := by
 unfold q2t
 rw [List.range_succ, List.foldl_append]
 rfl
theorem q91 (t : Tab) : ∀ n, q2t t n ≤ n
 | 0 => Nat.le_refl _
 | n + 1 => by rw [q7m]; split; omega; have := q91 t n; omega
theorem qd2 (t : Tab) (n : Nat) : q2m t (n + 1) = q2m t n ++ [q8o t n] := by
 unfold q2m
 rw [List.range_succ, List.map_append]
 rfl
theorem q2v (t : Tab) (n : Nat) : (q2m t n).length = n := by simp [q2m]
theorem qb7 (t : Tab) {n : Nat} (h : n ≤ 16) : (qap t n).length = 16 := by
 simp [qap, q2v]; omega
theorem qr3 (t : Tab) {n : Nat} (h : n < 16) : (q05 (qap t n))[n]? = some (.int .i64 0) := by
 refine q0v ?_
 unfold qap
 rw [List.getElem?_append_right (by rw [q2v]; exact Nat.le_refl _), q2v, Nat.sub_self, List.getElem?_replicate, if_pos (by omega)]
theorem qr2 (t : Tab) {n : Nat} (h : n < 16) : (q05 (qap t n)).set n (.int .i64 (q8o t n)) = q05 (qap t (n + 1)) := by
 have e : (qap t n).set n (q8o t n) = qap t (n + 1) := by
  unfold qap
  rw [List.set_append_right _ _ (by rw [q2v]; exact Nat.le_refl _), q2v, Nat.sub_self, show 16 - n = (16 - (n + 1)) + 1 by omega, List.replicate_succ, List.set_cons_zero, qd2, List.append_assoc]
  rfl
 rw [← e]
 simp [q05, encI, List.map_set]
theorem q7u (l : List Sn) (a b c : Int) : q0d l ++ [.agg [.int .i64 a, .int .i64 b, .int .i64 c]] = q0d (l ++ [(a, b, c)]) := by simp [q0d, qqj]
def zbj (t : Tab) (r c : Nat) : List Sn := q1v t r ++ ((q5t t r).take c).map (q8z r)
theorem zbh (t : Tab) (r : Nat) : zbj t r 0 = q1v t r := by simp [zbj]
theorem zbi {t : Tab} {r c : Nat} {x : Rn} (hx : (q5t t r)[c]? = some x) : zbj t r (c + 1) = zbj t r c ++ [((r : Int), x.1, x.2)] := by
 unfold zbj
 rw [List.take_add_one, hx]
 simp [q8z]
theorem rowC_all (t : Tab) (r : Nat) : zbj t r (q5t t r).length = q1v t (r + 1) := by
 unfold zbj
 rw [q6t, List.take_length]
 rfl
theorem rowC_len (t : Tab) (r c : Nat) : (zbj t r c).length ≤ (q1v t r).length + (q5t t r).length := by
 simp only [zbj, List.length_append, List.length_map, List.length_take]
 omega
theorem z7q (t : Tab) {n : Nat} (ht : TabLe t n) (hn : n ≤ 50000000) : Ev (En Tryz.prog rfl).P 97 [.sptr (q1w t)] (.ret (q0f (q5u t))) := by
 refine Ev.of_body it_k97 (by simp) (Run.start ?_)
 unfold t_k97
 have h16 : (q1w t).length = 16 := by rw [q55, ht.1]
 (have hF := @h16; refine q01 (k:=?_); clear hF)
 refine Run.wk (Wk.own_cells (k := 3) (cs' := [.own 1 [], .own 3 []]) rfl rfl ?_) ?_
 ·intro i x y hx hy
  match i with
  | 0 => simp at hx hy; subst hx; subst hy; exact .inr ⟨rfl, 1, rfl⟩
  | 1 => simp at hx hy; subst hx; subst hy; exact .inr ⟨rfl, 3, rfl⟩
  | i + 2 => simp at hx
 refine Run.while (σ := Nat) (fun r => ⟨tms [(0, .sptr (q1w t)), (2, .ptr 2 0), (3, .ptr 3 0), (4, .os 11 0), (5, .int .i64 (q2t t r)), (12, .int .i64 r)], mms [(2, .cells [.nil, .nil]), (3, .cells [.own 1 [], .own 3 (q0d (q1v t r))]), (11, .arr 0 1 (q05 (qap t r)))]⟩)
  (fun r => r ≤ 16) (fun r => 16 - r) 0 (have hW := @q1b; q0g) (Nat.zero_le _) ?_
 intro r hr
 have g0 : (q05 (qap t r)).length = 16 := by rw [q0i, qb7 t hr]
 have hsz := q91 t r
 unfold qra
 by_cases hlt : r < 16
 ·have hrt : r < t.length := by rw [ht.1]; exact hlt
  have hq := ht.2 r
  have g1 := q7j (q67 hrt)
  have g2 := qr3 t hlt
  have g3 := qr2 t hlt
  have hcall := ev_k134 (t.getD r []) (by omega)
  have hrl := qj6 ht r
  have hcl := qaj ht r
  have hcl2 : r * n ≤ 16 * n := Nat.mul_le_mul_right n hr
  have g4 := q0u (q5t t r)
  have hs1 := q7m t r
  change Ev _ _ _ (.ret (.tup [.int .i64 (q8o t r), .sl 2 (q06 (q5t t r))])) at hcall
  (have hF := (aI (aI @h16 @g0) (aI @g1 @g2)); refine q01 (k:=?_); clear hF)
  refine q00 [.sl 2 (q06 (t.getD r []))] (he := hcall) (k:=?_)
  (focus (have hF := (aI (aI @h16 (aI @g0 @g1)) (aI @g2 (aI @g3 @g4))); (repeat' (first | refine go1 (k:=?_) | with_reducible refine Ny.of ?_ ?_ | (refine Hyp.of ?_; intro hc; (try simp only [hc]); (try simp only [Bh] at hc)))); all_goals clear hF))
  all_goals
   refine Run.while (σ := Nat) (fun c => ⟨tms [(0, .sptr (q1w t)), (2, .ptr 2 0), (3, .ptr 3 0), (4, .os 11 0), (5, .int .i64 (q2t t (r + 1))), (6, .int .i64 r), (12, .int .i64 r), (32, .sl 2 (q06 (q5t t r))), (33, .int .i64 (q5t t r).length), (34, .int .i64 c)], mms [(2, .cells [.nil, .nil]), (3, .cells [.own 1 [], .own 3 (q0d (zbj t r c))]), (11, .arr 0 1 (q05 (qap t (r + 1))))]⟩)
    (fun c => c ≤ (q5t t r).length) (fun c => (q5t t r).length - c) 0 (have hW := (aI (aI @q1b @hs1) (aI @hc (aI @g3 @zbh))); q0g) (Nat.zero_le _) ?_
   intro c hcc
   unfold qr9
   by_cases hclt : c < (q5t t r).length
   ·obtain ⟨x, hx⟩ : ∃ x, (q5t t r)[c]? = some x := ⟨(q5t t r)[c], by simp [hclt]⟩
    have k1 : (q06 (q5t t r))[c]? = some (.agg [.int .i64 x.1, .int .i64 x.2]) := q39 hx
    have hnx := zbi hx
    have hcl3 := rowC_len t r c
    generalize zbj t r c = cl at hnx hcl3 ⊢
    have k2 := q1e cl
    (have hF := (aI (aI @g4 @k1) (aI @k2 @q7u)); refine q01 (k:=?_); clear hF)
    (refine Fin.nextW (c + 1) ?_ (have hW := (aI @hnx @q1b); q0g); (try dsimp only))
    omega
   ·rw [show c = (q5t t r).length by omega, rowC_all]
    (have hF := @g4; refine q01 (k:=?_); clear hF)
    (refine Fin.nextW (r + 1) ?_ (have hW := @q1b; q0g); (try dsimp only))
    omega
 ·have hre : r = 16 := by omega
  subst hre
  have hv : qap t 16 = q2m t 16 := by simp [qap]
  rw [hv] at g0 ⊢
  have hll := q2v t 16
  have hlz : ((q2m t 16).take (q2t t 16)).length ≤ 16 := by rw [List.length_take]; omega
  have hres : q5u t = ⟨(q2m t 16).take (q2t t 16), q1v t 16⟩ := rfl
  rw [hres]
  have hz : ¬ (0 < (q2t t 16 : Int)) → (q2m t 16).take (q2t t 16) = [] := fun h => by rw [show q2t t 16 = 0 by omega]; rfl
  refine Run.wk (Wk.freeze (k := 3) (cs := [.own 1 [], .own 3 (q0d (q1v t 16))]) rfl) ?_
  refine Run.wk (s' := ⟨tms [(0, .sptr (q1w t)), (2, .ptr 2 0), (3, .ptr 3 0), (4, .os 11 0), (5, .int .i64 (q2t t 16)), (12, .int .i64 16)], mms [(2, .cells [.nil, .nil]), (3, .cells [.sl 1 [], .sl 3 (q0d (q1v t 16))]), (11, .arr 0 1 (q05 (q2m t 16)))]⟩) (have hW := @q1b; q0g) ?_
  (focus (have hF := (aI @g0 @q6a); (repeat' (first | refine go1 (k:=?_) | with_reducible refine Ny.of ?_ ?_ | (refine Hyp.of ?_; intro hc; (try simp only [hc]); (try simp only [Bh] at hc)))); all_goals clear hF))
  ·refine q00 [.sl 1 (q05 ((q2m t 16).take (q2t t 16)))] (he := ev_k135 _ (by omega)) (k:=?_)
   (have hF := @g0; refine q01 (k:=?_); clear hF)
   exact Fin.all rfl (by simp [q0k, AVal.stb, q03, q04, fzc, q4i]) rfl
  ·have := hz hc
   rw [this]
   exact Fin.all rfl (by simp [q0k, AVal.stb, q03, q04, fzc, q4i]) rfl

theorem qj5 : ∀ {t t' : List Int}, t.Pairwise (fun x y => x < y) → t'.Pairwise (fun x y => x < y) → (∀ m, cnt t m % 2 = 1 ↔ cnt t' m % 2 = 1) → t = t'
 | [], [], _, _, _ => rfl
 | [], y :: t', _, h2, h => by
  have := (h y).2
  rw [List.pairwise_cons] at h2
  rw [q22, q3y fun x hx => h2.1 x hx, q6s] at this
  simp at this
 | x :: t, [], h1, _, h => by
  have := (h x).1
  rw [List.pairwise_cons] at h1
  rw [q22, q3y fun y hy => h1.1 y hy, q6s] at this
  simp at this
 | x :: t, y :: t', h1, h2, h => by
  rw [List.pairwise_cons] at h1 h2
  have hxy : x = y := by
   rcases Int.lt_trichotomy x y with hl | he | hl
   ·have := (h x).1
    rw [q22, q3y fun z hz => h1.1 z hz, q22, q3y (l := t') fun z hz => by have := h2.1 z hz; omega, if_pos (Int.le_refl _), if_neg (by omega)] at this
    exact absurd (this rfl) (by decide)
   ·exact he
   ·have := (h y).2
    rw [q22 y, q3y fun z hz => h2.1 z hz, q22, q3y (l := t) fun z hz => by have := h1.1 z hz; omega, if_pos (Int.le_refl _), if_neg (by omega)] at this
    exact absurd (this rfl) (by decide)
  subst hxy
  rw [qj5 h1.2 h2.2 fun m => ?_]
  have := h m
  rw [q22, q22] at this
  split at this
  ·omega
  ·omega
theorem Turns.uniq {q : Int → Prop} {t t' : List Int} (h : Turns q t) (h' : Turns q t') : t = t' := qj5 h.rise h'.rise fun m => by rw [← h.mem, ← h'.mem]
def q3r (c : List Rn) : List Int := c.flatMap fun r => [r.1, r.2 + 1]
theorem q4s (x : Rn) (c : List Rn) : q3r (x :: c) = x.1 :: (x.2 + 1) :: q3r c := rfl
theorem qhs {x : Rn} {c : List Rn} (h : Can (x :: c)) : ∀ y ∈ q3r c, x.2 + 1 < y := by
 intro y hy
 simp only [q3r, List.mem_flatMap, List.mem_cons, List.not_mem_nil, or_false] at hy
 obtain ⟨r, hr, hy⟩ := hy
 have h1 := (Can.cons_iff.1 h).2.1 r hr
 have h2 := h.2 r (by simp [hr])
 unfold sepR at h1
 unfold okR at h2
 omega
theorem qbt : ∀ {c : List Rn}, Can c → Turns (inR c) (q3r c)
 | [], _ => ⟨.nil, rfl, fun m => by simp [q3r, q6s, q29]⟩
 | x :: c, h => by
  have ih := qbt h.tail
  have ha := qhs h
  have hx := (Can.cons_iff.1 h).1
  unfold okR at hx
  refine ⟨?_, ?_, fun m => ?_⟩
  ·rw [q4s, List.pairwise_cons, List.pairwise_cons]
   refine ⟨fun y hy => ?_, fun y hy => ha y hy, ih.rise⟩
   rcases List.mem_cons.1 hy with rfl | hy
   ·omega
   ·have := ha y hy; omega
  ·rw [q4s]
   have := ih.even
   simp only [List.length_cons]
   omega
  ·rw [q4s, q22, q22, q0t, ih.mem]
   by_cases h1 : x.2 + 1 ≤ m
   ·rw [if_pos h1, if_pos (by omega)]
    constructor
    ·rintro (h | h)
     ·omega
     ·omega
    ·intro h; exact .inr (by omega)
   ·rw [if_neg h1, q3y (l := q3r c) fun y hy => by have := ha y hy; omega]
    by_cases h2 : x.1 ≤ m
    ·rw [if_pos h2]
     exact ⟨fun _ => rfl, fun _ => .inl (by omega)⟩
    ·rw [if_neg h2]
     constructor
     ·rintro (h | h)
      ·omega
      ·omega
     ·intro h; omega
theorem q9w (c : List Rn) : (q3r c).length = 2 * c.length := by
 induction c with
 | nil => rfl
 | cons x c ih => rw [q4s]; simp only [List.length_cons, ih]; omega
def q0p (l : List Rn) : List Int := q3r (q0y l)
theorem zax {l : List Rn} {t : List Int} (h : Turns (inR (q0s l)) t) : t = q0p l :=
 h.uniq ((qbt (q1d l)).iff fun m => by rw [q2k, z7y])

def qyt : List SOp := [⟨some 4,.assign (.const (.slice none 0 0)),none⟩]
instance : Live qyt := ⟨[0,1]⟩
def qys : List SOp := [⟨some 5,.assign (.const (.slice none 0 0)),none⟩,⟨some 6,.assign (.const (.slice none 0 0)),none⟩]
instance : Live qys := ⟨[0,1]⟩
def qyr : List SOp := [⟨some 7,.assign (.const (.int .i64 0)),none⟩]
instance : Live qyr := ⟨[0,1,5,6]⟩
def qyq : List SOp := [⟨some 14,.move (.tmp 7),none⟩,⟨some 15,.move (.tmp 0),none⟩,⟨some 16,.call ⟨.builtin .len,#[.tmp 15],#[23]⟩,none⟩,⟨some 17,.binOp .lss 3 (.tmp 14) (.tmp 16) 3,none⟩]
instance : Live qyq := ⟨[0,1,5,6,7]⟩
def qyp : List SOp := [⟨some 20,.move (.tmp 0),none⟩,⟨some 21,.move (.tmp 7),none⟩,⟨some 22,.indexAddr 23 (.tmp 20) (.tmp 21),none⟩,⟨some 23,.load 3 (.tmp 22),none⟩,⟨some 24,.call ⟨.builtin .max,#[.tmp 23,.const (.int .i64 1)],#[3,3]⟩,none⟩,⟨some 25,.move (.tmp 1),none⟩,⟨some 26,.move (.tmp 7),none⟩,⟨some 27,.indexAddr 23 (.tmp 25) (.tmp 26),none⟩,⟨some 28,.load 3 (.tmp 27),none⟩,⟨some 29,.call ⟨.builtin .min,#[.tmp 28,.const (.int .i64 1000000000)],#[3,3]⟩,none⟩,⟨some 8,.assign (.tmp 24),none⟩,⟨some 9,.assign (.tmp 29),none⟩]
instance : Live qyp := ⟨[0,1,5,6,7]⟩
def qyo : List SOp := [⟨some 30,.move (.tmp 8),none⟩,⟨some 31,.move (.tmp 9),none⟩,⟨some 32,.binOp .leq 3 (.tmp 30) (.tmp 31) 3,none⟩]
instance : Live qyo := ⟨[0,1,5,6,7,8,9]⟩
def qyn : List SOp := [⟨some 33,.move (.tmp 5),none⟩,⟨some 34,.move (.tmp 8),none⟩,⟨some 35,.buildSlice 23 1 #[(0,.tmp 34)],none⟩,⟨some 36,.call ⟨.builtin .append,#[.tmp 33,.tmp 35],#[23,23]⟩,none⟩,⟨some 5,.assign (.tmp 36),none⟩]
instance : Live qyn := ⟨[0,1,5,6,7,8,9]⟩
def qym : List SOp := [⟨some 37,.move (.tmp 6),none⟩,⟨some 38,.move (.tmp 9),none⟩,⟨some 39,.binOp .add 3 (.tmp 38) (.const (.int .i64 1)) 3,none⟩,⟨some 40,.buildSlice 23 1 #[(0,.tmp 39)],none⟩,⟨some 41,.call ⟨.builtin .append,#[.tmp 37,.tmp 40],#[23,23]⟩,none⟩,⟨some 6,.assign (.tmp 41),none⟩]
instance : Live qym := ⟨[0,1,5,6,7,9]⟩
def qyl : List SOp := [⟨some 18,.move (.tmp 7),none⟩,⟨some 19,.binOp .add 3 (.tmp 18) (.const (.int .i64 1)) 3,none⟩,⟨some 7,.assign (.tmp 19),none⟩]
instance : Live qyl := ⟨[0,1,5,6,7]⟩
def ql8 : List SOp := [⟨some 42,.move (.tmp 5),none⟩,⟨some 43,.call ⟨.value (.func 168),#[.tmp 42],#[23]⟩,none⟩,⟨some 5,.assign (.tmp 43),none⟩]
instance : Live ql8 := ⟨[5,6]⟩
def ql7 : List SOp := [⟨some 44,.move (.tmp 6),none⟩,⟨some 45,.call ⟨.value (.func 168),#[.tmp 44],#[23]⟩,none⟩,⟨some 6,.assign (.tmp 45),none⟩]
instance : Live ql7 := ⟨[5,6]⟩
def ql6 : List SOp := [⟨some 10,.assign (.const (.slice none 0 0)),none⟩]
instance : Live ql6 := ⟨[5,6]⟩
def ql5 : List SOp := [⟨some 11,.assign (.const (.int .i64 0)),none⟩,⟨some 12,.assign (.const (.int .i64 0)),none⟩]
instance : Live ql5 := ⟨[5,6,10]⟩
def ql4 : List SOp := [⟨some 13,.assign (.const (.int .i64 0)),none⟩]
instance : Live ql4 := ⟨[5,6,10,11,12]⟩
def ql3 : List SOp := [⟨some 46,.move (.tmp 13),none⟩,⟨some 47,.move (.tmp 5),none⟩,⟨some 48,.call ⟨.builtin .len,#[.tmp 47],#[23]⟩,none⟩,⟨some 49,.binOp .lss 3 (.tmp 46) (.tmp 48) 3,none⟩,⟨some 50,.move (.tmp 49),none⟩,⟨some 51,.move (.tmp 12),some ((some 50),false)⟩,⟨some 52,.move (.tmp 6),some ((some 50),false)⟩,⟨some 53,.call ⟨.builtin .len,#[.tmp 52],#[23]⟩,some ((some 50),false)⟩,⟨some 54,.binOp .lss 3 (.tmp 51) (.tmp 53) 3,some ((some 50),false)⟩,⟨some 55,.pick (.tmp 50) (.const (.bool true)) (.tmp 54),none⟩]
instance : Live ql3 := ⟨[5,6,10,11,12,13]⟩
def ql2 : List SOp := [⟨some 56,.move (.tmp 13),none⟩,⟨some 57,.move (.tmp 5),none⟩,⟨some 58,.call ⟨.builtin .len,#[.tmp 57],#[23]⟩,none⟩,⟨some 59,.binOp .lss 3 (.tmp 56) (.tmp 58) 3,none⟩,⟨some 60,.move (.tmp 59),none⟩,⟨some 61,.move (.tmp 5),some ((some 60),true)⟩,⟨some 62,.move (.tmp 13),some ((some 60),true)⟩,⟨some 63,.indexAddr 23 (.tmp 61) (.tmp 62),some ((some 60),true)⟩,⟨some 64,.load 3 (.tmp 63),some ((some 60),true)⟩,⟨some 65,.move (.tmp 6),some ((some 60),true)⟩,⟨some 66,.move (.tmp 12),some ((some 60),true)⟩,⟨some 67,.indexAddr 23 (.tmp 65) (.tmp 66),some ((some 60),true)⟩,⟨some 68,.load 3 (.tmp 67),some ((some 60),true)⟩,⟨some 69,.binOp .leq 3 (.tmp 64) (.tmp 68) 3,some ((some 60),true)⟩,⟨some 70,.pick (.tmp 60) (.tmp 69) (.const (.bool false)),none⟩]
instance : Live ql2 := ⟨[5,6,10,11,12,13]⟩
def ql1 : List SOp := [⟨some 71,.move (.tmp 11),none⟩,⟨some 72,.binOp .eql 3 (.tmp 71) (.const (.int .i64 0)) 3,none⟩]
instance : Live ql1 := ⟨[5,6,10,11,12,13]⟩
def ql0 : List SOp := [⟨some 73,.move (.tmp 10),none⟩,⟨some 74,.move (.tmp 5),none⟩,⟨some 75,.move (.tmp 13),none⟩,⟨some 76,.indexAddr 23 (.tmp 74) (.tmp 75),none⟩,⟨some 77,.load 3 (.tmp 76),none⟩,⟨some 78,.buildSlice 23 1 #[(0,.tmp 77)],none⟩,⟨some 79,.call ⟨.builtin .append,#[.tmp 73,.tmp 78],#[23,23]⟩,none⟩,⟨some 10,.assign (.tmp 79),none⟩]
instance : Live ql0 := ⟨[5,6,10,11,12,13]⟩
def qkz : List SOp := [⟨some 80,.move (.tmp 11),none⟩,⟨some 81,.binOp .add 3 (.tmp 80) (.const (.int .i64 1)) 3,none⟩,⟨some 11,.assign (.tmp 81),none⟩]
instance : Live qkz := ⟨[5,6,10,11,12,13]⟩
def qky : List SOp := [⟨some 82,.move (.tmp 13),none⟩,⟨some 83,.binOp .add 3 (.tmp 82) (.const (.int .i64 1)) 3,none⟩,⟨some 13,.assign (.tmp 83),none⟩]
instance : Live qky := ⟨[5,6,10,11,12,13]⟩
def qkx : List SOp := [⟨some 84,.move (.tmp 11),none⟩,⟨some 85,.binOp .sub 3 (.tmp 84) (.const (.int .i64 1)) 3,none⟩,⟨some 11,.assign (.tmp 85),none⟩]
instance : Live qkx := ⟨[5,6,10,11,12,13]⟩
def qkw : List SOp := [⟨some 86,.move (.tmp 11),none⟩,⟨some 87,.binOp .eql 3 (.tmp 86) (.const (.int .i64 0)) 3,none⟩]
instance : Live qkw := ⟨[5,6,10,11,12,13]⟩
def qkv : List SOp := [⟨some 88,.move (.tmp 10),none⟩,⟨some 89,.move (.tmp 6),none⟩,⟨some 90,.move (.tmp 12),none⟩,⟨some 91,.indexAddr 23 (.tmp 89) (.tmp 90),none⟩,⟨some 92,.load 3 (.tmp 91),none⟩,⟨some 93,.buildSlice 23 1 #[(0,.tmp 92)],none⟩,⟨some 94,.call ⟨.builtin .append,#[.tmp 88,.tmp 93],#[23,23]⟩,none⟩,⟨some 10,.assign (.tmp 94),none⟩]
instance : Live qkv := ⟨[5,6,10,11,12,13]⟩
def qku : List SOp := [⟨some 95,.move (.tmp 12),none⟩,⟨some 96,.binOp .add 3 (.tmp 95) (.const (.int .i64 1)) 3,none⟩,⟨some 12,.assign (.tmp 96),none⟩]
instance : Live qku := ⟨[5,6,10,11,12,13]⟩
def qkt : List SOp := [⟨some 97,.move (.tmp 10),none⟩,⟨some 4,.assign (.tmp 97),none⟩]
instance : Live qkt := ⟨[10]⟩
def qi8 : SC :=
 (.seq (.seq (.ops false qyq) (.cond (.tmp 17) .skip (.exit 0))) (.seq (.block 1 (.seq (.ops true qyp) (.seq (.ops false qyo) (.cond (.tmp 32) (.seq (.ops false qyn) (.ops false qym)) .skip)))) (.ops false qyl)))
def qi7 : SC :=
 (.seq (.seq (.ops false ql3) (.cond (.tmp 55) .skip (.exit 2))) (.block 3 (.seq (.ops true ql2) (.cond (.tmp 70) (.seq (.seq (.ops false ql1) (.cond (.tmp 72) (.ops false ql0) .skip)) (.seq (.ops false qkz) (.ops false qky))) (.seq (.ops false qkx) (.seq (.seq (.ops false qkw) (.cond (.tmp 87) (.ops false qkv) .skip)) (.ops false qku)))))))
def t_k153 : SC :=
 (.seq (.ops false qyt) (.seq (.ops false qys) (.seq (.seq (.ops false qyr) (.block 0 (.loop qi8))) (.seq (.ops false ql8) (.seq (.ops false ql7) (.seq (.ops false ql6) (.seq (.ops false ql5) (.seq (.seq (.ops false ql4) (.block 2 (.loop qi7))) (.seq (.ops false qkt) .ret)))))))))
theorem it_k153 : FnIs Tryz.prog 153 98 [.tmp 4] t_k153 := ⟨Tryz.f153, _, Tryz.func153, rfl, rfl, rfl, rfl, by kernel_rfl⟩

def los (l : List Rn) : List Int := l.map fun r => r.1
def his (l : List Rn) : List Int := l.map fun r => r.2
def qp9 (l : List Rn) : List Int := l.map fun r => r.2 + 1
theorem los_at {l : List Rn} {i : Nat} {r : Rn} (h : l[i]? = some r) : (q05 (los l))[i]? = some (.int .i64 r.1) := by simp [q05, los, h, encI]
theorem his_at {l : List Rn} {i : Nat} {r : Rn} (h : l[i]? = some r) : (q05 (his l))[i]? = some (.int .i64 r.2) := by simp [q05, his, h, encI]
theorem qfi {l : List Rn} {i : Nat} {r : Rn} (h : l[i]? = some r) : q0s (l.take (i + 1)) = q0s (l.take i) ++ q0s [r] := by
 rw [List.take_add_one, h, q5q]
 rfl
theorem zmt {r : Rn} (h : max r.1 1 ≤ min r.2 1000000000) : q0s [r] = [(max r.1 1, min r.2 1000000000)] := by rw [q7z, if_pos (show (q4m r).1 ≤ (q4m r).2 from h)]; rfl
theorem za0 {r : Rn} (h : ¬ max r.1 1 ≤ min r.2 1000000000) : q0s [r] = [] := by rw [q7z, if_neg (show ¬ (q4m r).1 ≤ (q4m r).2 from h)]; rfl
theorem ev_k153 (l : List Rn) (hl : l.length ≤ 900000000) : Ev (En Tryz.prog rfl).P 153 [.sl 1 (q05 (los l)), .sl 1 (q05 (his l))] (.ret (.sl 1 (q05 (q0p l)))) := by
 refine Ev.of_body it_k153 (by simp) (Run.start ?_)
 unfold t_k153
 have e0 : (q05 (los l)).length = l.length := by simp [q05, los]
 have e1 : (q05 (his l)).length = l.length := by simp [q05, his]
 (have hF := @e0; refine q01 (k:=?_); clear hF)
 refine Run.wk (Wk.trans (Wk.own_nil 5 36 1 rfl rfl) (Wk.own_nil 6 41 1 rfl rfl)) ?_
 refine Run.while (σ := Nat) (fun i => ⟨tms [(0, .sl 1 (q05 (los l))), (1, .sl 1 (q05 (his l))), (5, .os 36 (q0s (l.take i)).length), (6, .os 41 (q0s (l.take i)).length), (7, .int .i64 i)], mms [(36, .arr (q0s (l.take i)).length 1 (q05 (los (q0s (l.take i))))), (41, .arr (q0s (l.take i)).length 1 (q05 (qp9 (q0s (l.take i)))))]⟩)
  (fun i => i ≤ l.length) (fun i => l.length - i) 0 (have hW := True.intro; q0g) (Nat.zero_le _) ?_
 intro i hi
 have hcl := q9p (l.take i)
 have hcl2 : (l.take i).length ≤ l.length := by rw [List.length_take]; omega
 have e2 : (q05 (los (q0s (l.take i)))).length = (q0s (l.take i)).length := by simp [q05, los]
 have e3 : (q05 (qp9 (q0s (l.take i)))).length = (q0s (l.take i)).length := by simp [q05, qp9]
 unfold qi8
 by_cases hlt : i < l.length
 ·obtain ⟨r, hr⟩ : ∃ r, l[i]? = some r := ⟨l[i], by simp [hlt]⟩
  have e4 := los_at hr
  have e5 := his_at hr
  (focus (have hF := (aI (aI @e0 (aI @e1 @e2)) (aI (aI @e3 @e4) (aI @e5 @q3n))); (repeat' (first | refine go1 (k:=?_) | with_reducible refine Ny.of ?_ ?_ | (refine Hyp.of ?_; intro hc; (try simp only [hc]); (try simp only [Bh] at hc)))); all_goals clear hF))
  ·have hk := (qfi hr).trans (by rw [zmt hc])
   (refine Fin.nextW (i + 1) ?_ (Wk.toL _ _ (by repeat (first | exact trivial | refine ⟨rfl, ?_⟩ | (refine ⟨by simp [↓q8h, ↓q4t, ↓q78, ↓NoM', hk, los, qp9], ?_⟩))) (by repeat (first | exact trivial | refine ⟨rfl, ?_⟩ | (refine ⟨by simp [↓q8h, ↓q4t, ↓q78, ↓NoM', hk, los, qp9], ?_⟩))) (by repeat (first | exact trivial | (refine ⟨?_, ?_⟩; focus (first | rfl | (apply q20; simp only [q0k, AVal.stb, q03, q08, q1h, q04, q13, q0e, q1o, hk, los, qp9, Bool.and_true, Bool.true_and, Bool.and_self]; done))))) (by repeat (first | exact trivial | (refine ⟨?_, ?_⟩; focus (first | rfl | (apply qp4; simp only [q0k, AVal.stb, q03, q08, q1h, q04, q13, q0e, q1o, hk, los, qp9, Bool.and_true, Bool.true_and, Bool.and_self]; done) | exact q2r _ _ | exact z7u _ _ | exact z7v _ _ | (apply qbk; simp only [q0k, AVal.stb, q03, q08, q1h, q04, q13, q0e, q1o, hk, los, qp9, Bool.and_true, Bool.true_and, Bool.and_self]; done) | (apply z80; simp only [qqr, zmy, List.all_cons, List.all_nil, q0k, AVal.stb, q03, q08, q1h, q04, q13, q0e, q1o, hk, los, qp9, Bool.and_true, Bool.true_and, Bool.and_self]; done) | (simp [ABlk.no, AVal.noC, AVal.no, AVal.stb, q0k, q03, q08, q1h, q04, q13, q0e, q1o, hk, los, qp9]; done)))))); (try dsimp only))
   omega
  ·have hk := (qfi hr).trans (by rw [za0 hc, List.append_nil])
   (refine Fin.nextW (i + 1) ?_ (have hW := @hk; q0g); (try dsimp only))
   omega
 ·have hil : i = l.length := by omega
  subst hil
  rw [List.take_length] at *
  (have hF := (aI (aI @e0 @e1) (aI @e2 @e3)); refine q01 (k:=?_); clear hF)
  have hin := q90 (los (q0s l))
  have hout := q90 (qp9 (q0s l))
  have hs : Sweep (q0s l) (q6w (los (q0s l))) (q6w (qp9 (q0s l))) := Sweep.of l
  have hl1 : (los (q0s l)).length = (q0s l).length := by simp [los]
  have hl2 : (qp9 (q0s l)).length = (q0s l).length := by simp [qp9]
  refine qry (fun j => j == 36) [.sl 1 (q05 (los (q0s l)))] (he := zm3 _ (by omega)) (k:=?_)
  (have hF := (aI (aI @e0 @e1) (aI @e2 @e3)); refine q01 (k:=?_); clear hF)
  refine qry (fun j => j == 41) [.sl 1 (q05 (qp9 (q0s l)))] (he := zm3 _ (by omega)) (k:=?_)
  (have hF := (aI (aI @e0 @e1) (aI @e2 @e3)); refine q01 (k:=?_); clear hF)
  generalize q6w (los (q0s l)) = ins at *
  generalize q6w (qp9 (q0s l)) = outs at *
  refine Run.wk (Wk.own_nil 10 79 1 rfl rfl) ?_
  refine Run.while (σ := Sw) (fun s => ⟨tms [(5, .sl 1 (q05 ins)), (6, .sl 1 (q05 outs)), (10, .os 79 s.t.length), (11, .int .i64 s.deep), (12, .int .i64 s.j), (13, .int .i64 s.i)], mms [(79, .arr s.t.length 1 (q05 s.t))]⟩)
   (fun s => SwI ins outs s ∧ s.j ≤ outs.length ∧ s.t.length ≤ s.i + s.j) (fun s => (ins.length - s.i) + (outs.length - s.j)) ⟨[], 0, 0, 0⟩ (have hW := True.intro; q0g) ⟨SwI.start, Nat.zero_le _, Nat.zero_le _⟩ ?_
  rintro ⟨t, deep, i, j⟩ ⟨hI, hj, ht⟩
  have hd := hI.d
  have hij := hI.ij
  have hii := hI.i
  have e4 := q0i ins
  have e5 := q0i outs
  have e6 := q0i t
  dsimp only at hd hij hii hj ht ⊢
  have hlen := hs.len
  have stepIn := fun h => hI.stepIn hs.len (Srt.of hs.si) (Srt.of hs.so) hs.lt h
  have stepOut := fun h h' => hI.stepOut hs.len (Srt.of hs.si) (Srt.of hs.so) hs.lt h h'
  unfold swIn at stepIn
  unfold swOut at stepOut
  unfold qfs at stepIn stepOut
  dsimp only at stepIn stepOut
  unfold qi7
  (focus (have hF := (aI (aI @e4 @e5) (aI @e6 (aI @q9m @q3n))); (repeat' (first | refine go1 (k:=?_) | with_reducible refine Ny.of ?_ ?_ | (refine Hyp.of ?_; intro hc; (try simp only [hc]); (try simp only [Bh] at hc)))); all_goals clear hF))
  ·have q := stepIn ⟨by omega, by assumption⟩
   rw [if_pos hc] at q
   (refine Fin.nextW (⟨t ++ [ins.getD i 0], deep + 1, i + 1, j⟩) ?_ (have hW := True.intro; q0g); (try dsimp only))
   exact ⟨⟨q, hj, (by first | omega | (simp only [List.length_append, List.length_cons, List.length_nil]; omega))⟩, (by first | omega | (simp only [List.length_append, List.length_cons, List.length_nil]; omega))⟩
  ·have q := stepIn ⟨by omega, by assumption⟩
   rw [if_neg hc] at q
   (refine Fin.nextW (⟨t, deep + 1, i + 1, j⟩) ?_ (have hW := True.intro; q0g); (try dsimp only))
   exact ⟨⟨q, hj, (by first | omega | (simp only [List.length_append, List.length_cons, List.length_nil]; omega))⟩, (by first | omega | (simp only [List.length_append, List.length_cons, List.length_nil]; omega))⟩
  ·have q := (stepOut (by omega) (by omega)).1
   rw [if_pos hc] at q
   (refine Fin.nextW (⟨t ++ [outs.getD j 0], deep - 1, i, j + 1⟩) ?_ (have hW := True.intro; q0g); (try dsimp only))
   exact ⟨⟨q, (by first | omega | (simp only [List.length_append, List.length_cons, List.length_nil]; omega)), (by first | omega | (simp only [List.length_append, List.length_cons, List.length_nil]; omega))⟩, (by first | omega | (simp only [List.length_append, List.length_cons, List.length_nil]; omega))⟩
  ·have q := (stepOut (by omega) (by omega)).1
   rw [if_neg hc] at q
   (refine Fin.nextW (⟨t, deep - 1, i, j + 1⟩) ?_ (have hW := True.intro; q0g); (try dsimp only))
   exact ⟨⟨q, (by first | omega | (simp only [List.length_append, List.length_cons, List.length_nil]; omega)), (by first | omega | (simp only [List.length_append, List.length_cons, List.length_nil]; omega))⟩, (by first | omega | (simp only [List.length_append, List.length_cons, List.length_nil]; omega))⟩
  ·have q := (stepOut (by omega) (by omega)).1
   rw [if_pos hc] at q
   (refine Fin.nextW (⟨t ++ [outs.getD j 0], deep - 1, i, j + 1⟩) ?_ (have hW := True.intro; q0g); (try dsimp only))
   exact ⟨⟨q, (by first | omega | (simp only [List.length_append, List.length_cons, List.length_nil]; omega)), (by first | omega | (simp only [List.length_append, List.length_cons, List.length_nil]; omega))⟩, (by first | omega | (simp only [List.length_append, List.length_cons, List.length_nil]; omega))⟩
  ·have q := (stepOut (by omega) (by omega)).1
   rw [if_neg hc] at q
   (refine Fin.nextW (⟨t, deep - 1, i, j + 1⟩) ?_ (have hW := True.intro; q0g); (try dsimp only))
   exact ⟨⟨q, (by first | omega | (simp only [List.length_append, List.length_cons, List.length_nil]; omega)), (by first | omega | (simp only [List.length_append, List.length_cons, List.length_nil]; omega))⟩, (by first | omega | (simp only [List.length_append, List.length_cons, List.length_nil]; omega))⟩
  ·have hq := hs.turns hI (show i = ins.length by omega) (show j = ins.length by omega)
   have hqt : t = q0p l := zax hq.1
   rw [← hqt]
   exact qfz (.sl 1 (q05 t))

def z2d : List SOp := [⟨some 1,.box 26 (.tmp 0),none⟩,⟨some 2,.alloc 168,none⟩]
instance : Live z2d := ⟨[0]⟩
def z2c : List SOp := [⟨some 3,.load 26 (.tmp 1),none⟩,⟨some 4,.buildSlice 116 1 #[(0,.tmp 3)],none⟩,⟨some 5,.call ⟨.value (.func 129),#[.tmp 4],#[116]⟩,none⟩,⟨none,.store 168 (.tmp 2) (.tmp 5),none⟩]
instance : Live z2c := ⟨[1,2]⟩
def t_k127 : SC :=
 (.seq (.ops false z2d) (.seq (.ops false z2c) .ret))
theorem it_k127 : FnIs Tryz.prog 127 6 [.cell 2 168] t_k127 := ⟨Tryz.f127, _, Tryz.func127, rfl, rfl, rfl, rfl, by kernel_rfl⟩

def q0j (t : List (List Int)) : List AVal := t.map fun l => .sl 1 (q05 l)
theorem q27 (t : List (List Int)) : q0k (q0j t) = true := by
 refine qbz fun x hx => ?_
 obtain ⟨l, _, rfl⟩ := List.mem_map.1 hx
 exact q03 l
theorem q44 (t : List (List Int)) : (q0j t).all AVal.one = true := by
 rw [List.all_eq_true]
 intro x hx
 obtain ⟨l, _, rfl⟩ := List.mem_map.1 hx
 rfl
theorem qdm (M : Mem) (t : List (List Int)) : (q0j t).map (fzc q4i M) = q0j t := by
 simp [q0j, fzc]
theorem z9s (p : Pst) (t : List (List Int)) (ht : t.length = 16) (hM : Ev (En Tryz.prog rfl).P 129 [.sl 2 (q1k [p])] (.ret (.agg (q0j t)))) : Ev (En Tryz.prog rfl).P 127 [q0f p] (.ret (.agg (q0j t))) := by
 refine Ev.of_body it_k127 (by simp) (Run.start ?_)
 have hpx : q0f p = .agg [.sl 1 (q05 p.vec), .sl 3 (q0d p.cloud)] := rfl
 have e0 : (q0j t).length = 16 := by simp [q0j, ht]
 have e1 := q44 t
 unfold t_k127
 rw [hpx]
 (have hF := True.intro; refine q1i (k:=?_); clear hF)
 refine q2p (l := [.sl 2 (q1k [p])]) rfl rfl (by simp [q0k, AVal.stb, q0e]) hM ?_
 (have hF := (aI @e0 @e1); refine q1i (k:=?_); clear hF)
 refine Fin.all (xs := [.agg (q0j t)]) ?_ (by simp [q0k, AVal.stb, q27]) rfl
 have htk : (q0j t).take 16 = q0j t := List.take_of_length_le (by omega)
 simp [q4x, q89, qe6, z8f, TD.isAgg, upd, tms, mms, e0, htk, qdm]

def z20 : List SOp := [⟨some 2,.alloc 168,none⟩]
instance : Live z20 := ⟨[0]⟩
def z1z : List SOp := [⟨some 3,.alloc 166,none⟩,⟨some 4,.alloc 166,none⟩]
instance : Live z1z := ⟨[0,2]⟩
def z1y : List SOp := [⟨some 5,.assign (.const (.int .i64 0)),none⟩]
instance : Live z1y := ⟨[0,2,3,4]⟩
def z1x : List SOp := [⟨some 11,.move (.tmp 5),none⟩,⟨some 12,.move (.tmp 0),none⟩,⟨some 13,.call ⟨.builtin .len,#[.tmp 12],#[116]⟩,none⟩,⟨some 14,.binOp .lss 3 (.tmp 11) (.tmp 13) 3,none⟩]
instance : Live z1x := ⟨[0,2,3,4,5]⟩
def z1w : List SOp := [⟨some 6,.assign (.const (.int .i64 0)),none⟩]
instance : Live z1w := ⟨[0,2,3,4,5]⟩
def z1v : List SOp := [⟨some 17,.move (.tmp 6),none⟩,⟨some 18,.move (.tmp 0),none⟩,⟨some 19,.move (.tmp 5),none⟩,⟨some 20,.indexAddr 116 (.tmp 18) (.tmp 19),none⟩,⟨some 21,.fieldAddr 26 (.tmp 20) 0,none⟩,⟨some 22,.load 23 (.tmp 21),none⟩,⟨some 23,.call ⟨.builtin .len,#[.tmp 22],#[23]⟩,none⟩,⟨some 24,.binOp .lss 3 (.tmp 17) (.tmp 23) 3,none⟩,⟨some 25,.move (.tmp 24),none⟩,⟨some 26,.move (.tmp 6),some ((some 25),true)⟩,⟨some 27,.binOp .lss 3 (.tmp 26) (.const (.int .i64 16)) 3,some ((some 25),true)⟩,⟨some 28,.pick (.tmp 25) (.tmp 27) (.const (.bool false)),none⟩]
instance : Live z1v := ⟨[0,2,3,4,5,6]⟩
def z1u : List SOp := [⟨some 31,.move (.tmp 6),none⟩,⟨some 32,.move (.tmp 6),none⟩,⟨some 33,.indexAddr 166 (.tmp 3) (.tmp 32),none⟩,⟨some 34,.load 23 (.tmp 33),none⟩,⟨some 35,.buildSlice 23 1 #[(0,.const (.int .i64 1))],none⟩,⟨some 36,.call ⟨.builtin .append,#[.tmp 34,.tmp 35],#[23,23]⟩,none⟩,⟨some 37,.indexAddr 166 (.tmp 3) (.tmp 31),none⟩,⟨none,.store 23 (.tmp 37) (.tmp 36),none⟩]
instance : Live z1u := ⟨[0,2,3,4,5,6]⟩
def qgc : List SOp := [⟨some 38,.move (.tmp 6),none⟩,⟨some 39,.move (.tmp 6),none⟩,⟨some 40,.indexAddr 166 (.tmp 4) (.tmp 39),none⟩,⟨some 41,.load 23 (.tmp 40),none⟩,⟨some 42,.move (.tmp 0),none⟩,⟨some 43,.move (.tmp 5),none⟩,⟨some 44,.indexAddr 116 (.tmp 42) (.tmp 43),none⟩,⟨some 45,.fieldAddr 26 (.tmp 44) 0,none⟩,⟨some 46,.load 23 (.tmp 45),none⟩,⟨some 47,.move (.tmp 6),none⟩,⟨some 48,.indexAddr 23 (.tmp 46) (.tmp 47),none⟩,⟨some 49,.load 3 (.tmp 48),none⟩,⟨some 50,.buildSlice 23 1 #[(0,.tmp 49)],none⟩,⟨some 51,.call ⟨.builtin .append,#[.tmp 41,.tmp 50],#[23,23]⟩,none⟩,⟨some 52,.indexAddr 166 (.tmp 4) (.tmp 38),none⟩,⟨none,.store 23 (.tmp 52) (.tmp 51),none⟩]
instance : Live qgc := ⟨[0,2,3,4,5,6]⟩
instance : Rd qgc := ⟨fun j => j == 0⟩
def z1t : List SOp := [⟨some 29,.move (.tmp 6),none⟩,⟨some 30,.binOp .add 3 (.tmp 29) (.const (.int .i64 1)) 3,none⟩,⟨some 6,.assign (.tmp 30),none⟩]
instance : Live z1t := ⟨[0,2,3,4,5,6]⟩
def qm2 : List SOp := [⟨some 7,.assign (.const (.int .i64 0)),none⟩]
instance : Live qm2 := ⟨[0,2,3,4,5]⟩
def qm1 : List SOp := [⟨some 53,.move (.tmp 7),none⟩,⟨some 54,.move (.tmp 0),none⟩,⟨some 55,.move (.tmp 5),none⟩,⟨some 56,.indexAddr 116 (.tmp 54) (.tmp 55),none⟩,⟨some 57,.fieldAddr 26 (.tmp 56) 1,none⟩,⟨some 58,.load 24 (.tmp 57),none⟩,⟨some 59,.call ⟨.builtin .len,#[.tmp 58],#[24]⟩,none⟩,⟨some 60,.binOp .lss 3 (.tmp 53) (.tmp 59) 3,none⟩]
instance : Live qm1 := ⟨[0,2,3,4,5,7]⟩
def qm0 : List SOp := [⟨some 63,.move (.tmp 0),none⟩,⟨some 64,.move (.tmp 5),none⟩,⟨some 65,.indexAddr 116 (.tmp 63) (.tmp 64),none⟩,⟨some 66,.fieldAddr 26 (.tmp 65) 1,none⟩,⟨some 67,.load 24 (.tmp 66),none⟩,⟨some 68,.move (.tmp 7),none⟩,⟨some 69,.indexAddr 24 (.tmp 67) (.tmp 68),none⟩,⟨some 70,.load 127 (.tmp 69),none⟩,⟨some 8,.alloc 127,none⟩,⟨none,.store 127 (.tmp 8) (.tmp 70),none⟩]
instance : Live qm0 := ⟨[0,2,3,4,5,7]⟩
def qlz : List SOp := [⟨some 71,.fieldAddr 127 (.tmp 8) 0,none⟩,⟨some 72,.load 3 (.tmp 71),none⟩,⟨some 73,.binOp .geq 3 (.tmp 72) (.const (.int .i64 0)) 3,none⟩,⟨some 74,.move (.tmp 73),none⟩,⟨some 75,.fieldAddr 127 (.tmp 8) 0,some ((some 74),true)⟩,⟨some 76,.load 3 (.tmp 75),some ((some 74),true)⟩,⟨some 77,.binOp .lss 3 (.tmp 76) (.const (.int .i64 16)) 3,some ((some 74),true)⟩,⟨some 78,.pick (.tmp 74) (.tmp 77) (.const (.bool false)),none⟩]
instance : Live qlz := ⟨[0,2,3,4,5,7,8]⟩
def qck : List SOp := [⟨some 79,.fieldAddr 127 (.tmp 8) 0,none⟩,⟨some 80,.load 3 (.tmp 79),none⟩,⟨some 81,.fieldAddr 127 (.tmp 8) 0,none⟩,⟨some 82,.load 3 (.tmp 81),none⟩,⟨some 83,.indexAddr 166 (.tmp 3) (.tmp 82),none⟩,⟨some 84,.load 23 (.tmp 83),none⟩,⟨some 85,.fieldAddr 127 (.tmp 8) 1,none⟩,⟨some 86,.load 3 (.tmp 85),none⟩,⟨some 87,.buildSlice 23 1 #[(0,.tmp 86)],none⟩,⟨some 88,.call ⟨.builtin .append,#[.tmp 84,.tmp 87],#[23,23]⟩,none⟩,⟨some 89,.indexAddr 166 (.tmp 3) (.tmp 80),none⟩,⟨none,.store 23 (.tmp 89) (.tmp 88),none⟩]
instance : Live qck := ⟨[0,2,3,4,5,7,8]⟩
instance : Rd qck := ⟨fun j => j == 8⟩
def qcj : List SOp := [⟨some 90,.fieldAddr 127 (.tmp 8) 0,none⟩,⟨some 91,.load 3 (.tmp 90),none⟩,⟨some 92,.fieldAddr 127 (.tmp 8) 0,none⟩,⟨some 93,.load 3 (.tmp 92),none⟩,⟨some 94,.indexAddr 166 (.tmp 4) (.tmp 93),none⟩,⟨some 95,.load 23 (.tmp 94),none⟩,⟨some 96,.fieldAddr 127 (.tmp 8) 2,none⟩,⟨some 97,.load 3 (.tmp 96),none⟩,⟨some 98,.buildSlice 23 1 #[(0,.tmp 97)],none⟩,⟨some 99,.call ⟨.builtin .append,#[.tmp 95,.tmp 98],#[23,23]⟩,none⟩,⟨some 100,.indexAddr 166 (.tmp 4) (.tmp 91),none⟩,⟨none,.store 23 (.tmp 100) (.tmp 99),none⟩]
instance : Live qcj := ⟨[0,2,3,4,5,7,8]⟩
instance : Rd qcj := ⟨fun j => j == 8⟩
def qly : List SOp := [⟨some 61,.move (.tmp 7),none⟩,⟨some 62,.binOp .add 3 (.tmp 61) (.const (.int .i64 1)) 3,none⟩,⟨some 7,.assign (.tmp 62),none⟩]
instance : Live qly := ⟨[0,2,3,4,5,7]⟩
def qlx : List SOp := [⟨some 15,.move (.tmp 5),none⟩,⟨some 16,.binOp .add 3 (.tmp 15) (.const (.int .i64 1)) 3,none⟩,⟨some 5,.assign (.tmp 16),none⟩]
instance : Live qlx := ⟨[0,2,3,4,5]⟩
def qlw : List SOp := [⟨some 9,.alloc 168,none⟩]
instance : Live qlw := ⟨[2,3,4]⟩
def qlv : List SOp := [⟨some 10,.assign (.const (.int .i64 0)),none⟩]
instance : Live qlv := ⟨[2,3,4,9]⟩
def qlu : List SOp := [⟨some 101,.move (.tmp 10),none⟩,⟨some 102,.binOp .lss 3 (.tmp 101) (.const (.int .i64 16)) 3,none⟩]
instance : Live qlu := ⟨[2,3,4,9,10]⟩
def qlt : List SOp := [⟨some 105,.move (.tmp 10),none⟩,⟨some 106,.move (.tmp 10),none⟩,⟨some 107,.indexAddr 166 (.tmp 3) (.tmp 106),none⟩,⟨some 108,.load 23 (.tmp 107),none⟩,⟨some 109,.move (.tmp 10),none⟩,⟨some 110,.indexAddr 166 (.tmp 4) (.tmp 109),none⟩,⟨some 111,.load 23 (.tmp 110),none⟩,⟨some 112,.call ⟨.value (.func 153),#[.tmp 108,.tmp 111],#[23,23]⟩,none⟩,⟨some 113,.fieldAddr 168 (.tmp 9) 0,none⟩,⟨some 114,.indexAddr 166 (.tmp 113) (.tmp 105),none⟩,⟨none,.store 23 (.tmp 114) (.tmp 112),none⟩]
instance : Live qlt := ⟨[2,3,4,9,10]⟩
def qls : List SOp := [⟨some 103,.move (.tmp 10),none⟩,⟨some 104,.binOp .add 3 (.tmp 103) (.const (.int .i64 1)) 3,none⟩,⟨some 10,.assign (.tmp 104),none⟩]
instance : Live qls := ⟨[2,3,4,9,10]⟩
def qlr : List SOp := [⟨some 115,.load 168 (.tmp 9),none⟩,⟨none,.store 168 (.tmp 2) (.tmp 115),none⟩]
instance : Live qlr := ⟨[2,9]⟩
def qih : SC :=
 (.seq (.seq (.ops false z1v) (.cond (.tmp 28) .skip (.exit 2))) (.seq (.block 3 (.seq (.ops false z1u) (.opsW [41] qgc))) (.ops false z1t)))
def qig : SC :=
 (.seq (.seq (.ops false qm1) (.cond (.tmp 60) .skip (.exit 4))) (.seq (.block 5 (.seq (.ops false qm0) (.seq (.ops false qlz) (.cond (.tmp 78) (.seq (.opsW [84] qck) (.opsW [95] qcj)) .skip)))) (.ops false qly)))
def qii : SC :=
 (.seq (.seq (.ops false z1x) (.cond (.tmp 14) .skip (.exit 0))) (.seq (.block 1 (.seq (.seq (.ops false z1w) (.block 2 (.loop qih))) (.seq (.ops false qm2) (.block 4 (.loop qig))))) (.ops false qlx)))
def qif : SC :=
 (.seq (.seq (.ops false qlu) (.cond (.tmp 102) .skip (.exit 6))) (.seq (.block 7 (.ops true qlt)) (.ops false qls)))
def t_k129 : SC :=
 (.seq (.ops false z20) (.seq (.ops false z1z) (.seq (.seq (.ops false z1y) (.block 0 (.loop qii))) (.seq (.ops false qlw) (.seq (.seq (.ops false qlv) (.block 6 (.loop qif))) (.seq (.ops false qlr) .ret))))))
theorem it_k129 : FnIs Tryz.prog 129 116 [.cell 2 168] t_k129 := ⟨Tryz.f129, _, Tryz.func129, rfl, rfl, rfl, rfl, by kernel_rfl⟩

def q7h (t : Tab) : List AVal := t.map fun l => .own 1 (q05 (los l))
def q7i (t : Tab) : List AVal := t.map fun l => .own 1 (q05 (his l))
theorem qoh (t : Tab) : (q7h t).length = t.length := by simp [q7h]
theorem qok (t : Tab) : (q7i t).length = t.length := by simp [q7i]
theorem qoi {t : Tab} {r : Nat} (h : r < t.length) : (q7h t)[r]? = some (.own 1 (q05 (los (t.getD r [])))) := by simp [q7h, h]
theorem qol {t : Tab} {r : Nat} (h : r < t.length) : (q7i t)[r]? = some (.own 1 (q05 (his (t.getD r [])))) := by simp [q7i, h]
theorem qfe {t : Tab} {r : Nat} (h : r < t.length) : ((q7h t).set r .hole)[r]? = some .hole := by simp [q7h, h]
theorem qff {t : Tab} {r : Nat} (h : r < t.length) : ((q7i t).set r .hole)[r]? = some .hole := by simp [q7i, h]
theorem qoj {t : Tab} {r : Nat} (h : r < t.length) (x : Rn) : ((q7h t).set r .hole).set r (.own 1 (q05 (los (t.getD r []) ++ [x.1]))) = q7h (q6d t r x) := by
 rw [List.set_set]
 simp [q7h, q6d, los, List.map_set]
theorem qom {t : Tab} {r : Nat} (h : r < t.length) (x : Rn) : ((q7i t).set r .hole).set r (.own 1 (q05 (his (t.getD r []) ++ [x.2]))) = q7i (q6d t r x) := by
 rw [List.set_set]
 simp [q7i, q6d, his, List.map_set]
theorem own_no (K : Nat → Bool) (t : Tab) (f : List Rn → List Int) : (ABlk.cells (t.map fun l => .own 1 (q05 (f l)))).no K = true := by
 simp only [ABlk.no, List.all_eq_true]
 intro x hx
 obtain ⟨l, _, rfl⟩ := List.mem_map.1 hx
 simp only [AVal.noC, List.all_eq_true]
 intro y hy
 exact q20 (q4b (q03 _) y hy)
theorem z7u (K : Nat → Bool) (t : Tab) : (ABlk.cells (q7h t)).no K = true := own_no K t los
theorem z7v (K : Nat → Bool) (t : Tab) : (ABlk.cells (q7i t)).no K = true := own_no K t his
theorem zks (l : List Rn) : (q05 (los l)).length = l.length := by simp [q05, los]
theorem zl9 (l : List Rn) : (q05 (his l)).length = l.length := by simp [q05, his]
def q68 (f : List Rn → List Int) (t : Tab) : List AVal := t.map fun l => .sl 1 (q05 (f l))
theorem qfc (f : List Rn → List Int) (t : Tab) : q0k (q68 f t) = true := q46 fun l => q03 _
theorem qfd (f : List Rn → List Int) {t : Tab} {r : Nat} (h : r < t.length) : (q68 f t)[r]? = some (.sl 1 (q05 (f (t.getD r [])))) := by simp [q68, h]
theorem zmg (t : Tab) : (q7h t).map frz = q68 los t := by simp [q7h, q68, frz]
theorem zml (t : Tab) : (q7i t).map frz = q68 his t := by simp [q7i, q68, frz]
def q26 (u : Tab) (r : Nat) : List AVal := ((u.take r).map fun l => .sl 1 (q05 (q0p l))) ++ List.replicate (16 - r) .nil
theorem q6j (u : Tab) (r : Nat) : q0k (q26 u r) = true := by
 unfold q26
 rw [qpm, q46 (f := fun l => AVal.sl 1 (q05 (q0p l))) fun l => q03 _]
 simp only [Bool.true_and]
 exact qbz fun x hx => by rw [(List.mem_replicate.1 hx).2]; rfl
theorem qc5 (u : Tab) (h : u.length = 16) {r : Nat} (hr : r ≤ 16) : (q26 u r).length = 16 := by
 simp [q26]
 omega
theorem qc4 (u : Tab) (h : u.length = 16) {r : Nat} (hr : r < 16) : (q26 u r).set r (.sl 1 (q05 (q0p (u.getD r [])))) = q26 u (r + 1) := by
 have hru : r < u.length := by omega
 have hl : ((u.take r).map fun l => AVal.sl 1 (q05 (q0p l))).length = r := by simp; omega
 unfold q26
 rw [List.set_append_right _ _ (by omega), hl, Nat.sub_self, show 16 - r = (16 - (r + 1)) + 1 by omega, List.replicate_succ, List.set_cons_zero]
 have e : u.take (r + 1) = u.take r ++ [u.getD r []] := by rw [List.take_add_one]; simp [hru]
 rw [e, List.map_append, List.append_assoc]
 rfl
theorem qc6 (u : Tab) (h : u.length = 16) : q26 u 16 = q0j (u.map q0p) := by
 unfold q26
 rw [List.take_of_length_le (by omega)]
 simp [q0j]
def q6y (ps : List Pst) : List (List Int) := (q0l ps).map q0p
theorem zk4 (v : List Int) (u : Tab) (i : Nat) : q6d u i (1, q1q v i) = q3k v u i := rfl
theorem zm7 (ps : List Pst) (hl : ps.length ≤ 1000000000) (hw : (ps.map wt).sum ≤ 800000000) : Ev (En Tryz.prog rfl).P 129 [.sl 2 (q1k ps)] (.ret (.agg (q0j (q6y ps)))) := by
 refine Ev.of_body it_k129 (by simp) (Run.start ?_)
 unfold t_k129
 have e0 : (q1k ps).length = ps.length := q9l _
 (have hF := @e0; refine q01 (k:=?_); clear hF)
 have own0 : ∀ (f : List Rn → List Int), f [] = [] → ∀ (i : Nat) (x y : AVal), (List.replicate 16 AVal.nil)[i]? = some x → (q6e.map fun l => AVal.own 1 (q05 (f l)))[i]? = some y → y = x ∨ (x = .nil ∧ ∃ sz, y = .own sz []) := by
  intro f hf i x y hx hy
  rw [List.getElem?_replicate] at hx
  split at hx
  ·rename_i h16
   cases hx
   refine .inr ⟨rfl, 1, ?_⟩
   simp only [q6e, List.map_replicate, List.getElem?_replicate, h16, if_true, hf] at hy
   exact (Option.some.inj hy).symm
  ·cases hx
 refine Run.wk (Wk.trans (Wk.own_cells (k := 3) (cs' := q7h q6e) rfl rfl (own0 los rfl)) (Wk.own_cells (k := 4) (cs' := q7i q6e) rfl rfl (own0 his rfl))) ?_
 refine Run.while (σ := Nat) (fun i => ⟨tms [(0, .sl 2 (q1k ps)), (2, .ptr 2 0), (3, .ptr 3 0), (4, .ptr 4 0), (5, .int .i64 i)], mms [(2, .cells (List.replicate 16 .nil)), (3, .cells (q7h ((ps.take i).foldl q1n q6e))), (4, .cells (q7i ((ps.take i).foldl q1n q6e)))]⟩)
  (fun i => i ≤ ps.length) (fun i => ps.length - i) 0 (have hW := True.intro; q0g) (Nat.zero_le _) ?_
 intro i hi
 unfold qii
 by_cases hlt : i < ps.length
 ·obtain ⟨p, hp⟩ : ∃ p, ps[i]? = some p := ⟨ps[i], by simp [hlt]⟩
  have hq0 := TabLe.all q9x (ps.take i)
  have hnext := q2w q1n q6e ps hp
  have hsum : ((ps.take i).map wt).sum + wt p ≤ (ps.map wt).sum := by
   have : ((ps.take (i + 1)).map wt).sum ≤ (ps.map wt).sum := by rw [List.map_take]; exact q8i _
   rw [List.take_add_one, hp] at this
   simpa using this
  generalize (ps.take i).foldl q1n q6e = u0 at hq0 hnext ⊢
  generalize ((ps.take i).map wt).sum = m at hq0 hsum
  have hwt : wt p = p.vec.length + p.cloud.length := rfl
  have e1 : (q1k ps)[i]? = some (.agg [.sl 1 (q05 p.vec), .sl 3 (q0d p.cloud)]) := qdn hp
  have e2 : (q05 p.vec).length = p.vec.length := q0i _
  have e3 : (q0d p.cloud).length = p.cloud.length := q1e _
  (have hF := (aI (aI @e0 @e1) (aI @e2 @e3)); refine q01 (k:=?_); clear hF)
  refine Run.while (σ := Nat) (fun j => ⟨tms [(0, .sl 2 (q1k ps)), (2, .ptr 2 0), (3, .ptr 3 0), (4, .ptr 4 0), (5, .int .i64 i), (6, .int .i64 j)], mms [(2, .cells (List.replicate 16 .nil)), (3, .cells (q7h ((List.range j).foldl (q3k p.vec) u0))), (4, .cells (q7i ((List.range j).foldl (q3k p.vec) u0)))]⟩)
   (fun j => j ≤ min p.vec.length 16) (fun j => 16 - j) 0 (have hW := True.intro; q0g) (Nat.zero_le _) ?_
  intro j hj
  unfold qih
  by_cases hjl : j < min p.vec.length 16
  ·have hnx := q7n (v := p.vec) (t := u0) j
   obtain ⟨q1, q2⟩ := TabLe.range (v := p.vec) hq0 j
   generalize (List.range j).foldl (q3k p.vec) u0 = u at q1 q2 hnx ⊢
   have hju : j < u.length := by omega
   have g1 := qoh u
   have g2 := qok u
   have g3 := qoi hju
   have g4 := qol hju
   have g5 := qfe hju
   have g6 := qff hju
   have g7 := qoj hju (1, q1q p.vec j)
   have g8 := qom hju (1, q1q p.vec j)
   dsimp only at g7 g8
   rw [zk4, ← hnx] at g7 g8
   have hq := q2 j
   have g9 := zks (u.getD j [])
   have g10 := zl9 (u.getD j [])
   have g11 : (q05 p.vec)[j]? = some (.int .i64 (q1q p.vec j)) := q0v (by simp [q1q, show j < p.vec.length by omega])
   (have hF := (aI (aI (aI (aI @e0 @e1) (aI @e2 @e3)) (aI (aI @q1 @g1) (aI @g2 (aI @g3 @g4)))) (aI (aI (aI @g5 @g6) (aI @g7 @g8)) (aI (aI @g9 @g10) (aI @g11 (aI @q3n @List.length_set.{0}))))); refine q01 (k:=?_); clear hF)
   ((with_reducible apply toW); refine stW (fun j => false) (k:=?_))
   (have hF := (aI (aI (aI (aI @e0 @e1) (aI @e2 @e3)) (aI (aI @q1 @g1) (aI @g2 (aI @g3 @g4)))) (aI (aI (aI @g5 @g6) (aI @g7 @g8)) (aI (aI @g9 @g10) (aI @g11 (aI @q3n @List.length_set.{0}))))); refine q01 (k:=?_); clear hF)
   (refine Fin.nextW (j + 1) ?_ (have hW := True.intro; q0g); (try dsimp only))
   omega
  ·have hjm : j = min p.vec.length 16 := by omega
   have hav : (List.range j).foldl (q3k p.vec) u0 = q5b p.vec u0 := by rw [hjm]; rfl
   rw [hav]
   have hqv : TabLe (q5b p.vec u0) (0 + m + min p.vec.length 16) := TabLe.range hq0 _
   have hnext' : (ps.take (i + 1)).foldl q1n q6e = q4a p.cloud (q5b p.vec u0) := hnext
   generalize q5b p.vec u0 = u1 at hqv hnext' ⊢
   clear hav
   have hguard : ¬ (j < p.vec.length ∧ j < 16) := by omega
   rcases Nat.lt_or_ge j p.vec.length with hjv | hjv
   all_goals
    clear hguard
    (have hF := (aI (aI @e0 @e1) (aI @e2 @e3)); refine q01 (k:=?_); clear hF)
    refine Run.while (σ := Nat) (fun c => ⟨tms [(0, .sl 2 (q1k ps)), (2, .ptr 2 0), (3, .ptr 3 0), (4, .ptr 4 0), (5, .int .i64 i), (7, .int .i64 c)], mms [(2, .cells (List.replicate 16 .nil)), (3, .cells (q7h ((p.cloud.take c).foldl putSn u1))), (4, .cells (q7i ((p.cloud.take c).foldl putSn u1)))]⟩)
     (fun c => c ≤ p.cloud.length) (fun c => p.cloud.length - c) 0 (have hW := True.intro; q0g) (Nat.zero_le _) ?_
    intro c hc
    unfold qig
    by_cases hcl : c < p.cloud.length
    ·obtain ⟨s, hs⟩ : ∃ s, p.cloud[c]? = some s := ⟨p.cloud[c], by simp [hcl]⟩
     have hnx := q2w putSn u1 p.cloud hs
     obtain ⟨q1, q2⟩ := TabLe.cloud hqv (p.cloud.take c)
     have hcl2 : (p.cloud.take c).length ≤ p.cloud.length := by rw [List.length_take]; omega
     generalize (p.cloud.take c).foldl putSn u1 = u at q1 q2 hnx ⊢
     have g0 : (q0d p.cloud)[c]? = some (.agg [.int .i64 s.1, .int .i64 s.2.1, .int .i64 s.2.2]) := q2c hs
     have g1 := qoh u
     have g2 := qok u
     by_cases hin : 0 ≤ s.1 ∧ s.1 < 16
     ·rw [z6x hin] at hnx
      obtain ⟨r, hr⟩ : ∃ r : Nat, s.1 = r := ⟨s.1.toNat, by omega⟩
      rw [hr, Int.toNat_natCast] at hnx
      have hru : r < u.length := by omega
      have g3 := qoi hru
      have g4 := qol hru
      have g5 := qfe hru
      have g6 := qff hru
      have g7 := qoj hru s.2
      have g8 := qom hru s.2
      rw [← hnx] at g7 g8
      have hq := q2 r
      have g9 := zks (u.getD r [])
      have g10 := zl9 (u.getD r [])
      (have hF := (aI (aI (aI @e0 @e1) (aI @e2 @e3)) (aI (aI @hr @q1) (aI @g0 (aI @g1 @g2)))); refine q01 (k:=?_); clear hF)
      ((with_reducible apply toW); refine stW (fun j => j == 8) (k:=?_))
      (have hF := (aI (aI (aI (aI @e0 @e1) (aI @e2 @e3)) (aI (aI @hr @q1) (aI @g0 (aI @g1 @g2)))) (aI (aI (aI @g3 @g4) (aI @g5 (aI @g6 @g7))) (aI (aI @g8 @g9) (aI @g10 (aI @q3n @List.length_set.{0}))))); refine q01 (k:=?_); clear hF)
      ((with_reducible apply toW); refine stW (fun j => j == 8) (k:=?_))
      (have hF := (aI (aI (aI (aI @e0 @e1) (aI @e2 @e3)) (aI (aI @hr @q1) (aI @g0 (aI @g1 @g2)))) (aI (aI (aI @g3 @g4) (aI @g5 (aI @g6 @g7))) (aI (aI @g8 @g9) (aI @g10 (aI @q3n @List.length_set.{0}))))); refine q01 (k:=?_); clear hF)
      (refine Fin.nextW (c + 1) ?_ (have hW := True.intro; q0g); (try dsimp only))
      omega
     ·rw [qcn hin] at hnx
      by_cases hin1 : 0 ≤ s.1
      ·have hin2 : ¬ s.1 < 16 := fun h => hin ⟨hin1, h⟩
       (have hF := (aI (aI (aI @e0 @e1) (aI @e2 @e3)) (aI (aI @q1 @g0) (aI @g1 @g2))); refine q01 (k:=?_); clear hF)
       (refine Fin.nextW (c + 1) ?_ (have hW := @hnx; q0g); (try dsimp only))
       omega
      ·(have hF := (aI (aI (aI @e0 @e1) (aI @e2 @e3)) (aI (aI @q1 @g0) (aI @g1 @g2))); refine q01 (k:=?_); clear hF)
       (refine Fin.nextW (c + 1) ?_ (have hW := @hnx; q0g); (try dsimp only))
       omega
    ·have hce : c = p.cloud.length := by omega
     have hcf : (p.cloud.take c).foldl putSn u1 = (ps.take (i + 1)).foldl q1n q6e := by rw [hnext', hce, List.take_length]; rfl
     rw [hcf]
     (have hF := (aI (aI @e0 @e1) (aI @e2 @e3)); refine q01 (k:=?_); clear hF)
     (refine Fin.nextW (i + 1) ?_ (have hW := True.intro; q0g); (try dsimp only))
     omega
 ·have hie : i = ps.length := by omega
  have hop : (ps.take i).foldl q1n q6e = q0l ps := by rw [hie, List.take_length]; rfl
  rw [hop]
  obtain ⟨q1, q2⟩ := q1c ps
  unfold q6y
  generalize q0l ps = u at q1 q2 ⊢
  (have hF := @e0; refine q01 (k:=?_); clear hF)
  refine Run.wk (Wk.trans (Wk.freeze (k := 3) (cs := q7h u) rfl) (Wk.freeze (k := 4) (cs := q7i u) rfl)) ?_
  rw [zmg, zml]
  refine Run.while (σ := Nat) (fun r => ⟨tms [(2, .ptr 2 0), (3, .ptr 3 0), (4, .ptr 4 0), (9, .ptr 9 0), (10, .int .i64 r)], mms [(2, .cells (List.replicate 16 .nil)), (3, .cells (q68 los u)), (4, .cells (q68 his u)), (9, .cells (q26 u r))]⟩)
   (fun r => r ≤ 16) (fun r => 16 - r) 0 (have hW := (aI @qfc @q6j); q0g) (Nat.zero_le _) ?_
  intro r hr
  have g0 := qc5 u q1 hr
  unfold qif
  by_cases hlt : r < 16
  ·have hru : r < u.length := by omega
   have hq := q2 r
   have g1 : (q68 los u).length = u.length := by simp [q68]
   have g2 : (q68 his u).length = u.length := by simp [q68]
   have g3 := qfd los hru
   have g4 := qfd his hru
   have g5 := qc4 u q1 hlt
   have g6 : (q26 u r).take r ++ AVal.sl 1 (q05 (q0p (u.getD r []))) :: (q26 u r).drop (r + 1) = q26 u (r + 1) := by rw [← g5, List.set_eq_take_append_cons_drop, if_pos (by omega)]
   (have hF := (aI (aI @q1 (aI @g0 @g1)) (aI (aI @g2 @g3) (aI @g4 @g5))); refine q01 (k:=?_); clear hF)
   refine q00 [.sl 1 (q05 (los (u.getD r []))), .sl 1 (q05 (his (u.getD r [])))] (he := ev_k153 _ (by omega)) (k:=?_)
   (have hF := (aI (aI (aI @q1 @g0) (aI @g1 (aI @g2 @g3))) (aI (aI @g4 @g5) (aI @g6 (aI @List.cons_append.{0} @List.nil_append.{0})))); refine q01 (k:=?_); clear hF)
   have g7 : List.take r (q26 u r) ++ AVal.sl 1 (q05 (q0p (u[r]?.getD []))) :: List.drop (r + 1) (q26 u r) = q26 u (r + 1) := by simpa using g6
   (refine Fin.nextW (r + 1) ?_ (have hW := (aI @qfc (aI @q6j @g7)); q0g); (try dsimp only))
   omega
  ·have hre : r = 16 := by omega
   subst hre
   have g1 := qc6 u q1
   have g2 : (q0j (u.map q0p)).length = 16 := by simp [q0j, q1]
   have g3 := q44 (u.map q0p)
   rw [g1]
   have htk : (q0j (u.map q0p)).take 16 = q0j (u.map q0p) := List.take_of_length_le (by omega)
   have g4 : (q0j (u.map q0p)).all AVal.plain = true := by
    rw [List.all_eq_true]
    intro x hx
    obtain ⟨l, _, rfl⟩ := List.mem_map.1 hx
    rfl
   have g5 : (List.replicate 16 AVal.nil).drop 16 = [] := rfl
   (have hF := (aI (aI @g2 (aI @g3 @g4)) (aI @g5 (aI @htk @List.length_replicate.{0}))); refine q01 (k:=?_); clear hF)
   refine Fin.all (xs := [.agg (q0j (u.map q0p))]) ?_ (by simp [q0k, AVal.stb, q27]) rfl
   simp [q4x, q89, qe6, TE_0, TE_3, TE_16, TE_23, TE_24, TE_26, zne, znd, znc, z8f, znb, zna, TD.isAgg, upd, tms, g2, htk, qdm]


theorem q7v {t : List (List Int)} {r : Nat} (h : r < t.length) : (q0j t)[r]? = some (.sl 1 (q05 (t.getD r []))) := by simp [q0j, h]


def zgy : List SOp := [⟨some 2,.box 26 (.tmp 0),none⟩,⟨some 3,.box 41 (.tmp 1),none⟩,⟨some 4,.assign (.const (.bool false)),none⟩]
instance : Live zgy := ⟨[0,1]⟩
def zgx : List SOp := [⟨some 5,.load 41 (.tmp 3),none⟩,⟨some 6,.call ⟨.value (.func 98),#[.tmp 5],#[41]⟩,none⟩,⟨some 7,.unOp .not 4 (.tmp 6),none⟩]
instance : Live zgx := ⟨[2,3]⟩
def zgw : List SOp := [⟨some 4,.assign (.const (.bool false)),none⟩]
instance : Live zgw := ⟨[]⟩
def zgv : List SOp := [⟨some 8,.fieldAddr 41 (.tmp 3) 0,none⟩,⟨some 9,.load 3 (.tmp 8),none⟩,⟨some 10,.fieldAddr 26 (.tmp 2) 0,none⟩,⟨some 11,.load 23 (.tmp 10),none⟩,⟨some 12,.call ⟨.builtin .len,#[.tmp 11],#[23]⟩,none⟩,⟨some 13,.binOp .lss 3 (.tmp 9) (.tmp 12) 3,none⟩,⟨some 14,.move (.tmp 13),none⟩,⟨some 15,.fieldAddr 41 (.tmp 3) 1,some ((some 14),true)⟩,⟨some 16,.load 3 (.tmp 15),some ((some 14),true)⟩,⟨some 17,.fieldAddr 26 (.tmp 2) 0,some ((some 14),true)⟩,⟨some 18,.load 23 (.tmp 17),some ((some 14),true)⟩,⟨some 19,.fieldAddr 41 (.tmp 3) 0,some ((some 14),true)⟩,⟨some 20,.load 3 (.tmp 19),some ((some 14),true)⟩,⟨some 21,.indexAddr 23 (.tmp 18) (.tmp 20),some ((some 14),true)⟩,⟨some 22,.load 3 (.tmp 21),some ((some 14),true)⟩,⟨some 23,.binOp .leq 3 (.tmp 16) (.tmp 22) 3,some ((some 14),true)⟩,⟨some 24,.pick (.tmp 14) (.tmp 23) (.const (.bool false)),none⟩]
instance : Live zgv := ⟨[2,3]⟩
def zgu : List SOp := [⟨some 4,.assign (.const (.bool true)),none⟩]
instance : Live zgu := ⟨[]⟩
def zgt : List SOp := [⟨some 25,.fieldAddr 26 (.tmp 2) 1,none⟩,⟨some 26,.load 24 (.tmp 25),none⟩,⟨some 27,.makeFunc (.func 100) #[] #[.tmp 3],none⟩,⟨some 28,.call ⟨.value (.func 99),#[.tmp 26,.tmp 27],#[24,142]⟩,none⟩,⟨some 4,.assign (.tmp 28),none⟩]
instance : Live zgt := ⟨[2,3]⟩
def t_k51 : SC :=
 (.seq (.ops false zgy) (.seq (.seq (.ops false zgx) (.cond (.tmp 7) (.seq (.ops false zgw) .ret) .skip)) (.seq (.seq (.ops true zgv) (.cond (.tmp 24) (.seq (.ops false zgu) .ret) .skip)) (.seq (.ops false zgt) .ret))))
theorem it_k51 : FnIs Tryz.prog 51 29 [.tmp 4] t_k51 := ⟨Tryz.f51, _, Tryz.func51, rfl, rfl, rfl, rfl, by kernel_rfl⟩

def zbo : List SOp := [⟨some 1,.box 41 (.tmp 0),none⟩,⟨some 2,.assign (.const (.bool false)),none⟩]
instance : Live zbo := ⟨[0]⟩
def zbn : List SOp := [⟨some 3,.fieldAddr 41 (.tmp 1) 0,none⟩,⟨some 4,.load 3 (.tmp 3),none⟩,⟨some 5,.binOp .geq 3 (.tmp 4) (.const (.int .i64 0)) 3,none⟩,⟨some 6,.move (.tmp 5),none⟩,⟨some 7,.fieldAddr 41 (.tmp 1) 0,some ((some 6),true)⟩,⟨some 8,.load 3 (.tmp 7),some ((some 6),true)⟩,⟨some 9,.binOp .lss 3 (.tmp 8) (.const (.int .i64 16)) 3,some ((some 6),true)⟩,⟨some 10,.pick (.tmp 6) (.tmp 9) (.const (.bool false)),none⟩,⟨some 11,.move (.tmp 10),none⟩,⟨some 12,.fieldAddr 41 (.tmp 1) 1,some ((some 11),true)⟩,⟨some 13,.load 3 (.tmp 12),some ((some 11),true)⟩,⟨some 14,.binOp .geq 3 (.tmp 13) (.const (.int .i64 1)) 3,some ((some 11),true)⟩,⟨some 15,.pick (.tmp 11) (.tmp 14) (.const (.bool false)),none⟩,⟨some 16,.move (.tmp 15),none⟩,⟨some 17,.fieldAddr 41 (.tmp 1) 1,some ((some 16),true)⟩,⟨some 18,.load 3 (.tmp 17),some ((some 16),true)⟩,⟨some 19,.binOp .leq 3 (.tmp 18) (.const (.int .i64 1000000000)) 3,some ((some 16),true)⟩,⟨some 20,.pick (.tmp 16) (.tmp 19) (.const (.bool false)),none⟩,⟨some 2,.assign (.tmp 20),none⟩]
instance : Live zbn := ⟨[1]⟩
def t_k98 : SC :=
 (.seq (.ops false zbo) (.seq (.ops false zbn) .ret))
theorem it_k98 : FnIs Tryz.prog 98 21 [.tmp 2] t_k98 := ⟨Tryz.f98, _, Tryz.func98, rfl, rfl, rfl, rfl, by kernel_rfl⟩

def zbm : List SOp := [⟨some 4,.assign (.const (.bool false)),none⟩]
instance : Live zbm := ⟨[0,1]⟩
def zbl : List SOp := [⟨some 5,.move (.tmp 0),none⟩,⟨some 6,.move (.tmp 1),none⟩,⟨some 7,.call ⟨.value (.func 136),#[.tmp 5,.tmp 6],#[24,142]⟩,none⟩,⟨some 8,.binOp .geq 3 (.tmp 7) (.const (.int .i64 0)) 3,none⟩,⟨some 4,.assign (.tmp 8),none⟩]
instance : Live zbl := ⟨[0,1]⟩
def t_k99 : SC :=
 (.seq (.ops false zbm) (.seq (.ops false zbl) .ret))
theorem it_k99 : FnIs Tryz.prog 99 9 [.tmp 4] t_k99 := ⟨Tryz.f99, _, Tryz.func99, rfl, rfl, rfl, rfl, by kernel_rfl⟩

def z6w : List SOp := [⟨some 2,.box 127 (.tmp 0),none⟩,⟨some 3,.assign (.const (.bool false)),none⟩]
instance : Live z6w := ⟨[0,1]⟩
def z6v : List SOp := [⟨some 4,.fieldAddr 127 (.tmp 2) 0,none⟩,⟨some 5,.load 3 (.tmp 4),none⟩,⟨some 6,.fieldAddr 41 (.tmp 1) 0,none⟩,⟨some 7,.load 3 (.tmp 6),none⟩,⟨some 8,.binOp .eql 3 (.tmp 5) (.tmp 7) 3,none⟩,⟨some 9,.move (.tmp 8),none⟩,⟨some 10,.fieldAddr 127 (.tmp 2) 1,some ((some 9),true)⟩,⟨some 11,.load 3 (.tmp 10),some ((some 9),true)⟩,⟨some 12,.fieldAddr 41 (.tmp 1) 1,some ((some 9),true)⟩,⟨some 13,.load 3 (.tmp 12),some ((some 9),true)⟩,⟨some 14,.binOp .leq 3 (.tmp 11) (.tmp 13) 3,some ((some 9),true)⟩,⟨some 15,.pick (.tmp 9) (.tmp 14) (.const (.bool false)),none⟩,⟨some 16,.move (.tmp 15),none⟩,⟨some 17,.fieldAddr 41 (.tmp 1) 1,some ((some 16),true)⟩,⟨some 18,.load 3 (.tmp 17),some ((some 16),true)⟩,⟨some 19,.fieldAddr 127 (.tmp 2) 2,some ((some 16),true)⟩,⟨some 20,.load 3 (.tmp 19),some ((some 16),true)⟩,⟨some 21,.binOp .leq 3 (.tmp 18) (.tmp 20) 3,some ((some 16),true)⟩,⟨some 22,.pick (.tmp 16) (.tmp 21) (.const (.bool false)),none⟩,⟨some 3,.assign (.tmp 22),none⟩]
instance : Live z6v := ⟨[1,2]⟩
def t_k100 : SC :=
 (.seq (.ops false z6w) (.seq (.ops false z6v) .ret))
theorem it_k100 : FnIs Tryz.prog 100 23 [.tmp 3] t_k100 := ⟨Tryz.f100, _, Tryz.func100, rfl, rfl, rfl, rfl, by kernel_rfl⟩

def z15 : List SOp := [⟨some 4,.assign (.const (.int .i64 0)),none⟩]
instance : Live z15 := ⟨[0,1]⟩
def z14 : List SOp := [⟨some 6,.move (.tmp 0),none⟩,⟨some 7,.call ⟨.builtin .len,#[.tmp 6],#[24]⟩,none⟩,⟨some 8,.move (.const (.int .i64 0)),none⟩]
instance : Live z14 := ⟨[0,1]⟩
def z13 : List SOp := [⟨some 9,.binOp .lss 3 (.tmp 8) (.tmp 7) 3,none⟩]
instance : Live z13 := ⟨[0,1,7,8]⟩
def z12 : List SOp := [⟨some 10,.move (.tmp 8),none⟩,⟨some 5,.assign (.tmp 10),none⟩]
instance : Live z12 := ⟨[0,1,7,8]⟩
def z11 : List SOp := [⟨some 11,.move (.tmp 1),none⟩,⟨some 12,.move (.tmp 0),none⟩,⟨some 13,.move (.tmp 5),none⟩,⟨some 14,.indexAddr 24 (.tmp 12) (.tmp 13),none⟩,⟨some 15,.load 127 (.tmp 14),none⟩,⟨some 16,.call ⟨.value (.tmp 11),#[.tmp 15],#[127]⟩,none⟩]
instance : Live z11 := ⟨[0,1,5,7,8]⟩
def z10 : List SOp := [⟨some 17,.move (.tmp 5),none⟩,⟨some 4,.assign (.tmp 17),none⟩]
instance : Live z10 := ⟨[5]⟩
def z0z : List SOp := [⟨some 18,.binOp .add 3 (.tmp 8) (.const (.int .i64 1)) 3,none⟩,⟨some 8,.move (.tmp 18),none⟩]
instance : Live z0z := ⟨[0,1,7,8]⟩
def z0y : List SOp := [⟨some 4,.assign (.const (.int .i64 (-1))),none⟩]
instance : Live z0y := ⟨[]⟩
def qbx : SC :=
 (.seq (.ops false z13) (.seq (.cond (.tmp 9) .skip (.exit 0)) (.seq (.block 1 (.seq (.ops false z12) (.seq (.ops false z11) (.cond (.tmp 16) (.seq (.ops false z10) .ret) .skip)))) (.ops false z0z))))
def t_k136 : SC :=
 (.seq (.ops false z15) (.seq (.seq (.ops false z14) (.block 0 (.loop qbx))) (.seq (.ops false z0y) .ret)))
theorem it_k136 : FnIs Tryz.prog 136 19 [.tmp 4] t_k136 := ⟨Tryz.f136, _, Tryz.func136, rfl, rfl, rfl, rfl, by kernel_rfl⟩

def LoopP (n : Nat) (s2 : AS) (I : Prop) (Q : Ex → AS → Prop) : Ex → AS → Prop := Ex.then (fun s' => Wk n s' s2 ∧ I) Q
theorem Fin.nextP {E : Env} {n : Nat} {s s2 : AS} {I : Prop} {Q' : Ex → AS → Prop} (h : Wk n s s2) (hi : I) : Fin E n (LoopP n s2 I Q') .done .normal s := ⟨h, hi⟩
theorem Fin.outP_ret {E : Env} {n : Nat} {s s2 : AS} {I : Prop} {Q : Ex → AS → Prop} {k : Kont} (h : Fin E n Q k .ret s) : Fin E n (LoopP n s2 I (KQ E n Q k)) .done .ret s := h
theorem Run.rangeP {E : Env} {n : Nat} {Q : Ex → AS → Prop} {k : Kont} {s : AS} {x : SC} (len : Nat) (S : Nat → AS) (I : Nat → Prop) (h0 : Wk n s (S 0)) (hI : I 0) (round : ∀ i, i < len → I i → Run E n (LoopP n (S (i + 1)) (I (i + 1)) (KQ E n Q k)) x .done (S i))
 (last : I len → Run E n (Ex.then (fun _ => False) (KQ E n Q k)) x .done (S len)) : Run E n Q (.loop x) k s := by
 refine Run.wk h0 (Run.loop (fun m s => ∃ i, i ≤ len ∧ m = len - i ∧ s = S i ∧ I i) (m0 := len) ⟨0, Nat.zero_le _, rfl, rfl, hI⟩ fun m s ⟨i, hi, hm, hs, hIi⟩ => ?_)
 subst hs
 by_cases hl : i < len
 ·refine AW.mono (round i hl hIi) fun e s' h => ?_
  cases e with
  | normal => exact ⟨len - (i + 1), S (i + 1), by omega, h.1, i + 1, hl, rfl, rfl, h.2⟩
  | _ => exact h
 ·have : i = len := by omega
  subst this
  refine AW.mono (last hIi) fun e s' h => ?_
  cases e with
  | normal => exact h.elim
  | _ => exact h
def q3l (r m : Int) : Bool := decide (0 ≤ r) && (decide (r < 16) && (decide (1 ≤ m) && decide (m ≤ 1000000000)))
theorem ev_k98 (d : Rn) : Ev (En Tryz.prog rfl).P 98 [q3v d] (.ret (.bool (q3l d.1 d.2))) := by
 refine Ev.of_body it_k98 (by simp) (Run.start ?_)
 unfold t_k98 q3v q3l
 cases c1 : decide (0 ≤ d.1)
 ·(have hF := @c1; refine q1i (k:=?_); clear hF)
  exact Fin.tmp' rfl rfl
 ·cases c2 : decide (d.1 < 16)
  ·(have hF := (aI @c1 @c2); refine q1i (k:=?_); clear hF)
   exact Fin.tmp' rfl rfl
  ·cases c3 : decide (1 ≤ d.2)
   ·(have hF := (aI @c1 (aI @c2 @c3)); refine q1i (k:=?_); clear hF)
    exact Fin.tmp' rfl rfl
   ·(have hF := (aI @c1 (aI @c2 @c3)); refine q1i (k:=?_); clear hF)
    exact Fin.tmp' rfl rfl
def zam (d : Rn) (s : Sn) : Bool := decide (s.1 = d.1) && (decide (s.2.1 ≤ d.2) && decide (d.2 ≤ s.2.2))
theorem ev_k100 (d : Rn) (s : Sn) : Ev (En Tryz.prog rfl).P 100 [qqj s, .sptr [.int .i64 d.1, .int .i64 d.2]] (.ret (.bool (zam d s))) := by
 refine Ev.of_body it_k100 (by simp) (Run.start ?_)
 unfold t_k100 qqj zam
 cases c1 : decide (s.1 = d.1)
 ·(have hF := @c1; refine q1i (k:=?_); clear hF)
  exact Fin.tmp' rfl rfl
 ·cases c2 : decide (s.2.1 ≤ d.2)
  ·(have hF := (aI @c1 @c2); refine q1i (k:=?_); clear hF)
   exact Fin.tmp' rfl rfl
  ·(have hF := (aI @c1 @c2); refine q1i (k:=?_); clear hF)
   exact Fin.tmp' rfl rfl
def idxR (q : Sn → Bool) (l : List Sn) : Int := match l.findIdx? q with | some i => i | none => -1
theorem ev_k136 (l : List Sn) (hl : l.length ≤ 1000000000) (g : FuncId) (caps : List AVal) (hs : q0k caps = true) (hc : caps.map (fz (fun _ => false) NoM) = caps) (q : Sn → Bool) (hf : ∀ s ∈ l, Ev (En Tryz.prog rfl).P g (qqj s :: caps) (.ret (.bool (q s)))) :
 Ev (En Tryz.prog rfl).P 136 [.sl 3 (q0d l), .fn g caps] (.ret (.int .i64 (idxR q l))) := by
 refine Ev.of_body it_k136 (by simp) (Run.start ?_)
 unfold t_k136
 have e4 : (q0d l).length = l.length := q1e _
 (have hF := @e4; refine q1i (k:=?_); clear hF)
 refine Run.rangeP l.length (fun i => ⟨tms [(0, .sl 3 (q0d l)), (1, .fn g caps), (7, .int .i64 l.length), (8, .int .i64 i)], NoM⟩) (fun i => ∀ x ∈ l.take i, q x = false) (Wk.clean _ ⟨rfl, rfl, rfl, rfl, trivial⟩ ⟨q04 l, hs, rfl, rfl, trivial⟩) (by simp) (fun i hi hI => ?_) (fun hI => ?_)
 ·obtain ⟨s, hsx⟩ : ∃ s, l[i]? = some s := ⟨l[i], by simp [hi]⟩
  have e1 : ((i : Int) < (l.length : Int)) = True := by simp only [eq_iff_iff, iff_true]; omega
  have e2 : (0 ≤ (i : Int)) = True := by simp
  have e3 : (q0d l)[i]? = some (.agg [.int .i64 s.1, .int .i64 s.2.1, .int .i64 s.2.2]) := q2c hsx
  have e13 : IntKind.i64.wrap ((i : Int) + 1) = ((i + 1 : Nat) : Int) := by rw [q3d (by omega)]; omega
  unfold qbx
  (have hF := (aI (aI @e1 @e2) (aI @e3 @e4)); refine q1i (k:=?_); clear hF)
  refine q2p (l := qqj s :: caps) rfl ?_ (by simp [q0k, qqj, AVal.stb, hs]) (hf s (List.mem_of_getElem? hsx)) ?_
  ·show _ :: caps.map (fz (fun _ => false) NoM) = _
   rw [hc]
   rfl
  cases hq : q s
  ·(have hF := (aI (aI @e1 @e2) (aI @e3 (aI @e4 @e13))); refine q1i (k:=?_); clear hF)
   refine Fin.nextP (Wk.clean _ ⟨rfl, rfl, rfl, rfl, trivial⟩ ⟨q04 l, hs, rfl, rfl, trivial⟩) (fun x hx => ?_)
   rw [List.take_add_one, hsx] at hx
   rcases List.mem_append.1 hx with hx | hx
   ·exact hI x hx
   ·simp at hx; subst hx; exact hq
  ·(have hF := (aI (aI @e1 @e2) (aI @e3 (aI @e4 @e13))); refine q1i (k:=?_); clear hF)
   have hidx : l.findIdx? q = some i := by
    rw [List.findIdx?_eq_some_iff_getElem]
    refine ⟨hi, by have := hsx; rw [List.getElem?_eq_getElem hi] at this; cases this; exact hq, fun j hj => ?_⟩
    have : l[j] ∈ l.take i := by rw [List.mem_take_iff_getElem]; exact ⟨j, by omega, rfl⟩
    simp [hI _ this]
   unfold idxR
   rw [hidx]
   exact Fin.outP_ret (Fin.block_ret (Fin.seq_ret (Fin.tmp' rfl rfl)))
 ·have e1 : ((l.length : Int) < (l.length : Int)) = False := by simp
  unfold qbx
  (have hF := @e1; refine q1i (k:=?_); clear hF)
  have hidx : l.findIdx? q = none := by
   rw [List.findIdx?_eq_none_iff]
   rw [List.take_length] at hI
   exact hI
  unfold idxR
  rw [hidx]
  exact Fin.tmp' rfl rfl
theorem idxR_any (q : Sn → Bool) (l : List Sn) : decide (0 ≤ idxR q l) = l.any q := by
 unfold idxR
 cases h : l.findIdx? q with
 | none =>
  rw [List.findIdx?_eq_none_iff] at h
  have : l.any q = false := by rw [List.any_eq_false]; intro x hx; simp [h x hx]
  rw [this]
  rfl
 | some i =>
  obtain ⟨hi, hq, _⟩ := List.findIdx?_eq_some_iff_getElem.1 h
  have : l.any q = true := List.any_eq_true.2 ⟨l[i], List.getElem_mem hi, hq⟩
  rw [this]
  simp
theorem ev_k99 (l : List Sn) (hl : l.length ≤ 1000000000) (g : FuncId) (caps : List AVal) (hs : q0k caps = true) (hc : caps.map (fz (fun _ => false) NoM) = caps)
 (hc2 : caps.map (fun c => match c with | .ptr k off => AVal.undef | c => fzc (fun _ => false) NoM c) = caps) (q : Sn → Bool) (hf : ∀ s ∈ l, Ev (En Tryz.prog rfl).P g (qqj s :: caps) (.ret (.bool (q s)))) :
 Ev (En Tryz.prog rfl).P 99 [.sl 3 (q0d l), .fn g caps] (.ret (.bool (l.any q))) := by
 refine Ev.of_body it_k99 (by simp) (Run.start ?_)
 unfold t_k99
 rw [← idxR_any]
 (have hF := True.intro; refine q1i (k:=?_); clear hF)
 refine q2p (l := [.sl 3 (q0d l), .fn g caps]) rfl ?_ (by simp [q0k, AVal.stb, hs, q04]) (ev_k136 l hl g caps hs hc q hf) ?_
 ·show [AVal.sl 3 (q0d l), AVal.fn g _] = _
  congr 3
 (have hF := True.intro; refine q1i (k:=?_); clear hF)
 exact Fin.tmp' rfl rfl
def q2q (p : Pst) (d : Rn) : Bool := q3l d.1 d.2 && ((decide (d.1 < p.vec.length) && decide (d.2 ≤ q1q p.vec d.1.toNat)) || p.cloud.any (zam d))
theorem z7s (p : Pst) (d : Rn) (hw : wt p ≤ 900000000) : Ev (En Tryz.prog rfl).P 51 [q0f p, q3v d] (.ret (.bool (q2q p d))) := by
 refine Ev.of_body it_k51 (by simp) (Run.start ?_)
 have hwt : wt p = p.vec.length + p.cloud.length := rfl
 have e0 : (q05 p.vec).length = p.vec.length := q0i _
 unfold t_k51 q0f
 have hx : q3v d = .agg [.int .i64 d.1, .int .i64 d.2] := rfl
 rw [hx]
 (have hF := True.intro; refine q1i (k:=?_); clear hF)
 refine q2p (l := [q3v d]) rfl rfl rfl (ev_k98 d) ?_
 unfold q2q
 cases c0 : q3l d.1 d.2
 ·(have hF := @e0; refine q1i (k:=?_); clear hF)
  exact Fin.tmp' rfl rfl
 ·have hd : 0 ≤ d.1 ∧ d.1 < 16 := by simp [q3l] at c0; omega
  obtain ⟨r, hr⟩ : ∃ r : Nat, d.1 = r := ⟨d.1.toNat, by omega⟩
  have hcall : Ev (En Tryz.prog rfl).P 99 [.sl 3 (q0d p.cloud), .fn 100 [.sptr [.int .i64 d.1, .int .i64 d.2]]] (.ret (.bool (p.cloud.any (zam d)))) :=
   ev_k99 p.cloud (by omega) 100 _ rfl rfl rfl (zam d) (fun s _ => ev_k100 d s)
  cases c1 : decide (d.1 < (p.vec.length : Int))
  ·(have hF := (aI @e0 @c1); refine q1i (k:=?_); clear hF)
   refine z87 (fun j => j == 3) (l := [.sl 3 (q0d p.cloud), .fn 100 [.sptr [.int .i64 d.1, .int .i64 d.2]]]) rfl rfl (by simp [q0k, AVal.stb, q04]) hcall rfl rfl ?_
   (have hF := @e0; refine q1i (k:=?_); clear hF)
   exact Fin.tmp' rfl rfl
  ·have hrl : r < p.vec.length := by simp at c1; omega
   have e1 : (q05 p.vec)[r]? = some (.int .i64 (q1q p.vec r)) := q0v (by simp [q1q, hrl])
   have e2 : (0 ≤ (r : Int)) = True := by simp
   have e3 : ((r : Int) < (p.vec.length : Int)) = True := by simp only [eq_iff_iff, iff_true]; omega
   rw [hr] at c1 hcall ⊢
   rw [Int.toNat_natCast]
   cases c2 : decide (d.2 ≤ q1q p.vec r)
   ·(have hF := (aI (aI @e0 (aI @e1 @e2)) (aI @e3 (aI @c1 @c2))); refine q1i (k:=?_); clear hF)
    refine z87 (fun j => j == 3) (l := [.sl 3 (q0d p.cloud), .fn 100 [.sptr [.int .i64 r, .int .i64 d.2]]]) rfl rfl (by simp [q0k, AVal.stb, q04]) hcall rfl rfl ?_
    (have hF := @e0; refine q1i (k:=?_); clear hF)
    exact Fin.tmp' rfl rfl
   ·(have hF := (aI (aI @e0 (aI @e1 @e2)) (aI @e3 (aI @c1 @c2))); refine q1i (k:=?_); clear hF)
    exact Fin.tmp' rfl rfl

def zch : List SOp := [⟨some 2,.alloc 26,none⟩]
instance : Live zch := ⟨[0]⟩
def zcg : List SOp := [⟨some 6,.build 151 #[],none⟩,⟨some 7,.box 151 (.tmp 6),none⟩,⟨some 3,.assign (.tmp 7),none⟩]
instance : Live zcg := ⟨[0,2]⟩
def zcf : List SOp := [⟨some 8,.move (.tmp 0),none⟩,⟨some 9,.call ⟨.builtin .len,#[.tmp 8],#[38]⟩,none⟩,⟨some 10,.move (.const (.int .i64 0)),none⟩]
instance : Live zcf := ⟨[0,2,3]⟩
def zce : List SOp := [⟨some 11,.binOp .lss 3 (.tmp 10) (.tmp 9) 3,none⟩]
instance : Live zce := ⟨[2,3,8,9,10]⟩
def zcd : List SOp := [⟨some 12,.indexAddr 38 (.tmp 8) (.tmp 10),none⟩,⟨some 13,.load 41 (.tmp 12),none⟩,⟨some 5,.alloc 41,none⟩,⟨none,.store 41 (.tmp 5) (.tmp 13),none⟩]
instance : Live zcd := ⟨[2,3,8,9,10]⟩
def zcc : List SOp := [⟨some 14,.load 41 (.tmp 5),none⟩,⟨some 15,.call ⟨.value (.func 98),#[.tmp 14],#[41]⟩,none⟩]
instance : Live zcc := ⟨[2,3,5,8,9,10]⟩
def qpr : List SOp := [⟨some 16,.move (.tmp 3),none⟩,⟨some 17,.fieldAddr 41 (.tmp 5) 0,none⟩,⟨some 18,.load 3 (.tmp 17),none⟩,⟨some 19,.move (.tmp 3),none⟩,⟨some 20,.fieldAddr 41 (.tmp 5) 0,none⟩,⟨some 21,.load 3 (.tmp 20),none⟩,⟨some 22,.nilCheck (.tmp 19),none⟩,⟨some 23,.indexAddr 151 (.tmp 22) (.tmp 21),none⟩,⟨some 24,.load 149 (.tmp 23),none⟩,⟨some 25,.fieldAddr 41 (.tmp 5) 1,none⟩,⟨some 26,.load 3 (.tmp 25),none⟩,⟨some 27,.fieldAddr 41 (.tmp 5) 1,none⟩,⟨some 28,.load 3 (.tmp 27),none⟩,⟨some 29,.build 179 #[(0,.tmp 26),(1,.tmp 28)],none⟩,⟨some 30,.buildSlice 149 1 #[(0,.tmp 29)],none⟩,⟨some 31,.call ⟨.builtin .append,#[.tmp 24,.tmp 30],#[149,149]⟩,none⟩,⟨some 32,.nilCheck (.tmp 16),none⟩,⟨some 33,.indexAddr 151 (.tmp 32) (.tmp 18),none⟩,⟨none,.store 149 (.tmp 33) (.tmp 31),none⟩]
instance : Live qpr := ⟨[2,3,5,8,9,10]⟩
instance : Rd qpr := ⟨fun j => j == 5⟩
def zcb : List SOp := [⟨some 34,.binOp .add 3 (.tmp 10) (.const (.int .i64 1)) 3,none⟩,⟨some 10,.move (.tmp 34),none⟩]
instance : Live zcb := ⟨[2,3,8,9,10]⟩
def zca : List SOp := [⟨some 35,.move (.tmp 3),none⟩,⟨some 36,.call ⟨.value (.func 97),#[.tmp 35],#[137]⟩,none⟩,⟨none,.store 26 (.tmp 2) (.tmp 36),none⟩]
instance : Live zca := ⟨[2,3]⟩
def qbb : SC :=
 (.seq (.ops false zce) (.seq (.cond (.tmp 11) .skip (.exit 0)) (.seq (.block 1 (.seq (.ops false zcd) (.seq (.ops false zcc) (.cond (.tmp 15) (.opsW [24] qpr) .skip)))) (.ops false zcb))))
def t_k94 : SC :=
 (.seq (.ops false zch) (.seq (.ops false zcg) (.seq (.seq (.ops false zcf) (.block 0 (.loop qbb))) (.seq (.ops false zca) .ret))))
theorem it_k94 : FnIs Tryz.prog 94 37 [.cell 2 26] t_k94 := ⟨Tryz.f94, _, Tryz.func94, rfl, rfl, rfl, rfl, by kernel_rfl⟩

def q3z (t : Tab) (d : Rn) : Tab := if q3l d.1 d.2 = true then q6d t d.1.toNat (d.2, d.2) else t
theorem zk5 {t : Tab} {d : Rn} (h : q3l d.1 d.2 = true) : q3z t d = q6d t d.1.toNat (d.2, d.2) := if_pos h
theorem z8r {t : Tab} {d : Rn} (h : q3l d.1 d.2 = false) : q3z t d = t := if_neg (by simp [h])
def ofT (ds : List Rn) : Tab := ds.foldl q3z q6e
theorem TabLe.dot {t : Tab} {n : Nat} (h : TabLe t n) (d : Rn) : TabLe (q3z t d) (n + 1) := by
 unfold q3z
 split
 ·exact h.add _ _
 ·exact h.mono (by omega)
theorem TabLe.dots {t : Tab} {n : Nat} (h : TabLe t n) : ∀ c : List Rn, TabLe (c.foldl q3z t) (n + c.length)
 | [] => h
 | s :: c => by
  have := TabLe.dots (h.dot s) c
  simp only [List.foldl_cons, List.length_cons]
  exact this.mono (by omega)
theorem of_l1 {Q : Ex → AS → Prop} {k : Kont} (ds : List Rn) (hp : ds.length ≤ 1000000000)
 (h : Fin (En Tryz.prog rfl) 37 Q k .normal ⟨upd (tms [(2, .ptr 2 0), (3, .ptr 7 0), (8, .sl 2 (q06 ds)), (9, .int .i64 ds.length), (10, .int .i64 ds.length)]) 11 (.bool false), mms [(7, .cells (q4p (ofT ds))), (2, .cells [.nil, .nil])]⟩) :
 Run (En Tryz.prog rfl) 37 Q (.loop qbb) (.block 0 k) ⟨tms [(2, .ptr 2 0), (3, .ptr 7 0), (8, .sl 2 (q06 ds)), (9, .int .i64 ds.length), (10, .int .i64 0)], mms [(7, .cells (q4p q6e)), (2, .cells [.nil, .nil])]⟩ := by
 refine Run.range ds.length (fun i => ⟨tms [(2, .ptr 2 0), (3, .ptr 7 0), (8, .sl 2 (q06 ds)), (9, .int .i64 ds.length), (10, .int .i64 i)], mms [(7, .cells (q4p ((ds.take i).foldl q3z q6e))), (2, .cells [.nil, .nil])]⟩) (Wk.refl _ _) (fun i hi => ?_) ?_
 ·have hq0 := TabLe.dots q9x (ds.take i)
  obtain ⟨s, hs⟩ : ∃ s, ds[i]? = some s := ⟨ds[i], by simp [hi]⟩
  rw [q2w q3z q6e ds hs]
  generalize (ds.take i).foldl q3z q6e = u at hq0 ⊢
  obtain ⟨q1, q2⟩ := hq0
  have e1 : ((i : Int) < (ds.length : Int)) = True := by simp only [eq_iff_iff, iff_true]; omega
  have e2 : (0 ≤ (i : Int)) = True := by simp
  have e3 : (q06 ds)[i]? = some (.agg [.int .i64 s.1, .int .i64 s.2]) := q39 hs
  have e4 : (q06 ds).length = ds.length := q0u _
  have e13 : IntKind.i64.wrap ((i : Int) + 1) = ((i + 1 : Nat) : Int) := by rw [q3d (by omega)]; omega
  unfold qbb
  (have hF := (aI (aI @e1 @e2) (aI @e3 @e4)); refine q1i (k:=?_); clear hF)
  refine q2p (l := [q3v s]) rfl rfl rfl (ev_k98 s) ?_
  cases c0 : q3l s.1 s.2
  ·rw [z8r c0]
   (have hF := (aI (aI @e1 @e2) (aI @e3 (aI @e4 @e13))); refine q1i (k:=?_); clear hF)
   exact Fin.next (Wk.toL _ _ ⟨rfl, rfl, rfl, rfl, rfl, trivial⟩ ⟨rfl, rfl, trivial⟩ ⟨rfl, rfl, q08 ds, rfl, rfl, trivial⟩ ⟨q2r _ _, rfl, trivial⟩)
  ·rw [zk5 c0]
   have hd : 0 ≤ s.1 ∧ s.1 < 16 := by simp [q3l] at c0; omega
   obtain ⟨r, hr⟩ : ∃ r : Nat, s.1 = r := ⟨s.1.toNat, by omega⟩
   have hr16 : r < 16 := by omega
   have hru : r < u.length := by rw [q1]; exact hr16
   have e5 : (q4p u)[r]? = some (.own 2 (q06 (u.getD r []))) := qh8 hru
   have e6 : ((q4p u).set r .hole)[r]? = some .hole := qdl hru
   have e7 := qh9 hru (s.2, s.2)
   simp only at e7
   have e8 : (q06 (u.getD r [])).length = (u.getD r []).length := q0u _
   have hq := q2 r
   have hcl : (ds.take i).length ≤ ds.length := by rw [List.length_take]; omega
   have e9 : (((u.getD r []).length + 1) * 16 ≤ 70368744177664) = True := by simp only [eq_iff_iff, iff_true]; omega
   have e10 : ((u.getD r []).length + 1 ≤ 4611686018427387904) = True := by simp only [eq_iff_iff, iff_true]; omega
   have e11 : (q4p u).length = 16 := by rw [qh7, q1]
   have e12 : (r + 1 ≤ 16) = True := by simp only [eq_iff_iff, iff_true]; omega
   have e14 : ((r : Int) < ((16 : Nat) : Int)) = True := by simp only [eq_iff_iff, iff_true]; omega
   have e15 : (0 ≤ (r : Int)) = True := by simp
   rw [hr] at ⊢
   rw [Int.toNat_natCast]
   (have hF := (aI (aI @e1 @e2) (aI @e3 @e4)); refine q1i (k:=?_); clear hF)
   ((with_reducible apply toW); refine stW (fun j => j == 5) (k:=?_))
   (have hF := (aI (aI (aI (aI @e1 @e2) (aI @e3 @e4)) (aI (aI @e5 @e6) (aI @e7 @e8))) (aI (aI (aI @e9 @e10) (aI @e11 @e12)) (aI (aI @e13 @e14) (aI @e15 @List.length_set.{0})))); refine q1i (k:=?_); clear hF)
   exact Fin.next (Wk.toL _ _ ⟨rfl, rfl, rfl, rfl, rfl, trivial⟩ ⟨rfl, rfl, trivial⟩ ⟨rfl, rfl, q08 ds, rfl, rfl, trivial⟩ ⟨q2r _ _, rfl, trivial⟩)
 ·have e1 : ((ds.length : Int) < (ds.length : Int)) = False := by simp
  have e3 : ds.take ds.length = ds := List.take_length
  rw [e3]
  unfold qbb
  (have hF := @e1; refine q1i (k:=?_); clear hF)
  exact h

def zf5 : List SOp := [⟨some 1,.box 26 (.tmp 0),none⟩,⟨some 2,.alloc 26,none⟩]
instance : Live zf5 := ⟨[0]⟩
def zf4 : List SOp := [⟨some 3,.load 26 (.tmp 1),none⟩,⟨some 4,.buildSlice 116 1 #[(0,.tmp 3)],none⟩,⟨some 5,.call ⟨.value (.func 96),#[.tmp 4],#[116]⟩,none⟩,⟨some 6,.call ⟨.value (.func 97),#[.tmp 5],#[137]⟩,none⟩,⟨none,.store 26 (.tmp 2) (.tmp 6),none⟩]
instance : Live zf4 := ⟨[1,2]⟩
def t_k64 : SC :=
 (.seq (.ops false zf5) (.seq (.ops false zf4) .ret))
theorem it_k64 : FnIs Tryz.prog 64 7 [.cell 2 26] t_k64 := ⟨Tryz.f64, _, Tryz.func64, rfl, rfl, rfl, rfl, by kernel_rfl⟩

def zh9 : List SOp := [⟨some 2,.alloc 26,none⟩]
instance : Live zh9 := ⟨[0]⟩
def zh8 : List SOp := [⟨some 3,.move (.tmp 0),none⟩,⟨some 4,.call ⟨.value (.func 96),#[.tmp 3],#[116]⟩,none⟩,⟨some 5,.call ⟨.value (.func 97),#[.tmp 4],#[137]⟩,none⟩,⟨none,.store 26 (.tmp 2) (.tmp 5),none⟩]
instance : Live zh8 := ⟨[0,2]⟩
def t_k49 : SC :=
 (.seq (.ops false zh9) (.seq (.ops false zh8) .ret))
theorem it_k49 : FnIs Tryz.prog 49 6 [.cell 2 26] t_k49 := ⟨Tryz.f49, _, Tryz.func49, rfl, rfl, rfl, rfl, by kernel_rfl⟩

theorem zlz (ps : List Pst) (q : Pst) (hl : ps.length ≤ 1000000000) (hw : (ps.map wt).sum ≤ 900000000) (h52 : Ev (En Tryz.prog rfl).P 97 [.sptr (q1w (q0l ps))] (.ret (q0f q))) : Ev (En Tryz.prog rfl).P 49 [.sl 2 (q1k ps)] (.ret (q0f q)) := by
 refine Ev.of_body it_k49 (by simp) (Run.start ?_)
 unfold t_k49
 (have hF := True.intro; refine q1i (k:=?_); clear hF)
 refine q2p (l := [.sl 2 (q1k ps)]) rfl rfl (by simp [q0k, AVal.stb, q0e]) (qf9 ps hl hw) ?_
 (have hF := True.intro; refine q1i (k:=?_); clear hF)
 refine q2p (l := [.sptr (q1w (q0l ps))]) rfl rfl (by simp [q0k, AVal.stb, q1b]) h52 ?_
 unfold q0f
 (have hF := True.intro; refine q1i (k:=?_); clear hF)
 exact Fin.all rfl (by simp [q0k, AVal.stb, q03, q04, fzc, q4i]) rfl
theorem zlw (p : Pst) (q : Pst) (hw : wt p ≤ 900000000) (h52 : Ev (En Tryz.prog rfl).P 97 [.sptr (q1w (q0l [p]))] (.ret (q0f q))) : Ev (En Tryz.prog rfl).P 64 [q0f p] (.ret (q0f q)) := by
 refine Ev.of_body it_k64 (by simp) (Run.start ?_)
 have hpx : q0f p = .agg [.sl 1 (q05 p.vec), .sl 3 (q0d p.cloud)] := rfl
 unfold t_k64
 rw [hpx]
 (have hF := True.intro; refine q1i (k:=?_); clear hF)
 refine q2p (l := [.sl 2 (q1k [p])]) rfl rfl (by simp [q0k, AVal.stb, q0e]) (qf9 [p] (by simp) (by simpa using hw)) ?_
 (have hF := True.intro; refine q1i (k:=?_); clear hF)
 refine q2p (l := [.sptr (q1w (q0l [p]))]) rfl rfl (by simp [q0k, AVal.stb, q1b]) h52 ?_
 unfold q0f
 (have hF := True.intro; refine q1i (k:=?_); clear hF)
 exact Fin.all rfl (by simp [q0k, AVal.stb, q03, q04, fzc, q4i]) rfl

theorem zls (ds : List Rn) (q : Pst) (hl : ds.length ≤ 1000000000) (h52 : Ev (En Tryz.prog rfl).P 97 [.sptr (q1w (ofT ds))] (.ret (q0f q))) : Ev (En Tryz.prog rfl).P 94 [.sl 2 (q06 ds)] (.ret (q0f q)) := by
 refine Ev.of_body it_k94 (by simp) (Run.start ?_)
 unfold t_k94
 have e0 : (q06 ds).length = ds.length := q0u _
 (have hF := @e0; refine q1i (k:=?_); clear hF)
 refine Run.wk (Wk.trans (Wk.own_cells (k := 7) (cs' := q4p q6e) rfl rfl ?_) (Wk.toL [(2, .ptr 2 0), (3, .ptr 7 0), (8, .sl 2 (q06 ds)), (9, .int .i64 ds.length), (10, .int .i64 0)] [(7, .cells (q4p q6e)), (2, .cells [.nil, .nil])] ⟨rfl, rfl, rfl, rfl, rfl, trivial⟩ ⟨rfl, rfl, trivial⟩ ⟨rfl, rfl, q08 ds, rfl, rfl, trivial⟩ ⟨q2r _ _, rfl, trivial⟩)) ?_
 ·intro i x y hx hy
  have hx' : (List.replicate 16 AVal.nil)[i]? = some x := hx
  rw [List.getElem?_replicate] at hx'
  have hy' : (List.replicate 16 (AVal.own 2 []))[i]? = some y := hy
  rw [List.getElem?_replicate] at hy'
  split at hx'
  ·rename_i h16
   rw [if_pos h16] at hy'
   cases hx'; cases hy'
   exact .inr ⟨rfl, 2, rfl⟩
  ·cases hx'
 refine of_l1 ds hl ?_
 (have hF := @e0; refine q1i (k:=?_); clear hF)
 refine qhf (fun j => j == 7) (l := [.sptr (q1w (ofT ds))]) rfl ?hl (by simp [q0k, AVal.stb, q1b]) h52 rfl ?k
 case hl =>
  show [AVal.sptr (((q4p (ofT ds)).map (fzc (fun j => j == 7) _)).drop 0)] = _
  simp [q4p, q1w, fzc]
 unfold q0f
 (have hF := True.intro; refine q1i (k:=?_); clear hF)
 exact Fin.all rfl (by simp [q0k, AVal.stb, q03, q04, fzc, q4i]) rfl

def inT (t : Tab) (r : Nat) (n : Int) : Prop := mem1 (t.getD r []) n
def inP (p : Pst) (r : Nat) (n : Int) : Prop := r < 16 ∧ 1 ≤ n ∧ n ≤ 1000000000 ∧ ((r < p.vec.length ∧ n ≤ q1q p.vec r) ∨ ∃ s ∈ p.cloud, s.1 = (r : Int) ∧ s.2.1 ≤ n ∧ n ≤ s.2.2)
theorem q9t {t : Tab} (k : Nat) (x : Rn) (r : Nat) : (q6d t k x).getD r [] = if r = k ∧ k < t.length then t.getD r [] ++ [x] else t.getD r [] := by
 unfold q6d
 simp only [List.getD_eq_getElem?_getD, List.getElem?_set]
 by_cases h : k = r
 ·subst h
  by_cases h2 : k < t.length
  ·simp [h2]
  ·simp [h2]
 ·rw [if_neg h, if_neg (fun hh => h hh.1.symm)]
theorem qj8 (v : List Int) (t : Tab) (ht : t.length = 16) : ∀ i, i ≤ 16 → ((List.range i).foldl (q3k v) t).length = 16 ∧ ∀ r, ((List.range i).foldl (q3k v) t).getD r [] = if r < i then t.getD r [] ++ [(1, q1q v r)] else t.getD r []
 | 0, _ => ⟨ht, fun r => by simp⟩
 | i + 1, hi => by
  obtain ⟨h1, h2⟩ := qj8 v t ht i (by omega)
  rw [q7n]
  generalize (List.range i).foldl (q3k v) t = u at h1 h2 ⊢
  refine ⟨by unfold q3k; rw [q9u, h1], fun r => ?_⟩
  unfold q3k
  rw [q9t, h1, h2]
  by_cases hr : r = i
  ·subst hr
   rw [if_pos ⟨rfl, by omega⟩, if_neg (by omega), if_pos (by omega)]
  ·rw [if_neg (fun h => hr h.1)]
   by_cases hlt : r < i
   ·rw [if_pos hlt, if_pos (by omega)]
   ·rw [if_neg hlt, if_neg (by omega)]
def q8k (c : List Sn) (r : Nat) : List Rn := (c.filter fun s => decide (s.1 = (r : Int))).map fun s => s.2
theorem qor (r : Nat) (hr : r < 16) : ∀ (c : List Sn) (t : Tab), t.length = 16 → (q4a c t).length = 16 ∧ (q4a c t).getD r [] = t.getD r [] ++ q8k c r
 | [], t, ht => ⟨ht, by simp [q4a, q8k]⟩
 | s :: c, t, ht => by
  have hl : (putSn t s).length = 16 := by
   unfold putSn
   split
   ·rw [q9u, ht]
   ·exact ht
  obtain ⟨h1, h2⟩ := qor r hr c (putSn t s) hl
  refine ⟨h1, ?_⟩
  show (q4a c (putSn t s)).getD r [] = _
  rw [h2]
  unfold putSn q8k
  rw [List.filter_cons]
  by_cases hs : s.1 = (r : Int)
  ·rw [if_pos (by omega), q9t, if_pos ⟨by omega, by omega⟩]
   simp [hs]
  ·simp only [hs, decide_false, Bool.false_eq_true, if_false]
   split
   ·rw [q9t, if_neg (by omega)]
   ·rfl
theorem z8j (c : List Sn) (r : Nat) (n : Int) : inR (q8k c r) n ↔ ∃ s ∈ c, s.1 = (r : Int) ∧ s.2.1 ≤ n ∧ n ≤ s.2.2 := by
 constructor
 ·rintro ⟨x, hx, h1, h2⟩
  simp only [q8k, List.mem_map, List.mem_filter, decide_eq_true_eq] at hx
  obtain ⟨s, ⟨hs, hr⟩, rfl⟩ := hx
  exact ⟨s, hs, hr, h1, h2⟩
 ·rintro ⟨s, hs, hr, h1, h2⟩
  exact ⟨s.2, by simp only [q8k, List.mem_map, List.mem_filter, decide_eq_true_eq]; exact ⟨s, ⟨hs, hr⟩, rfl⟩, h1, h2⟩
theorem zkh {t : Tab} (ht : t.length = 16) (p : Pst) {r : Nat} (hr : r < 16) : (q1n t p).length = 16 ∧ (q1n t p).getD r [] = (if r < p.vec.length then t.getD r [] ++ [(1, q1q p.vec r)] else t.getD r []) ++ q8k p.cloud r := by
 obtain ⟨h1, h2⟩ := qj8 p.vec t ht (min p.vec.length 16) (by omega)
 obtain ⟨h3, h4⟩ := qor r hr p.cloud (q5b p.vec t) h1
 refine ⟨h3, ?_⟩
 show (q4a p.cloud (q5b p.vec t)).getD r [] = _
 rw [h4]
 unfold q5b
 rw [h2]
 by_cases h : r < p.vec.length
 ·rw [if_pos h, if_pos (by omega)]
 ·rw [if_neg h, if_neg (by omega)]
theorem one_in {t : Tab} (ht : t.length = 16) (p : Pst) {r : Nat} (hr : r < 16) (n : Int) : inT (q1n t p) r n ↔ inT t r n ∨ inP p r n := by
 unfold inT mem1
 rw [(zkh ht p hr).2, q2f, z8j]
 unfold inP
 constructor
 ·rintro ⟨h1, h2, h | h⟩
  ·split at h
   ·rename_i hv
    rcases (q2f _ _ _).1 h with h | h
    ·exact .inl ⟨h1, h2, h⟩
    ·exact .inr ⟨hr, h1, h2, .inl ⟨hv, ((q6p _ _).1 h).2⟩⟩
   ·exact .inl ⟨h1, h2, h⟩
  ·exact .inr ⟨hr, h1, h2, .inr h⟩
 ·rintro (⟨h1, h2, h⟩ | ⟨_, h1, h2, h | h⟩)
  ·refine ⟨h1, h2, .inl ?_⟩
   split
   ·exact (q2f _ _ _).2 (.inl h)
   ·exact h
  ·refine ⟨h1, h2, .inl ?_⟩
   rw [if_pos h.1]
   exact (q2f _ _ _).2 (.inr ((q6p _ _).2 ⟨h1, h.2⟩))
  ·exact ⟨h1, h2, .inr h⟩
theorem zb0 (r : Nat) (n : Int) : ¬ inT q6e r n := by
 unfold inT mem1
 rintro ⟨_, _, h⟩
 have : q6e.getD r [] = [] := by
  unfold q6e
  rw [List.getD_eq_getElem?_getD, List.getElem?_replicate]
  split <;> rfl
 rw [this] at h
 exact q29 n h
theorem qct {r : Nat} (hr : r < 16) (n : Int) : ∀ (ps : List Pst) (t : Tab), t.length = 16 → (inT (ps.foldl q1n t) r n ↔ inT t r n ∨ ∃ p ∈ ps, inP p r n)
 | [], t, ht => by simp
 | p :: ps, t, ht => by
  rw [List.foldl_cons, qct hr n ps _ (zkh ht p hr).1, one_in ht p hr]
  constructor
  ·rintro ((h | h) | ⟨q, hq, h⟩)
   ·exact .inl h
   ·exact .inr ⟨p, by simp, h⟩
   ·exact .inr ⟨q, by simp [hq], h⟩
  ·rintro (h | ⟨q, hq, h⟩)
   ·exact .inl (.inl h)
   ·rcases List.mem_cons.1 hq with rfl | hq
    ·exact .inl (.inr h)
    ·exact .inr ⟨q, hq, h⟩
theorem q5w {r : Nat} (hr : r < 16) (ps : List Pst) (n : Int) : inT (q0l ps) r n ↔ ∃ p ∈ ps, inP p r n := by
 unfold q0l
 rw [qct hr n ps q6e rfl]
 exact ⟨fun h => h.elim (fun h => absurd h (zb0 r n)) id, .inr⟩
theorem zkx {m : List Rn} (h : Can m) (n : Int) : inR m n ↔ (1 ≤ n ∧ n ≤ (q1t m).1) ∨ inR (q1t m).2 n := by
 cases m with
 | nil =>
  simp only [q1t]
  constructor
  ·exact .inr
  ·rintro (h | h)
   ·omega
   ·exact h
 | cons x l =>
  have hx := (Can.cons_iff.1 h).1
  unfold okR at hx
  by_cases h1 : x.1 = 1
  ·rw [qbe h1, q0t]
   simp only [h1]
  ·rw [qbd h1]
   constructor
   ·exact .inr
   ·rintro (h | h)
    ·omega
    ·exact h
theorem qf2 {m : List Rn} (h : Can m) : Can (q1t m).2 ∧ 0 ≤ (q1t m).1 ∧ (q1t m).1 ≤ 1000000000 ∧ ∀ n, inR (q1t m).2 n → (q1t m).1 + 1 < n := by
 cases m with
 | nil => exact ⟨Can.nil, by simp [q1t], by simp [q1t], fun n hn => absurd hn (q29 n)⟩
 | cons x l =>
  have hx := (Can.cons_iff.1 h).1
  unfold okR at hx
  by_cases h1 : x.1 = 1
  ·rw [qbe h1]
   exact ⟨h.tail, by show 0 ≤ x.2; omega, hx.2.2, fun n hn => h.above hn⟩
  ·rw [qbd h1]
   refine ⟨h, Int.le_refl _, by show (0 : Int) ≤ _; omega, fun n hn => ?_⟩
   show (0 : Int) + 1 < n
   rcases (q0t x l n).1 hn with hn | hn
   ·omega
   ·have := h.above hn; omega
theorem qeq (t : Tab) : ∀ (m r : Nat), r < m → q2t t m ≤ r → q8o t r ≤ 0
 | 0, r, hr, _ => by omega
 | m + 1, r, hr, h => by
  rw [q7m] at h
  split at h
  ·omega
  ·rename_i hl
   by_cases hrm : r = m
   ·subst hrm; omega
   ·exact qeq t m r (by omega) h
theorem z99 (t : Tab) {m r : Nat} (h : r < m) : (q2m t m)[r]? = some (q8o t r) := by simp [q2m, h]
theorem zmr (t : Tab) {m r : Nat} (hr : r < m) (n : Int) : (∃ s ∈ q1v t m, s.1 = (r : Int) ∧ s.2.1 ≤ n ∧ n ≤ s.2.2) ↔ inR (q5t t r) n := by
 constructor
 ·rintro ⟨s, hs, h1, h2, h3⟩
  simp only [q1v, List.mem_flatMap, List.mem_range, q5p, List.mem_map] at hs
  obtain ⟨k, hk, x, hx, rfl⟩ := hs
  simp only [q8z] at h1 h2 h3
  have : k = r := by omega
  subst this
  exact ⟨x, hx, h2, h3⟩
 ·rintro ⟨x, hx, h2, h3⟩
  refine ⟨q8z r x, ?_, rfl, h2, h3⟩
  simp only [q1v, List.mem_flatMap, List.mem_range, q5p, List.mem_map]
  exact ⟨r, hr, x, hx, rfl⟩
theorem qge (t : Tab) {r : Nat} (hr : r < 16) (n : Int) : inP (q5u t) r n ↔ inT t r n := by
 have hc := q1d (t.getD r [])
 have hlead := zkx hc n
 rw [q2k] at hlead
 have hb := qf2 hc
 have hcl := zmr t hr n
 have hsz := q91 t 16
 unfold inP inT
 show r < 16 ∧ 1 ≤ n ∧ n ≤ 1000000000 ∧ ((r < ((q2m t 16).take (q2t t 16)).length ∧ n ≤ q1q ((q2m t 16).take (q2t t 16)) r) ∨ ∃ s ∈ q1v t 16, s.1 = (r : Int) ∧ s.2.1 ≤ n ∧ n ≤ s.2.2) ↔ _
 rw [hcl, hlead, List.length_take, q2v]
 have hv : r < q2t t 16 → q1q ((q2m t 16).take (q2t t 16)) r = q8o t r := fun h => by
  unfold q1q
  rw [List.getD_eq_getElem?_getD, List.getElem?_take, if_pos h, z99 t hr]
  rfl
 constructor
 ·rintro ⟨_, h1, h2, ⟨h3, h4⟩ | h⟩
  ·rw [hv (by omega)] at h4
   exact .inl ⟨h1, h4⟩
  ·exact .inr h
 ·rintro (⟨h1, h2⟩ | h)
  ·refine ⟨hr, h1, by omega, .inl ?_⟩
   have : r < q2t t 16 := by
    rcases Nat.lt_or_ge r (q2t t 16) with h | h
    ·exact h
    ·have := qeq t 16 r hr h
     unfold q8o at this
     omega
   exact ⟨by omega, by rw [hv this]; exact h2⟩
  ·have h1 := hb.1.bound h
   exact ⟨hr, h1.1, h1.2, .inr h⟩
theorem q9h (a b : Int) : q3l a b = true ↔ 0 ≤ a ∧ a < 16 ∧ 1 ≤ b ∧ b ≤ 1000000000 := by
 simp only [q3l, Bool.and_eq_true, decide_eq_true_eq]
theorem q1u (p : Pst) (d : Rn) : q2q p d = true ↔ 0 ≤ d.1 ∧ inP p d.1.toNat d.2 := by
 unfold q2q inP
 rw [Bool.and_eq_true, q9h, Bool.or_eq_true, Bool.and_eq_true, decide_eq_true_eq, decide_eq_true_eq, List.any_eq_true]
 constructor
 ·rintro ⟨⟨h1, h2, h3, h4⟩, h⟩
  refine ⟨h1, by omega, h3, h4, ?_⟩
  rcases h with h | ⟨s, hs, h⟩
  ·exact .inl ⟨by omega, h.2⟩
  ·simp only [zam, Bool.and_eq_true, decide_eq_true_eq] at h
   exact .inr ⟨s, hs, by omega, h.2⟩
 ·rintro ⟨h1, h2, h3, h4, h⟩
  refine ⟨⟨h1, by omega, h3, h4⟩, ?_⟩
  rcases h with h | ⟨s, hs, h⟩
  ·exact .inl ⟨by omega, h.2⟩
  ·refine .inr ⟨s, hs, ?_⟩
   simp only [zam, Bool.and_eq_true, decide_eq_true_eq]
   exact ⟨by omega, h.2⟩
theorem qcz (ps : List Pst) : (q6y ps).length = 16 := by
 unfold q6y
 rw [List.length_map]
 exact (q1c ps).1
theorem zkr (ps : List Pst) {r : Nat} (hr : r < 16) : (q6y ps).getD r [] = q0p ((q0l ps).getD r []) := by
 have h := (q1c ps).1
 unfold q6y
 simp [List.getD_eq_getElem?_getD, h, hr]
theorem z7w (r : Nat) (hr : r < 16) (n : Int) : ∀ (ds : List Rn) (t : Tab), t.length = 16 → (inT (ds.foldl q3z t) r n ↔ inT t r n ∨ (1 ≤ n ∧ n ≤ 1000000000 ∧ ((r : Int), n) ∈ ds))
 | [], t, ht => by simp
 | d :: ds, t, ht => by
  have hl : (q3z t d).length = 16 := by
   unfold q3z
   split
   ·rw [q9u, ht]
   ·exact ht
  rw [List.foldl_cons, z7w r hr n ds _ hl]
  have hd : inT (q3z t d) r n ↔ inT t r n ∨ (1 ≤ n ∧ n ≤ 1000000000 ∧ ((r : Int), n) = d) := by
   unfold inT mem1 q3z
   split
   ·rename_i h
    have hdot := (q9h _ _).1 h
    rw [q9t]
    split
    ·rename_i hk
     rw [q2f, q6p]
     constructor
     ·rintro ⟨h1, h2, h3 | h3⟩
      ·exact .inl ⟨h1, h2, h3⟩
      ·exact .inr ⟨h1, h2, Prod.ext (by show (r : Int) = d.1; omega) (by show n = d.2; omega)⟩
     ·rintro (⟨h1, h2, h3⟩ | ⟨h1, h2, rfl⟩)
      ·exact ⟨h1, h2, .inl h3⟩
      ·exact ⟨h1, h2, .inr ⟨Int.le_refl _, Int.le_refl _⟩⟩
    ·rename_i hk
     constructor
     ·exact .inl
     ·rintro (h1 | ⟨h1, h2, rfl⟩)
      ·exact h1
      ·exact absurd ⟨by simp, by omega⟩ hk
   ·rename_i h
    constructor
    ·exact .inl
    ·rintro (h1 | ⟨h1, h2, rfl⟩)
     ·exact h1
     ·exact absurd ((q9h _ _).2 ⟨by omega, by omega, h1, h2⟩) h
  rw [hd, List.mem_cons]
  constructor
  ·rintro ((h | ⟨h1, h2, h3⟩) | ⟨h1, h2, h3⟩)
   ·exact .inl h
   ·exact .inr ⟨h1, h2, .inl h3⟩
   ·exact .inr ⟨h1, h2, .inr h3⟩
  ·rintro (h | ⟨h1, h2, h3 | h3⟩)
   ·exact .inl (.inl h)
   ·exact .inl (.inr ⟨h1, h2, h3⟩)
   ·exact .inr ⟨h1, h2, h3⟩
def q16 (p : Pst) : Pst := q5u (q0l [p])
def q1s (ps : List Pst) : Pst := q5u (q0l ps)
def ofP (ds : List Rn) : Pst := q5u (ofT ds)
theorem zkk (ds : List Rn) {r : Nat} (hr : r < 16) (n : Int) : inP (ofP ds) r n ↔ 1 ≤ n ∧ n ≤ 1000000000 ∧ ((r : Int), n) ∈ ds := by
 unfold ofP
 rw [qge _ hr]
 unfold ofT
 rw [z7w r hr n ds q6e rfl]
 exact ⟨fun h => h.elim (fun h => absurd h (zb0 r n)) id, .inr⟩
theorem q7r (ps : List Pst) {r : Nat} (hr : r < 16) (n : Int) : inP (q1s ps) r n ↔ ∃ p ∈ ps, inP p r n := by
 unfold q1s
 rw [qge _ hr, q5w hr]

def qyk : List SOp := [⟨some 2,.assign (.const (.int .i64 0)),none⟩]
instance : Live qyk := ⟨[0]⟩
def qyj : List SOp := [⟨some 3,.assign (.const (.int .i64 0)),none⟩]
instance : Live qyj := ⟨[0]⟩
def qyi : List SOp := [⟨some 6,.move (.tmp 0),none⟩,⟨some 7,.call ⟨.value (.func 156),#[.tmp 6],#[149]⟩,none⟩,⟨some 8,.call ⟨.builtin .len,#[.tmp 7],#[149]⟩,none⟩,⟨some 9,.move (.const (.int .i64 0)),none⟩]
instance : Live qyi := ⟨[0,3]⟩
def qyh : List SOp := [⟨some 10,.binOp .lss 3 (.tmp 9) (.tmp 8) 3,none⟩]
instance : Live qyh := ⟨[3,7,8,9]⟩
def qyg : List SOp := [⟨some 11,.indexAddr 149 (.tmp 7) (.tmp 9),none⟩,⟨some 12,.load 179 (.tmp 11),none⟩,⟨some 5,.alloc 179,none⟩,⟨none,.store 179 (.tmp 5) (.tmp 12),none⟩]
instance : Live qyg := ⟨[3,7,8,9]⟩
def qyf : List SOp := [⟨some 13,.move (.tmp 3),none⟩,⟨some 14,.fieldAddr 179 (.tmp 5) 1,none⟩,⟨some 15,.load 3 (.tmp 14),none⟩,⟨some 16,.fieldAddr 179 (.tmp 5) 0,none⟩,⟨some 17,.load 3 (.tmp 16),none⟩,⟨some 18,.binOp .sub 3 (.tmp 15) (.tmp 17) 3,none⟩,⟨some 19,.binOp .add 3 (.tmp 18) (.const (.int .i64 1)) 3,none⟩,⟨some 20,.binOp .add 3 (.tmp 13) (.tmp 19) 3,none⟩,⟨some 3,.assign (.tmp 20),none⟩]
instance : Live qyf := ⟨[3,5,7,8,9]⟩
def qye : List SOp := [⟨some 21,.binOp .add 3 (.tmp 9) (.const (.int .i64 1)) 3,none⟩,⟨some 9,.move (.tmp 21),none⟩]
instance : Live qye := ⟨[3,7,8,9]⟩
def qyd : List SOp := [⟨some 22,.move (.tmp 3),none⟩,⟨some 2,.assign (.tmp 22),none⟩]
instance : Live qyd := ⟨[3]⟩
def qbw : SC :=
 (.seq (.ops false qyh) (.seq (.cond (.tmp 10) .skip (.exit 0)) (.seq (.block 1 (.seq (.ops false qyg) (.ops false qyf))) (.ops false qye))))
def t_k154 : SC :=
 (.seq (.ops false qyk) (.seq (.ops false qyj) (.seq (.seq (.ops false qyi) (.block 0 (.loop qbw))) (.seq (.ops false qyd) .ret))))
theorem it_k154 : FnIs Tryz.prog 154 23 [.tmp 2] t_k154 := ⟨Tryz.f154, _, Tryz.func154, rfl, rfl, rfl, rfl, by kernel_rfl⟩

def q1f (a : Int) (r : Rn) : Int := a + (r.2 - r.1 + 1)
def qe8 (m : List Rn) : Int := m.foldl q1f 0
def zki (m : List Rn) : Prop := ∀ r ∈ m, 1 ≤ r.1 ∧ r.1 ≤ r.2 ∧ r.2 ≤ 1000000000
theorem q8l {m : List Rn} (h : zki m) (a : Int) : a ≤ m.foldl q1f a ∧ m.foldl q1f a ≤ a + 1000000000 * (m.length : Int) := by
 induction m generalizing a with
 | nil => simp
 | cons r m ih =>
  have h1 := h r (by simp)
  have h2 := ih (fun x hx => h x (by simp [hx])) (q1f a r)
  simp only [List.foldl_cons, List.length_cons]
  unfold q1f at h2 ⊢
  omega
theorem z9p (l m : List Rn) (hm : m.length ≤ 1000000000) (hr : zki m) (hN : Ev (En Tryz.prog rfl).P 156 [.sl 2 (q06 l)] (.ret (.sl 2 (q06 m)))) : Ev (En Tryz.prog rfl).P 154 [.sl 2 (q06 l)] (.ret (.int .i64 (qe8 m))) := by
 refine Ev.of_body it_k154 (by simp) (Run.start ?_)
 unfold t_k154
 have e0 : (q06 m).length = m.length := q0u m
 (have hF := True.intro; refine q1i (k:=?_); clear hF)
 refine q2p (l := [.sl 2 (q06 l)]) rfl rfl (by simp [q0k, AVal.stb, q08]) hN ?_
 (have hF := @e0; refine q1i (k:=?_); clear hF)
 refine Run.range m.length (fun i => ⟨tms [(3, .int .i64 ((m.take i).foldl q1f 0)), (7, .sl 2 (q06 m)), (8, .int .i64 m.length), (9, .int .i64 i)], NoM⟩) (Wk.clean _ ⟨rfl, rfl, rfl, rfl, trivial⟩ ⟨rfl, q08 m, rfl, rfl, trivial⟩) (fun i hi => ?_) ?_
 ·obtain ⟨r, hx⟩ : ∃ r, m[i]? = some r := ⟨m[i], by simp [hi]⟩
  have hrr := hr r (List.mem_of_getElem? hx)
  have hb := q8l (m := m.take i) (fun x hx => hr x (List.mem_of_mem_take hx)) 0
  have hlen : (m.take i).length ≤ 1000000000 := by rw [List.length_take]; omega
  rw [q2w q1f 0 m hx]
  generalize (m.take i).foldl q1f 0 = a at hb ⊢
  have e1 : ((i : Int) < (m.length : Int)) = True := by simp only [eq_iff_iff, iff_true]; omega
  have e2 : (0 ≤ (i : Int)) = True := by simp
  have e3 : (q06 m)[i]? = some (.agg [.int .i64 r.1, .int .i64 r.2]) := q39 hx
  have e4 : IntKind.i64.wrap (r.2 - r.1) = r.2 - r.1 := q3d (by omega)
  have e5 : IntKind.i64.wrap (r.2 - r.1 + 1) = r.2 - r.1 + 1 := q3d (by omega)
  have e6 : IntKind.i64.wrap (a + (r.2 - r.1 + 1)) = a + (r.2 - r.1 + 1) := q3d (by omega)
  have e13 : IntKind.i64.wrap ((i : Int) + 1) = ((i + 1 : Nat) : Int) := by rw [q3d (by omega)]; omega
  unfold qbw
  (have hF := (aI (aI (aI @e0 @e1) (aI @e2 @e3)) (aI (aI @e4 @e5) (aI @e6 @e13))); refine q1i (k:=?_); clear hF)
  exact Fin.next (Wk.clean _ ⟨rfl, rfl, rfl, rfl, trivial⟩ ⟨rfl, q08 m, rfl, rfl, trivial⟩)
 ·have e1 : ((m.length : Int) < (m.length : Int)) = False := by simp
  have e3 : m.take m.length = m := List.take_length
  rw [e3]
  unfold qbw
  (have hF := (aI @e0 @e1); refine q1i (k:=?_); clear hF)
  exact Fin.tmp' rfl rfl

def zh7 : List SOp := [⟨some 2,.box 26 (.tmp 0),none⟩,⟨some 3,.box 26 (.tmp 1),none⟩,⟨some 4,.assign (.const (.bool false)),none⟩]
instance : Live zh7 := ⟨[0,1]⟩
def zh6 : List SOp := [⟨some 7,.fieldAddr 26 (.tmp 2) 0,none⟩,⟨some 8,.load 23 (.tmp 7),none⟩,⟨some 9,.call ⟨.builtin .len,#[.tmp 8],#[23]⟩,none⟩,⟨some 10,.fieldAddr 26 (.tmp 3) 0,none⟩,⟨some 11,.load 23 (.tmp 10),none⟩,⟨some 12,.call ⟨.builtin .len,#[.tmp 11],#[23]⟩,none⟩,⟨some 13,.binOp .neq 3 (.tmp 9) (.tmp 12) 3,none⟩,⟨some 14,.move (.tmp 13),none⟩,⟨some 15,.fieldAddr 26 (.tmp 2) 1,some ((some 14),false)⟩,⟨some 16,.load 24 (.tmp 15),some ((some 14),false)⟩,⟨some 17,.call ⟨.builtin .len,#[.tmp 16],#[24]⟩,some ((some 14),false)⟩,⟨some 18,.fieldAddr 26 (.tmp 3) 1,some ((some 14),false)⟩,⟨some 19,.load 24 (.tmp 18),some ((some 14),false)⟩,⟨some 20,.call ⟨.builtin .len,#[.tmp 19],#[24]⟩,some ((some 14),false)⟩,⟨some 21,.binOp .neq 3 (.tmp 17) (.tmp 20) 3,some ((some 14),false)⟩,⟨some 22,.pick (.tmp 14) (.const (.bool true)) (.tmp 21),none⟩]
instance : Live zh6 := ⟨[2,3]⟩
def zh5 : List SOp := [⟨some 4,.assign (.const (.bool false)),none⟩]
instance : Live zh5 := ⟨[]⟩
def zh4 : List SOp := [⟨some 5,.assign (.const (.int .i64 0)),none⟩]
instance : Live zh4 := ⟨[2,3]⟩
def zh3 : List SOp := [⟨some 23,.move (.tmp 5),none⟩,⟨some 24,.fieldAddr 26 (.tmp 2) 0,none⟩,⟨some 25,.load 23 (.tmp 24),none⟩,⟨some 26,.call ⟨.builtin .len,#[.tmp 25],#[23]⟩,none⟩,⟨some 27,.binOp .lss 3 (.tmp 23) (.tmp 26) 3,none⟩]
instance : Live zh3 := ⟨[2,3,5]⟩
def zh2 : List SOp := [⟨some 30,.fieldAddr 26 (.tmp 2) 0,none⟩,⟨some 31,.load 23 (.tmp 30),none⟩,⟨some 32,.move (.tmp 5),none⟩,⟨some 33,.indexAddr 23 (.tmp 31) (.tmp 32),none⟩,⟨some 34,.load 3 (.tmp 33),none⟩,⟨some 35,.fieldAddr 26 (.tmp 3) 0,none⟩,⟨some 36,.load 23 (.tmp 35),none⟩,⟨some 37,.move (.tmp 5),none⟩,⟨some 38,.indexAddr 23 (.tmp 36) (.tmp 37),none⟩,⟨some 39,.load 3 (.tmp 38),none⟩,⟨some 40,.binOp .neq 3 (.tmp 34) (.tmp 39) 3,none⟩]
instance : Live zh2 := ⟨[2,3,5]⟩
def zh1 : List SOp := [⟨some 4,.assign (.const (.bool false)),none⟩]
instance : Live zh1 := ⟨[]⟩
def zh0 : List SOp := [⟨some 28,.move (.tmp 5),none⟩,⟨some 29,.binOp .add 3 (.tmp 28) (.const (.int .i64 1)) 3,none⟩,⟨some 5,.assign (.tmp 29),none⟩]
instance : Live zh0 := ⟨[2,3,5]⟩
def zgz : List SOp := [⟨some 6,.assign (.const (.int .i64 0)),none⟩]
instance : Live zgz := ⟨[2,3]⟩
def qtt : List SOp := [⟨some 41,.move (.tmp 6),none⟩,⟨some 42,.fieldAddr 26 (.tmp 2) 1,none⟩,⟨some 43,.load 24 (.tmp 42),none⟩,⟨some 44,.call ⟨.builtin .len,#[.tmp 43],#[24]⟩,none⟩,⟨some 45,.binOp .lss 3 (.tmp 41) (.tmp 44) 3,none⟩]
instance : Live qtt := ⟨[2,3,6]⟩
def qts : List SOp := [⟨some 48,.fieldAddr 26 (.tmp 2) 1,none⟩,⟨some 49,.load 24 (.tmp 48),none⟩,⟨some 50,.move (.tmp 6),none⟩,⟨some 51,.indexAddr 24 (.tmp 49) (.tmp 50),none⟩,⟨some 52,.load 127 (.tmp 51),none⟩,⟨some 53,.fieldAddr 26 (.tmp 3) 1,none⟩,⟨some 54,.load 24 (.tmp 53),none⟩,⟨some 55,.move (.tmp 6),none⟩,⟨some 56,.indexAddr 24 (.tmp 54) (.tmp 55),none⟩,⟨some 57,.load 127 (.tmp 56),none⟩,⟨some 58,.binOp .neq 127 (.tmp 52) (.tmp 57) 127,none⟩]
instance : Live qts := ⟨[2,3,6]⟩
def qtr : List SOp := [⟨some 4,.assign (.const (.bool false)),none⟩]
instance : Live qtr := ⟨[]⟩
def qtq : List SOp := [⟨some 46,.move (.tmp 6),none⟩,⟨some 47,.binOp .add 3 (.tmp 46) (.const (.int .i64 1)) 3,none⟩,⟨some 6,.assign (.tmp 47),none⟩]
instance : Live qtq := ⟨[2,3,6]⟩
def qtp : List SOp := [⟨some 4,.assign (.const (.bool true)),none⟩]
instance : Live qtp := ⟨[]⟩
def qfu : SC :=
 (.seq (.seq (.ops false zh3) (.cond (.tmp 27) .skip (.exit 0))) (.seq (.block 1 (.seq (.ops true zh2) (.cond (.tmp 40) (.seq (.ops false zh1) .ret) .skip))) (.ops false zh0)))
def qft : SC :=
 (.seq (.seq (.ops false qtt) (.cond (.tmp 45) .skip (.exit 2))) (.seq (.block 3 (.seq (.ops true qts) (.cond (.tmp 58) (.seq (.ops false qtr) .ret) .skip))) (.ops false qtq)))
def t_k50 : SC :=
 (.seq (.ops false zh7) (.seq (.seq (.ops false zh6) (.cond (.tmp 22) (.seq (.ops false zh5) .ret) .skip)) (.seq (.seq (.ops false zh4) (.block 0 (.loop qfu))) (.seq (.seq (.ops false zgz) (.block 2 (.loop qft))) (.seq (.ops false qtp) .ret)))))
theorem it_k50 : FnIs Tryz.prog 50 59 [.tmp 4] t_k50 := ⟨Tryz.f50, _, Tryz.func50, rfl, rfl, rfl, rfl, by kernel_rfl⟩

def qpp (a b : Pst) : Bool := decide (a.vec = b.vec ∧ a.cloud = b.cloud)
theorem q4w {a b : Pst} (h : ¬ (a.vec = b.vec ∧ a.cloud = b.cloud)) : qpp a b = false := by simp [qpp, h]
theorem q9z {a b : Pst} (h : a.vec = b.vec ∧ a.cloud = b.cloud) : qpp a b = true := by simp [qpp, h]
theorem qaq {α : Type} {l m : List α} {i : Nat} {x : α} (h : l.take i = m.take i) (h1 : l[i]? = some x) (h2 : m[i]? = some x) : l.take (i + 1) = m.take (i + 1) := by
 rw [List.take_add_one, List.take_add_one, h, h1, h2]
theorem zly (a b : Pst) (ha : a.vec.length ≤ 1000000000) (hb : a.cloud.length ≤ 1000000000) : Ev (En Tryz.prog rfl).P 50 [q0f a, q0f b] (.ret (.bool (qpp a b))) := by
 refine Ev.of_body it_k50 (by simp) (Run.start ?_)
 have e0 : (q05 a.vec).length = a.vec.length := q0i _
 have e1 : (q05 b.vec).length = b.vec.length := q0i _
 have e2 : (q0d a.cloud).length = a.cloud.length := q1e _
 have e3 : (q0d b.cloud).length = b.cloud.length := q1e _
 unfold t_k50 q0f
 by_cases c1 : a.vec.length = b.vec.length
 ·have d1 : (!decide ((a.vec.length : Int) = (b.vec.length : Int))) = false := by simp; omega
  by_cases c2 : a.cloud.length = b.cloud.length
  ·have d2 : (!decide ((a.cloud.length : Int) = (b.cloud.length : Int))) = false := by simp; omega
   (have hF := (aI (aI @e0 (aI @e1 @e2)) (aI @e3 (aI @d1 @d2))); refine q1i (k:=?_); clear hF)
   refine Run.rangeP a.vec.length (fun i => ⟨tms [(2, .ptr 2 0), (3, .ptr 3 0), (5, .int .i64 i)], mms [(2, .cells [.sl 1 (q05 a.vec), .sl 3 (q0d a.cloud)]), (3, .cells [.sl 1 (q05 b.vec), .sl 3 (q0d b.cloud)])]⟩) (fun i => a.vec.take i = b.vec.take i)
    (Wk.toL _ _ ⟨rfl, rfl, rfl, trivial⟩ ⟨rfl, rfl, trivial⟩ ⟨rfl, rfl, rfl, trivial⟩ ⟨by simp [ABlk.no, AVal.noC, AVal.no, AVal.stb, q03, q04], by simp [ABlk.no, AVal.noC, AVal.no, AVal.stb, q03, q04], trivial⟩) (by simp) (fun i hi hI => ?_) (fun hI => ?_)
   ·obtain ⟨x, hx⟩ : ∃ x, a.vec[i]? = some x := ⟨a.vec[i], by simp [hi]⟩
    obtain ⟨y, hy⟩ : ∃ y, b.vec[i]? = some y := ⟨b.vec[i]'(by omega), by simp [show i < b.vec.length by omega]⟩
    have f1 : ((i : Int) < (a.vec.length : Int)) = True := by simp only [eq_iff_iff, iff_true]; omega
    have f2 : (0 ≤ (i : Int)) = True := by simp
    have f3 : ((i : Int) < (b.vec.length : Int)) = True := by simp only [eq_iff_iff, iff_true]; omega
    have f4 := q0v hx
    have f5 := q0v hy
    have e13 : IntKind.i64.wrap ((i : Int) + 1) = ((i + 1 : Nat) : Int) := by rw [q3d (by omega)]; omega
    unfold qfu
    by_cases c3 : x = y
    ·have d3 : (!decide (x = y)) = false := by simpa using c3
     (have hF := (aI (aI (aI @e0 @e1) (aI @e2 (aI @e3 @f1))) (aI (aI @f2 (aI @f3 @f4)) (aI @f5 (aI @d3 @e13)))); refine q1i (k:=?_); clear hF)
     exact Fin.nextP (Wk.toL _ _ ⟨rfl, rfl, rfl, trivial⟩ ⟨rfl, rfl, trivial⟩ ⟨rfl, rfl, rfl, trivial⟩ ⟨by simp [ABlk.no, AVal.noC, AVal.no, AVal.stb, q03, q04], by simp [ABlk.no, AVal.noC, AVal.no, AVal.stb, q03, q04], trivial⟩) (qaq hI hx (c3 ▸ hy))
    ·have d3 : (!decide (x = y)) = true := by simpa using c3
     rw [q4w (fun h => c3 (by have := hx; rw [h.1, hy] at this; exact (Option.some.inj this).symm))]
     (have hF := (aI (aI (aI @e0 @e1) (aI @e2 (aI @e3 @f1))) (aI (aI @f2 (aI @f3 @f4)) (aI @f5 (aI @d3 @e13)))); refine q1i (k:=?_); clear hF)
     exact Fin.outP_ret (Fin.block_ret (Fin.seq_ret (Fin.tmp' rfl rfl)))
   ·have hv : a.vec = b.vec := by
     rw [List.take_length] at hI
     rw [hI, c1, List.take_length]
    have f1 : ((a.vec.length : Int) < (a.vec.length : Int)) = False := by simp
    unfold qfu
    (have hF := (aI (aI @e0 @e1) (aI @e2 (aI @e3 @f1))); refine q1i (k:=?_); clear hF)
    refine Run.rangeP a.cloud.length (fun i => ⟨tms [(2, .ptr 2 0), (3, .ptr 3 0), (6, .int .i64 i)], mms [(2, .cells [.sl 1 (q05 a.vec), .sl 3 (q0d a.cloud)]), (3, .cells [.sl 1 (q05 b.vec), .sl 3 (q0d b.cloud)])]⟩) (fun i => a.cloud.take i = b.cloud.take i)
     (Wk.toL _ _ ⟨rfl, rfl, rfl, trivial⟩ ⟨rfl, rfl, trivial⟩ ⟨rfl, rfl, rfl, trivial⟩ ⟨by simp [ABlk.no, AVal.noC, AVal.no, AVal.stb, q03, q04], by simp [ABlk.no, AVal.noC, AVal.no, AVal.stb, q03, q04], trivial⟩) (by simp) (fun i hi hI2 => ?_) (fun hI2 => ?_)
    ·obtain ⟨x, hx⟩ : ∃ x, a.cloud[i]? = some x := ⟨a.cloud[i], by simp [hi]⟩
     obtain ⟨y, hy⟩ : ∃ y, b.cloud[i]? = some y := ⟨b.cloud[i]'(by omega), by simp [show i < b.cloud.length by omega]⟩
     have g1 : ((i : Int) < (a.cloud.length : Int)) = True := by simp only [eq_iff_iff, iff_true]; omega
     have g2 : (0 ≤ (i : Int)) = True := by simp
     have g3 : ((i : Int) < (b.cloud.length : Int)) = True := by simp only [eq_iff_iff, iff_true]; omega
     have g4 : (q0d a.cloud)[i]? = some (.agg [.int .i64 x.1, .int .i64 x.2.1, .int .i64 x.2.2]) := q2c hx
     have g5 : (q0d b.cloud)[i]? = some (.agg [.int .i64 y.1, .int .i64 y.2.1, .int .i64 y.2.2]) := q2c hy
     have e13 : IntKind.i64.wrap ((i : Int) + 1) = ((i + 1 : Nat) : Int) := by rw [q3d (by omega)]; omega
     unfold qft
     by_cases c3 : x = y
     ·have d3 : decide (x.1 = y.1) = true := by simp [c3]
      have d4 : decide (x.2.1 = y.2.1) = true := by simp [c3]
      have d5 : decide (x.2.2 = y.2.2) = true := by simp [c3]
      (have hF := (aI (aI (aI @e0 (aI @e1 @e2)) (aI @e3 (aI @g1 @g2))) (aI (aI @g3 (aI @g4 @g5)) (aI (aI @d3 @d4) (aI @d5 @e13)))); refine q1i (k:=?_); clear hF)
      exact Fin.nextP (Wk.toL _ _ ⟨rfl, rfl, rfl, trivial⟩ ⟨rfl, rfl, trivial⟩ ⟨rfl, rfl, rfl, trivial⟩ ⟨by simp [ABlk.no, AVal.noC, AVal.no, AVal.stb, q03, q04], by simp [ABlk.no, AVal.noC, AVal.no, AVal.stb, q03, q04], trivial⟩) (qaq hI2 hx (c3 ▸ hy))
     ·rw [q4w (fun h => c3 (by have := hx; rw [h.2, hy] at this; exact (Option.some.inj this).symm))]
      by_cases h1 : x.1 = y.1
      ·have d3 : decide (x.1 = y.1) = true := by simpa using h1
       by_cases h2 : x.2.1 = y.2.1
       ·have d4 : decide (x.2.1 = y.2.1) = true := by simpa using h2
        have h3 : ¬ x.2.2 = y.2.2 := fun h3 => c3 (Prod.ext h1 (Prod.ext h2 h3))
        have d5 : decide (x.2.2 = y.2.2) = false := by simpa using h3
        (have hF := (aI (aI (aI @e0 (aI @e1 @e2)) (aI @e3 (aI @g1 @g2))) (aI (aI @g3 (aI @g4 @g5)) (aI (aI @d3 @d4) (aI @d5 @e13)))); refine q1i (k:=?_); clear hF)
        exact Fin.outP_ret (Fin.block_ret (Fin.seq_ret (Fin.tmp' rfl rfl)))
       ·have d4 : decide (x.2.1 = y.2.1) = false := by simpa using h2
        (have hF := (aI (aI (aI @e0 (aI @e1 @e2)) (aI @e3 (aI @g1 @g2))) (aI (aI @g3 (aI @g4 @g5)) (aI @d3 (aI @d4 @e13)))); refine q1i (k:=?_); clear hF)
        exact Fin.outP_ret (Fin.block_ret (Fin.seq_ret (Fin.tmp' rfl rfl)))
      ·have d3 : decide (x.1 = y.1) = false := by simpa using h1
       (have hF := (aI (aI (aI @e0 @e1) (aI @e2 (aI @e3 @g1))) (aI (aI @g2 (aI @g3 @g4)) (aI @g5 (aI @d3 @e13)))); refine q1i (k:=?_); clear hF)
       exact Fin.outP_ret (Fin.block_ret (Fin.seq_ret (Fin.tmp' rfl rfl)))
    ·have hc : a.cloud = b.cloud := by
      rw [List.take_length] at hI2
      rw [hI2, c2, List.take_length]
     have f1 : ((a.cloud.length : Int) < (a.cloud.length : Int)) = False := by simp
     rw [q9z ⟨hv, hc⟩]
     unfold qft
     (have hF := (aI (aI @e0 @e1) (aI @e2 (aI @e3 @f1))); refine q1i (k:=?_); clear hF)
     exact Fin.tmp' rfl rfl
  ·rw [q4w (fun h => c2 (by rw [h.2]))]
   have d2 : (!decide ((a.cloud.length : Int) = (b.cloud.length : Int))) = true := by simp; omega
   (have hF := (aI (aI @e0 (aI @e1 @e2)) (aI @e3 (aI @d1 @d2))); refine q1i (k:=?_); clear hF)
   exact Fin.tmp' rfl rfl
 ·rw [q4w (fun h => c1 (by rw [h.1]))]
  have d1 : (!decide ((a.vec.length : Int) = (b.vec.length : Int))) = true := by simp; omega
  (have hF := (aI (aI @e0 @e1) (aI @e2 (aI @e3 @d1))); refine q1i (k:=?_); clear hF)
  exact Fin.tmp' rfl rfl


def z1m : List SOp := [⟨some 1,.box 26 (.tmp 0),none⟩,⟨some 2,.assign (.const (.int .i64 0)),none⟩]
instance : Live z1m := ⟨[0]⟩
def z1l : List SOp := [⟨some 3,.assign (.const (.int .i64 0)),none⟩]
instance : Live z1l := ⟨[1]⟩
def z1k : List SOp := [⟨some 6,.load 26 (.tmp 1),none⟩,⟨some 7,.buildSlice 116 1 #[(0,.tmp 6)],none⟩,⟨some 8,.call ⟨.value (.func 96),#[.tmp 7],#[116]⟩,none⟩,⟨some 9,.nilCheck (.tmp 8),none⟩,⟨some 10,.move (.const (.int .i64 0)),none⟩]
instance : Live z1k := ⟨[1,3]⟩
def z1j : List SOp := [⟨some 11,.binOp .lss 3 (.tmp 10) (.const (.int .i64 16)) 3,none⟩]
instance : Live z1j := ⟨[3,8,10]⟩
def z1i : List SOp := [⟨some 12,.nilCheck (.tmp 8),none⟩,⟨some 13,.indexAddr 151 (.tmp 12) (.tmp 10),none⟩,⟨some 14,.load 149 (.tmp 13),none⟩,⟨some 5,.assign (.tmp 14),none⟩]
instance : Live z1i := ⟨[3,8,10]⟩
def z1h : List SOp := [⟨some 15,.move (.tmp 3),none⟩,⟨some 16,.move (.tmp 5),none⟩,⟨some 17,.call ⟨.value (.func 154),#[.tmp 16],#[149]⟩,none⟩,⟨some 18,.binOp .add 3 (.tmp 15) (.tmp 17) 3,none⟩,⟨some 3,.assign (.tmp 18),none⟩]
instance : Live z1h := ⟨[3,5,8,10]⟩
def z1g : List SOp := [⟨some 19,.binOp .add 3 (.tmp 10) (.const (.int .i64 1)) 3,none⟩,⟨some 10,.move (.tmp 19),none⟩]
instance : Live z1g := ⟨[3,8,10]⟩
def z1f : List SOp := [⟨some 20,.move (.tmp 3),none⟩,⟨some 2,.assign (.tmp 20),none⟩]
instance : Live z1f := ⟨[3]⟩
def qie : SC :=
 (.seq (.ops false z1j) (.seq (.cond (.tmp 11) .skip (.exit 0)) (.seq (.block 1 (.seq (.ops false z1i) (.ops false z1h))) (.ops false z1g))))
def t_k132 : SC :=
 (.seq (.ops false z1m) (.seq (.ops false z1l) (.seq (.seq (.ops false z1k) (.block 0 (.loop qie))) (.seq (.ops false z1f) .ret))))
theorem it_k132 : FnIs Tryz.prog 132 21 [.tmp 2] t_k132 := ⟨Tryz.f132, _, Tryz.func132, rfl, rfl, rfl, rfl, by kernel_rfl⟩

theorem zkj (ds : List Rn) : TabLe (ofT ds) ds.length := by
 have := TabLe.dots q9x ds
 simpa [ofT] using this
theorem qfa (p : Pst) (hw : wt p ≤ 50000000) : Ev (En Tryz.prog rfl).P 64 [q0f p] (.ret (q0f (q16 p))) :=
 zlw p _ (by omega) (z7q _ (n := wt p) (by simpa using q1c [p]) hw)
theorem ev_k49 (ps : List Pst) (hl : ps.length ≤ 1000000000) (hw : (ps.map wt).sum ≤ 50000000) : Ev (En Tryz.prog rfl).P 49 [.sl 2 (q1k ps)] (.ret (q0f (q1s ps))) :=
 zlz ps _ hl (by omega) (z7q _ (q1c ps) hw)
theorem ev_k94 (ds : List Rn) (hl : ds.length ≤ 50000000) : Ev (En Tryz.prog rfl).P 94 [.sl 2 (q06 ds)] (.ret (q0f (ofP ds))) :=
 zls ds _ (by omega) (z7q _ (zkj ds) hl)
theorem qfm {m : List Rn} (h : Can m) : zki m := fun r hr => by have := h.2 r hr; unfold okR at this; omega
theorem ev_k154 (l : List Rn) (hl : l.length ≤ 50000000) : Ev (En Tryz.prog rfl).P 154 [.sl 2 (q06 l)] (.ret (.int .i64 (qe8 (q0y l)))) := by
 have h := q1z l
 exact z9p l (q0y l) (by omega) (qfm (q1d l)) (qdi l (by omega))
def q25 (t : Tab) (n : Nat) : Int := (List.range n).foldl (fun a r => a + qe8 (q0y (t.getD r []))) 0
theorem q5j (t : Tab) (n : Nat) : q25 t (n + 1) = q25 t n + qe8 (q0y (t.getD n [])) := by
 unfold q25
 rw [List.range_succ, List.foldl_append]
 rfl
theorem qc3 (l : List Rn) {n : Nat} (h : l.length ≤ n) : 0 ≤ qe8 (q0y l) ∧ qe8 (q0y l) ≤ 1000000000 * (n : Int) := by
 have h1 := q8l (qfm (q1d l)) 0
 have h2 := q1z l
 unfold qe8
 omega
theorem q6i {t : Tab} {n : Nat} (h : TabLe t n) : ∀ m : Nat, 0 ≤ q25 t m ∧ q25 t m ≤ (m : Int) * (1000000000 * (n : Int))
 | 0 => by simp [q25]
 | m + 1 => by
  have h1 := q6i h m
  have h2 := qc3 (t.getD m []) (h.2 m)
  rw [q5j, Int.natCast_add, Int.add_mul]
  omega
def q3e (p : Pst) : Int := q25 (q0l [p]) 16
theorem ev_k132 (p : Pst) (hw : wt p ≤ 50000000) : Ev (En Tryz.prog rfl).P 132 [q0f p] (.ret (.int .i64 (q3e p))) := by
 refine Ev.of_body it_k132 (by simp) (Run.start ?_)
 unfold t_k132 q0f
 have ht : TabLe (q0l [p]) (wt p) := by simpa using q1c [p]
 have h16 : (q1w (q0l [p])).length = 16 := by rw [q55, ht.1]
 (have hF := @h16; refine q01 (k:=?_); clear hF)
 refine q00 [.sl 2 (q1k [p])] (he := qf9 [p] (by simp) (by simpa using (show wt p ≤ 900000000 by omega))) (k:=?_)
 (have hF := @h16; refine q01 (k:=?_); clear hF)
 have hs : q3e p = q25 (q0l [p]) 16 := rfl
 rw [hs]
 generalize q0l [p] = t at ht h16 ⊢
 refine Run.while (σ := Nat) (fun r => ⟨tms [(3, .int .i64 (q25 t r)), (8, .sptr (q1w t)), (10, .int .i64 r)], NoM⟩) (fun r => r ≤ 16) (fun r => 16 - r) 0 (Wk.clean _ ⟨rfl, rfl, rfl, trivial⟩ ⟨rfl, q1b t, rfl, trivial⟩) (Nat.zero_le _) ?_
 intro r hr
 unfold qie
 by_cases hlt : r < 16
 ·have hrt : r < t.length := by rw [ht.1]; exact hlt
  have hq := ht.2 r
  have g1 := q7j (q67 hrt)
  have hb := q6i ht r
  have hb2 := qc3 (t.getD r []) hq
  have hnx := q5j t r
  have hr16 : (r : Int) * (1000000000 * (wt p : Int)) ≤ 16 * (1000000000 * (wt p : Int)) := Int.mul_le_mul_of_nonneg_right (by omega) (by omega)
  (have hF := (aI @h16 @g1); refine q01 (k:=?_); clear hF)
  refine q00 [.sl 2 (q06 (t.getD r []))] (he := ev_k154 _ (by omega)) (k:=?_)
  (have hF := (aI @h16 @g1); refine q01 (k:=?_); clear hF)
  apply Fin.nextW (r + 1)
  case h => exact Wk.clean _ ⟨by simp [↓q8h, ↓q4t, hnx], rfl, rfl, trivial⟩ ⟨rfl, q1b t, rfl, trivial⟩
  omega
 ·rw [show r = 16 by omega]
  (have hF := @h16; refine q01 (k:=?_); clear hF)
  exact Fin.tmp' rfl rfl
theorem qat {l c : List Rn} (hc : q0s l = c) (h : c.Pairwise leLo) : q0y l = c.foldl qe5 [] := by
 subst hc
 exact (z72 h (List.Perm.refl _)).symm
theorem qo1 (t : Tab) (r : Nat) : q0y (t.getD r []) = (t.map q0y).getD r [] := by
 simp only [List.getD_eq_getElem?_getD, List.getElem?_map]
 cases t[r]? with
 | none => exact q4e Can.nil
 | some l => rfl
def pastN (m : Tab) : Pst :=
 ⟨((List.range 16).map fun r => (q1t (m.getD r [])).1).take ((List.range 16).foldl (fun a r => if 0 < (q1t (m.getD r [])).1 then r + 1 else a) 0), (List.range 16).flatMap fun r => (q1t (m.getD r [])).2.map (q8z r)⟩
theorem qcq (t : Tab) : q5u t = pastN (t.map q0y) := by
 unfold q5u pastN q2m q2t q1v q5p q5t q8o
 simp only [qo1]

theorem qno {t t' : Tab} (h : t.length = 16) (h' : t'.length = 16) (hx : ∀ r, r < 16 → ∀ n, inT t r n ↔ inT t' r n) : q5u t = q5u t' := by
 have : t.map q0y = t'.map q0y := by
  refine List.ext_getElem (by simp [h, h']) fun i h1 h2 => ?_
  rw [List.length_map] at h1 h2
  rw [List.getElem_map, List.getElem_map]
  refine zkn fun n => ?_
  have := hx i (by omega) n
  unfold inT at this
  simpa [List.getD_eq_getElem?_getD, h1, h2] using this
 rw [qcq, qcq, this]
theorem zl0 {ps qs : List Pst} (h : ∀ r, r < 16 → ∀ n, (∃ p ∈ ps, inP p r n) ↔ ∃ p ∈ qs, inP p r n) : q1s ps = q1s qs :=
 qno (q1c ps).1 (q1c qs).1 fun r hr n => by rw [q5w hr, q5w hr, h r hr]
theorem z8y (p : Pst) : q16 p = q1s [p] := rfl
theorem qgh (p : Pst) {r : Nat} (hr : r < 16) (n : Int) : inP (q16 p) r n ↔ inP p r n := by
 rw [z8y, q7r _ hr]; simp
theorem zko {p q : Pst} (h : ∀ r, r < 16 → ∀ n, inP p r n ↔ inP q r n) : q16 p = q16 q := zl0 fun r hr n => by simp [h r hr]
def CanP (p : Pst) : Prop := q16 p = p
theorem qqs (t : Tab) (h : t.length = 16) : CanP (q5u t) := qno (q1c _).1 h fun r hr n => by rw [q5w hr]; simp [qge t hr]
theorem q58 (ps : List Pst) : CanP (q1s ps) := qqs _ (q1c ps).1
theorem q9q (p : Pst) : CanP (q16 p) := q58 [p]
theorem CanP.ext {p q : Pst} (hp : CanP p) (hq : CanP q) (h : ∀ r, r < 16 → ∀ n, inP p r n ↔ inP q r n) : p = q := by
 rw [← hp, ← hq]
 exact zko h
def tot (t : Tab) : Nat := (t.map List.length).sum
theorem zb5 : ∀ (l : List Nat) (i : Nat), (l.getD i 0) ≤ l.sum
 | [], i => by simp
 | x :: l, 0 => by simp
 | x :: l, i + 1 => by have := zb5 l i; simp at this ⊢; omega
theorem qep : ∀ (t : Tab) (r : Nat) (l : List Rn), ((t.set r l).map List.length).sum ≤ (t.map List.length).sum + (l.length - (t.getD r []).length)
 | [], r, l => by simp
 | x :: t, 0, l => by simp; omega
 | x :: t, r + 1, l => by have := qep t r l; simp at this ⊢; omega
theorem qpi (t : Tab) (r : Nat) (x : Rn) : tot (q6d t r x) ≤ tot t + 1 := by
 have := qep t r (t.getD r [] ++ [x])
 unfold tot q6d
 simp only [List.length_append, List.length_cons, List.length_nil] at this
 omega
theorem qht (v : List Int) (t : Tab) : ∀ i, tot ((List.range i).foldl (q3k v) t) ≤ tot t + i
 | 0 => Nat.le_refl _
 | i + 1 => by
  rw [q7n]
  have h1 := qht v t i
  have h2 := qpi ((List.range i).foldl (q3k v) t) i (1, q1q v i)
  unfold q3k at *
  omega
theorem qhu : ∀ (c : List Sn) (t : Tab), tot (q4a c t) ≤ tot t + c.length
 | [], t => Nat.le_refl _
 | s :: c, t => by
  have h1 := qhu c (putSn t s)
  have h2 : tot (putSn t s) ≤ tot t + 1 := by
   unfold putSn
   split
   ·exact qpi _ _ _
   ·omega
  show tot (q4a c (putSn t s)) ≤ _
  simp only [List.length_cons]
  omega
theorem qr5 : ∀ (ps : List Pst) (t : Tab), tot (ps.foldl q1n t) ≤ tot t + (ps.map wt).sum
 | [], t => Nat.le_refl _
 | p :: ps, t => by
  have h1 := qr5 ps (q1n t p)
  have h2 : tot (q1n t p) ≤ tot t + wt p := by
   have a := qht p.vec t (min p.vec.length 16)
   have b := qhu p.cloud (q5b p.vec t)
   unfold q1n q5b wt at *
   omega
  simp only [List.foldl_cons, List.map_cons, List.sum_cons]
  omega
theorem qbu (ps : List Pst) : tot (q0l ps) ≤ (ps.map wt).sum := by
 have h0 : tot q6e = 0 := by decide
 have := qr5 ps q6e
 unfold q0l
 omega
theorem qr6 : ∀ (ds : List Rn) (t : Tab), tot (ds.foldl q3z t) ≤ tot t + ds.length
 | [], t => Nat.le_refl _
 | d :: ds, t => by
  have h1 := qr6 ds (q3z t d)
  have h2 : tot (q3z t d) ≤ tot t + 1 := by
   unfold q3z
   split
   ·exact qpi _ _ _
   ·omega
  simp only [List.foldl_cons, List.length_cons]
  omega
theorem tot_ofT (ds : List Rn) : tot (ofT ds) ≤ ds.length := by
 have h0 : tot q6e = 0 := by decide
 have := qr6 ds q6e
 unfold ofT
 omega
theorem qs1 (t : Tab) : ∀ m, (q1v t m).length ≤ ((List.range m).map fun r => (t.getD r []).length).sum
 | 0 => by simp [q1v]
 | m + 1 => by
  rw [q6t, List.length_append, List.range_succ, List.map_append, List.sum_append]
  have h1 := qs1 t m
  have h2 : (q5p t m).length ≤ (t.getD m []).length := by
   have a := qa7 (q0y (t.getD m []))
   have b := q1z (t.getD m [])
   simp only [q5p, q5t, List.length_map]
   omega
  simp only [List.map_cons, List.map_nil, List.sum_cons, List.sum_nil]
  omega
theorem qa1 : ∀ (t : Tab), ((List.range t.length).map fun r => (t.getD r []).length).sum = tot t
 | t => by
  unfold tot
  congr 1
  refine List.ext_getElem (by simp) fun i h1 h2 => ?_
  simp at h1 h2 ⊢
  simp [h1]
theorem qcp {t : Tab} (h : t.length = 16) : wt (q5u t) ≤ 16 + tot t := by
 have h1 := qs1 t 16
 have h2 := qa1 t
 rw [h] at h2
 show ((q2m t 16).take (q2t t 16)).length + (q1v t 16).length ≤ _
 rw [List.length_take, q2v]
 omega
theorem q6o (ps : List Pst) : wt (q1s ps) ≤ 16 + (ps.map wt).sum := by
 have h1 := qcp (q1c ps).1
 have h2 := qbu ps
 show wt (q5u (q0l ps)) ≤ _
 omega
theorem ofP_wt (ds : List Rn) : wt (ofP ds) ≤ 16 + ds.length := by
 have h1 := qcp (zkj ds).1
 have h2 := tot_ofT ds
 show wt (q5u (ofT ds)) ≤ _
 omega
theorem q5m (p : Pst) : wt (q16 p) ≤ wt p + 16 := by
 have := q6o [p]
 simp only [List.map_cons, List.map_nil, List.sum_cons, List.sum_nil] at this
 show wt (q1s [p]) ≤ _
 omega
theorem n9_ex : ∃ N : Nat, N = 1000000000 := ⟨_, rfl⟩
noncomputable def n9 : Nat := Classical.choose n9_ex
theorem n9_eq : n9 = 1000000000 := Classical.choose_spec n9_ex
open Classical in
noncomputable def q8r (q : Int → Prop) : Nat := (List.range n9).countP fun (i : Nat) => decide (q ((i : Int) + 1))
open Classical in
theorem q5r (q : Int → Prop) : q8r q = (List.range n9).countP fun (i : Nat) => decide (q ((i : Int) + 1)) := rfl
open Classical in
theorem qfh {α : Type} (p q r s : α → Prop) (l : List α) (h : ∀ x, (if p x then 1 else 0) + (if q x then 1 else 0) = (if r x then 1 else 0) + (if s x then 1 else 0)) :
 l.countP (fun x => decide (p x)) + l.countP (fun x => decide (q x)) = l.countP (fun x => decide (r x)) + l.countP (fun x => decide (s x)) := by
 induction l with
 | nil => rfl
 | cons x l ih =>
  have := h x
  simp only [List.countP_cons, decide_eq_true_eq]
  omega
open Classical in
theorem za5 (p q : Int → Prop) : q8r (fun n => p n ∨ q n) + q8r (fun n => p n ∧ q n) = q8r p + q8r q := by
 simp only [q5r]
 refine qfh _ _ _ _ _ fun x => ?_
 by_cases h1 : p ((x : Int) + 1) <;> by_cases h2 : q ((x : Int) + 1) <;> simp [h1, h2]
open Classical in
theorem zn0 (p q : Int → Prop) : q8r (fun n => p n ∧ ¬ q n) + q8r (fun n => p n ∧ q n) = q8r p := by
 have h0 : q8r (fun _ => False) = 0 := by simp [q5r]
 have := qfh (fun i : Nat => p ((i : Int) + 1) ∧ ¬ q ((i : Int) + 1)) (fun i : Nat => p ((i : Int) + 1) ∧ q ((i : Int) + 1)) (fun i : Nat => p ((i : Int) + 1)) (fun i : Nat => False) (List.range n9) (fun x => by
  by_cases h1 : p ((x : Int) + 1) <;> by_cases h2 : q ((x : Int) + 1) <;> simp [h1, h2])
 simp only [q5r] at h0 ⊢
 omega
theorem q6c {p q : Int → Prop} (h : ∀ n, 1 ≤ n → n ≤ 1000000000 → (p n ↔ q n)) : q8r p = q8r q := by
 classical
 simp only [q5r]
 refine List.countP_congr fun i hi => ?_
 rw [List.mem_range, n9_eq] at hi
 simp only [decide_eq_true_eq]
 exact h _ (by omega) (by omega)
theorem qdo (a b : Nat) : ∀ N : Nat, (List.range N).countP (fun i => decide (a ≤ i ∧ i < b)) = min N b - min N a
 | 0 => by simp
 | N + 1 => by
  rw [List.range_succ, List.countP_append, qdo a b N]
  by_cases h : a ≤ N ∧ N < b
  ·simp only [List.countP_cons, List.countP_nil, h, and_self, decide_true, if_true]
   omega
  ·simp only [List.countP_cons, List.countP_nil, h, decide_false, Bool.false_eq_true, if_false]
   omega
theorem z81 {a b : Int} (h1 : 1 ≤ a) (h2 : a ≤ b) (h3 : b ≤ 1000000000) : (q8r (fun n => a ≤ n ∧ n ≤ b) : Int) = b - a + 1 := by
 classical
 have h : q8r (fun n => a ≤ n ∧ n ≤ b) = min n9 b.toNat - min n9 (a - 1).toNat := by
  rw [← qdo (a - 1).toNat b.toNat n9, q5r]
  refine List.countP_congr fun i hi => ?_
  simp only [decide_eq_true_eq]
  omega
 rw [h, n9_eq]
 omega
theorem q88 (m : List Rn) (a : Int) : m.foldl q1f a = a + m.foldl q1f 0 := by
 induction m generalizing a with
 | nil => simp
 | cons x m ih =>
  simp only [List.foldl_cons]
  rw [ih, ih (q1f 0 x)]
  unfold q1f
  omega
theorem qer : ∀ {m : List Rn}, Can m → qe8 m = (q8r (inR m) : Int)
 | [], _ => by
  have : q8r (inR []) = 0 := by
   classical
   rw [q5r]
   exact List.countP_eq_zero.2 fun i _ => by simp [q29]
  rw [this]; rfl
 | x :: m, h => by
  have hx := (Can.cons_iff.1 h).1
  unfold okR at hx
  have ih := qer h.tail
  have h1 := z81 hx.1 hx.2.1 hx.2.2
  have h2 := za5 (fun n => x.1 ≤ n ∧ n ≤ x.2) (inR m)
  have h3 : q8r (fun n => (x.1 ≤ n ∧ n ≤ x.2) ∧ inR m n) = 0 := by
   classical
   rw [q5r]
   refine List.countP_eq_zero.2 fun i _ => ?_
   simp only [decide_eq_true_eq]
   rintro ⟨q1, q2⟩
   have := h.above q2
   omega
  have h4 : q8r (inR (x :: m)) = q8r (fun n => (x.1 ≤ n ∧ n ≤ x.2) ∨ inR m n) := q6c fun n _ _ => q0t x m n
  unfold qe8 at *
  rw [List.foldl_cons, q88, ih, h4]
  unfold q1f
  omega
noncomputable def qb3 (q : Nat → Int → Prop) : Nat → Nat
 | 0 => 0
 | m + 1 => qb3 q m + q8r (q m)
theorem qdz {q q' : Nat → Int → Prop} : ∀ {m : Nat}, (∀ r, r < m → ∀ n, 1 ≤ n → n ≤ 1000000000 → (q r n ↔ q' r n)) → qb3 q m = qb3 q' m
 | 0, _ => rfl
 | m + 1, h => by
  show qb3 q m + q8r (q m) = qb3 q' m + q8r (q' m)
  rw [qdz (m := m) fun r hr => h r (by omega), q6c (h m (by omega))]
theorem qas (t : Tab) : ∀ m, q25 t m = (qb3 (inT t) m : Int)
 | 0 => rfl
 | m + 1 => by
  rw [q5j, qas t m, qer (q1d _)]
  show _ = ((qb3 (inT t) m + q8r (inT t m) : Nat) : Int)
  rw [q6c (p := inR (q0y (t.getD m []))) (q := inT t m) fun n _ _ => q2k _ n]
  omega
theorem qes (p : Pst) : q3e p = (qb3 (inP p) 16 : Int) := by
 unfold q3e
 rw [qas]
 congr 1
 exact qdz fun r hr n _ _ => by rw [q5w hr]; simp

def z6j : List SOp := [⟨some 4,.assign (.const (.bool false)),none⟩]
instance : Live z6j := ⟨[0,1]⟩
def z6i : List SOp := [⟨some 6,.move (.tmp 0),none⟩,⟨some 7,.call ⟨.builtin .len,#[.tmp 6],#[23]⟩,none⟩,⟨some 8,.move (.tmp 1),none⟩,⟨some 9,.call ⟨.builtin .len,#[.tmp 8],#[23]⟩,none⟩,⟨some 10,.binOp .neq 3 (.tmp 7) (.tmp 9) 3,none⟩]
instance : Live z6i := ⟨[0,1]⟩
def z6h : List SOp := [⟨some 4,.assign (.const (.bool false)),none⟩]
instance : Live z6h := ⟨[]⟩
def z6g : List SOp := [⟨some 11,.move (.tmp 0),none⟩,⟨some 12,.call ⟨.builtin .len,#[.tmp 11],#[23]⟩,none⟩,⟨some 13,.move (.const (.int .i64 0)),none⟩]
instance : Live z6g := ⟨[0,1]⟩
def z6f : List SOp := [⟨some 14,.binOp .lss 3 (.tmp 13) (.tmp 12) 3,none⟩]
instance : Live z6f := ⟨[0,1,12,13]⟩
def z6e : List SOp := [⟨some 15,.move (.tmp 13),none⟩,⟨some 5,.assign (.tmp 15),none⟩]
instance : Live z6e := ⟨[0,1,12,13]⟩
def z6d : List SOp := [⟨some 16,.move (.tmp 0),none⟩,⟨some 17,.move (.tmp 5),none⟩,⟨some 18,.indexAddr 23 (.tmp 16) (.tmp 17),none⟩,⟨some 19,.load 3 (.tmp 18),none⟩,⟨some 20,.move (.tmp 1),none⟩,⟨some 21,.move (.tmp 5),none⟩,⟨some 22,.indexAddr 23 (.tmp 20) (.tmp 21),none⟩,⟨some 23,.load 3 (.tmp 22),none⟩,⟨some 24,.binOp .neq 3 (.tmp 19) (.tmp 23) 3,none⟩]
instance : Live z6d := ⟨[0,1,5,12,13]⟩
def z6c : List SOp := [⟨some 4,.assign (.const (.bool false)),none⟩]
instance : Live z6c := ⟨[]⟩
def z6b : List SOp := [⟨some 25,.binOp .add 3 (.tmp 13) (.const (.int .i64 1)) 3,none⟩,⟨some 13,.move (.tmp 25),none⟩]
instance : Live z6b := ⟨[0,1,12,13]⟩
def qnm : List SOp := [⟨some 4,.assign (.const (.bool true)),none⟩]
instance : Live qnm := ⟨[]⟩
def qj0 : SC :=
 (.seq (.ops false z6f) (.seq (.cond (.tmp 14) .skip (.exit 0)) (.seq (.block 1 (.seq (.ops false z6e) (.seq (.ops true z6d) (.cond (.tmp 24) (.seq (.ops false z6c) .ret) .skip)))) (.ops false z6b))))
def t_k103 : SC :=
 (.seq (.ops false z6j) (.seq (.seq (.ops false z6i) (.cond (.tmp 10) (.seq (.ops false z6h) .ret) .skip)) (.seq (.seq (.ops false z6g) (.block 0 (.loop qj0))) (.seq (.ops false qnm) .ret))))
theorem it_k103 : FnIs Tryz.prog 103 26 [.tmp 4] t_k103 := ⟨Tryz.f103, _, Tryz.func103, rfl, rfl, rfl, rfl, by kernel_rfl⟩

def z6a : List SOp := [⟨some 4,.assign (.const (.bool false)),none⟩]
instance : Live z6a := ⟨[0,1]⟩
def z69 : List SOp := [⟨some 6,.move (.tmp 0),none⟩,⟨some 7,.call ⟨.builtin .len,#[.tmp 6],#[24]⟩,none⟩,⟨some 8,.move (.tmp 1),none⟩,⟨some 9,.call ⟨.builtin .len,#[.tmp 8],#[24]⟩,none⟩,⟨some 10,.binOp .neq 3 (.tmp 7) (.tmp 9) 3,none⟩]
instance : Live z69 := ⟨[0,1]⟩
def z68 : List SOp := [⟨some 4,.assign (.const (.bool false)),none⟩]
instance : Live z68 := ⟨[]⟩
def z67 : List SOp := [⟨some 11,.move (.tmp 0),none⟩,⟨some 12,.call ⟨.builtin .len,#[.tmp 11],#[24]⟩,none⟩,⟨some 13,.move (.const (.int .i64 0)),none⟩]
instance : Live z67 := ⟨[0,1]⟩
def z65 : List SOp := [⟨some 14,.binOp .lss 3 (.tmp 13) (.tmp 12) 3,none⟩]
instance : Live z65 := ⟨[0,1,12,13]⟩
def z64 : List SOp := [⟨some 15,.move (.tmp 13),none⟩,⟨some 5,.assign (.tmp 15),none⟩]
instance : Live z64 := ⟨[0,1,12,13]⟩
def z63 : List SOp := [⟨some 16,.move (.tmp 0),none⟩,⟨some 17,.move (.tmp 5),none⟩,⟨some 18,.indexAddr 24 (.tmp 16) (.tmp 17),none⟩,⟨some 19,.load 127 (.tmp 18),none⟩,⟨some 20,.move (.tmp 1),none⟩,⟨some 21,.move (.tmp 5),none⟩,⟨some 22,.indexAddr 24 (.tmp 20) (.tmp 21),none⟩,⟨some 23,.load 127 (.tmp 22),none⟩,⟨some 24,.binOp .neq 127 (.tmp 19) (.tmp 23) 127,none⟩]
instance : Live z63 := ⟨[0,1,5,12,13]⟩
def z62 : List SOp := [⟨some 4,.assign (.const (.bool false)),none⟩]
instance : Live z62 := ⟨[]⟩
def z61 : List SOp := [⟨some 25,.binOp .add 3 (.tmp 13) (.const (.int .i64 1)) 3,none⟩,⟨some 13,.move (.tmp 25),none⟩]
instance : Live z61 := ⟨[0,1,12,13]⟩
def qnl : List SOp := [⟨some 4,.assign (.const (.bool true)),none⟩]
instance : Live qnl := ⟨[]⟩
def qiz : SC :=
 (.seq (.ops false z65) (.seq (.cond (.tmp 14) .skip (.exit 0)) (.seq (.block 1 (.seq (.ops false z64) (.seq (.ops true z63) (.cond (.tmp 24) (.seq (.ops false z62) .ret) .skip)))) (.ops false z61))))
def t_k104 : SC :=
 (.seq (.ops false z6a) (.seq (.seq (.ops false z69) (.cond (.tmp 10) (.seq (.ops false z68) .ret) .skip)) (.seq (.seq (.ops false z67) (.block 0 (.loop qiz))) (.seq (.ops false qnl) .ret))))
theorem it_k104 : FnIs Tryz.prog 104 26 [.tmp 4] t_k104 := ⟨Tryz.f104, _, Tryz.func104, rfl, rfl, rfl, rfl, by kernel_rfl⟩

def zgk : List SOp := [⟨some 1,.box 26 (.tmp 0),none⟩,⟨some 2,.assign (.const (.bool false)),none⟩]
instance : Live zgk := ⟨[0]⟩
def zgj : List SOp := [⟨some 4,.load 26 (.tmp 1),none⟩,⟨some 5,.call ⟨.value (.func 64),#[.tmp 4],#[26]⟩,none⟩,⟨some 3,.alloc 26,none⟩,⟨none,.store 26 (.tmp 3) (.tmp 5),none⟩]
instance : Live zgj := ⟨[1]⟩
def zgi : List SOp := [⟨some 6,.fieldAddr 26 (.tmp 1) 0,none⟩,⟨some 7,.load 23 (.tmp 6),none⟩,⟨some 8,.fieldAddr 26 (.tmp 3) 0,none⟩,⟨some 9,.load 23 (.tmp 8),none⟩,⟨some 10,.call ⟨.value (.func 103),#[.tmp 7,.tmp 9],#[23,23]⟩,none⟩,⟨some 11,.move (.tmp 10),none⟩,⟨some 12,.fieldAddr 26 (.tmp 1) 1,some ((some 11),true)⟩,⟨some 13,.load 24 (.tmp 12),some ((some 11),true)⟩,⟨some 14,.fieldAddr 26 (.tmp 3) 1,some ((some 11),true)⟩,⟨some 15,.load 24 (.tmp 14),some ((some 11),true)⟩,⟨some 16,.call ⟨.value (.func 104),#[.tmp 13,.tmp 15],#[24,24]⟩,some ((some 11),true)⟩,⟨some 17,.pick (.tmp 11) (.tmp 16) (.const (.bool false)),none⟩,⟨some 2,.assign (.tmp 17),none⟩]
instance : Live zgi := ⟨[1,3]⟩
def t_k54 : SC :=
 (.seq (.ops false zgk) (.seq (.ops false zgj) (.seq (.ops false zgi) .ret)))
theorem it_k54 : FnIs Tryz.prog 54 18 [.tmp 2] t_k54 := ⟨Tryz.f54, _, Tryz.func54, rfl, rfl, rfl, rfl, by kernel_rfl⟩

theorem q2u {α : Type} {a b : List α} (hl : a.length = b.length) (h : ∀ j, j < a.length → a[j]? = b[j]?) : a = b := by
 refine List.ext_getElem? fun j => ?_
 by_cases hj : j < a.length
 ·exact h j hj
 ·rw [List.getElem?_eq_none (by omega), List.getElem?_eq_none (by omega)]
theorem q63 {α : Type} {a b : List α} {i : Nat} (h : ∀ j, j < i → a[j]? = b[j]?) (hi : a[i]? = b[i]?) : ∀ j, j < i + 1 → a[j]? = b[j]? := fun j hj => by
 by_cases e : j = i
 ·rw [e]; exact hi
 ·exact h j (by omega)
theorem ev_k103 (a b : List Int) (ha : a.length ≤ 1000000000) (hb : b.length ≤ 1000000000) : Ev (En Tryz.prog rfl).P 103 [.sl 1 (q05 a), .sl 1 (q05 b)] (.ret (.bool (decide (a = b)))) := by
 refine Ev.of_body it_k103 (by simp) (Run.start ?_)
 unfold t_k103
 have e1 := q0i a
 have e2 := q0i b
 (focus (have hF := (aI @e1 @e2); (repeat' (first | refine go1 (k:=?_) | with_reducible refine Ny.of ?_ ?_ | (refine Hyp.of ?_; intro hc; (try simp only [hc]); (try simp only [Bh] at hc)))); all_goals clear hF))
 ·rw [decide_eq_false fun h => hc (by rw [h])]
  exact Fin.tmp' rfl rfl
 ·refine Run.while (σ := Nat) (fun i => ⟨tms [(0, .sl 1 (q05 a)), (1, .sl 1 (q05 b)), (12, .int .i64 (a.length : Int)), (13, .int .i64 (i : Int))], mms []⟩) (fun i => i ≤ a.length ∧ ∀ j, j < i → a[j]? = b[j]?) (fun i => a.length - i) 0 (have hW := @q03; q0g) ⟨Nat.zero_le _, fun j hj => absurd hj (Nat.not_lt_zero _)⟩ ?_
  rintro i ⟨hi, hp⟩
  unfold qj0
  by_cases hlt : i < a.length
  ·obtain ⟨x, hx⟩ : ∃ x, a[i]? = some x := ⟨a[i], by simp [hlt]⟩
   obtain ⟨y, hy⟩ : ∃ y, b[i]? = some y := ⟨b[i]'(by omega), by simp [show i < b.length by omega]⟩
   have g1 := q0v hx
   have g2 := q0v hy
   (focus (have hF := (aI (aI @e1 @e2) (aI @g1 @g2)); (repeat' (first | refine go1 (k:=?_) | with_reducible refine Ny.of ?_ ?_ | (refine Hyp.of ?_; intro hc; (try simp only [hc]); (try simp only [Bh] at hc)))); all_goals clear hF))
   ·rw [decide_eq_false fun h => hc (by rw [h, hy] at hx; exact (Option.some.inj hx).symm)]
    exact Fin.tmp' rfl rfl
   ·have hs := q63 hp (hx.trans ((congrArg some hc).trans hy.symm))
    (refine Fin.nextW (i + 1) ?_ (have hW := @q03; q0g); (try dsimp only))
    exact ⟨⟨hlt, hs⟩, by omega⟩
  ·rw [decide_eq_true (q2u (by omega) fun j hj => hp j (by omega))]
   (have hF := (aI @e1 @e2); refine q01 (k:=?_); clear hF)
   exact Fin.tmp' rfl rfl
theorem ev_k104 (a b : List Sn) (ha : a.length ≤ 1000000000) (hb : b.length ≤ 1000000000) : Ev (En Tryz.prog rfl).P 104 [.sl 3 (q0d a), .sl 3 (q0d b)] (.ret (.bool (decide (a = b)))) := by
 refine Ev.of_body it_k104 (by simp) (Run.start ?_)
 unfold t_k104
 have e1 := q1e a
 have e2 := q1e b
 (focus (have hF := (aI @e1 @e2); (repeat' (first | refine go1 (k:=?_) | with_reducible refine Ny.of ?_ ?_ | (refine Hyp.of ?_; intro hc; (try simp only [hc]); (try simp only [Bh] at hc)))); all_goals clear hF))
 ·rw [decide_eq_false fun h => hc (by rw [h])]
  exact Fin.tmp' rfl rfl
 ·refine Run.while (σ := Nat) (fun i => ⟨tms [(0, .sl 3 (q0d a)), (1, .sl 3 (q0d b)), (12, .int .i64 (a.length : Int)), (13, .int .i64 (i : Int))], mms []⟩) (fun i => i ≤ a.length ∧ ∀ j, j < i → a[j]? = b[j]?) (fun i => a.length - i) 0 (have hW := @q04; q0g) ⟨Nat.zero_le _, fun j hj => absurd hj (Nat.not_lt_zero _)⟩ ?_
  rintro i ⟨hi, hp⟩
  unfold qiz
  by_cases hlt : i < a.length
  ·obtain ⟨x, hx⟩ : ∃ x, a[i]? = some x := ⟨a[i], by simp [hlt]⟩
   obtain ⟨y, hy⟩ : ∃ y, b[i]? = some y := ⟨b[i]'(by omega), by simp [show i < b.length by omega]⟩
   have g1 := q2c hx
   have g2 := q2c hy
   (focus (have hF := (aI (aI @e1 @e2) (aI @g1 @g2)); (repeat' (first | refine go1 (k:=?_) | with_reducible refine Ny.of ?_ ?_ | (refine Hyp.of ?_; intro hc; (try simp only [hc]); (try simp only [Bh] at hc)))); all_goals clear hF))
   ·rw [decide_eq_false fun h => by
     rw [h, hy] at hx
     have := Option.some.inj hx
     subst this
     simp at hc]
    exact Fin.tmp' rfl rfl
   ·have hxy : x = y := Prod.ext hc.1 (Prod.ext hc.2.1 hc.2.2)
    have hs := q63 hp (hx.trans ((congrArg some hxy).trans hy.symm))
    (refine Fin.nextW (i + 1) ?_ (have hW := @q04; q0g); (try dsimp only))
    exact ⟨⟨hlt, hs⟩, by omega⟩
  ·rw [decide_eq_true (q2u (by omega) fun j hj => hp j (by omega))]
   (have hF := (aI @e1 @e2); refine q01 (k:=?_); clear hF)
   exact Fin.tmp' rfl rfl
def q1j (p : Pst) : Bool := decide (p.vec = (q16 p).vec) && decide (p.cloud = (q16 p).cloud)
theorem q42 {p : Pst} : q1j p = true ↔ CanP p := by
 unfold q1j CanP
 rw [Bool.and_eq_true, decide_eq_true_eq, decide_eq_true_eq]
 constructor
 ·rintro ⟨h1, h2⟩
  have : ∀ q : Pst, p.vec = q.vec → p.cloud = q.cloud → q = p := fun q a b => by cases p; cases q; simp at a b; rw [a, b]
  exact this _ h1 h2
 ·intro h
  rw [h]
  exact ⟨rfl, rfl⟩
theorem qoc (p : Pst) (hw : wt p ≤ 40000000) : Ev (En Tryz.prog rfl).P 54 [q0f p] (.ret (.bool (q1j p))) := by
 refine Ev.of_body it_k54 (by simp) (Run.start ?_)
 unfold t_k54 q0f
 have c1 := qfa p (by omega)
 have hn := q5m p
 have hw1 : p.vec.length + p.cloud.length = wt p := rfl
 have hw2 : (q16 p).vec.length + (q16 p).cloud.length = wt (q16 p) := rfl
 have c2 := ev_k103 p.vec (q16 p).vec (by omega) (by omega)
 have c3 := ev_k104 p.cloud (q16 p).cloud (by omega) (by omega)
 (have hF := True.intro; refine q01 (k:=?_); clear hF)
 refine q00 [q0f p] (he := c1) (k:=?_)
 unfold q0f
 (have hF := True.intro; refine q01 (k:=?_); clear hF)
 by_cases hv : p.vec = (q16 p).vec
 ·have hr : q1j p = decide (p.cloud = (q16 p).cloud) := by unfold q1j; rw [decide_eq_true hv]; rfl
  rw [decide_eq_true hv] at c2
  rw [hr]
  refine q00 [.sl 1 (q05 p.vec), .sl 1 (q05 (q16 p).vec)] (he := c2) (k:=?_)
  (have hF := True.intro; refine q01 (k:=?_); clear hF)
  refine q00 [.sl 3 (q0d p.cloud), .sl 3 (q0d (q16 p).cloud)] (he := c3) (k:=?_)
  (have hF := True.intro; refine q01 (k:=?_); clear hF)
  exact Fin.tmp' rfl rfl
 ·have hr : q1j p = false := by unfold q1j; rw [decide_eq_false hv]; rfl
  rw [decide_eq_false hv] at c2
  rw [hr]
  refine q00 [.sl 1 (q05 p.vec), .sl 1 (q05 (q16 p).vec)] (he := c2) (k:=?_)
  (have hF := True.intro; refine q01 (k:=?_); clear hF)
  exact Fin.tmp' rfl rfl

def qw9 : List SOp := [⟨some 2,.assign (.const (.bool false)),none⟩]
instance : Live qw9 := ⟨[0]⟩
def qw8 : List SOp := [⟨some 3,.move (.tmp 0),none⟩,⟨some 4,.move (.tmp 0),none⟩,⟨some 5,.binOp .neq 3 (.tmp 3) (.tmp 4) 3,none⟩,⟨some 2,.assign (.tmp 5),none⟩]
instance : Live qw8 := ⟨[0]⟩
def t_k167 : SC :=
 (.seq (.ops false qw9) (.seq (.ops false qw8) .ret))
theorem it_k167 : FnIs Tryz.prog 167 6 [.tmp 2] t_k167 := ⟨Tryz.f167, _, Tryz.func167, rfl, rfl, rfl, rfl, by kernel_rfl⟩

def qzm : List SOp := [⟨some 4,.assign (.const (.int .i64 0)),none⟩]
instance : Live qzm := ⟨[0,1]⟩
def qzl : List SOp := [⟨some 7,.move (.tmp 0),none⟩,⟨some 8,.call ⟨.value (.func 167),#[.tmp 7],#[3]⟩,none⟩,⟨some 5,.assign (.tmp 8),none⟩]
instance : Live qzl := ⟨[0,1]⟩
def qzk : List SOp := [⟨some 9,.move (.tmp 1),none⟩,⟨some 10,.call ⟨.value (.func 167),#[.tmp 9],#[3]⟩,none⟩,⟨some 6,.assign (.tmp 10),none⟩]
instance : Live qzk := ⟨[0,1,5]⟩
def qzj : List SOp := [⟨some 11,.move (.tmp 5),none⟩]
instance : Live qzj := ⟨[0,1,5,6]⟩
def qzi : List SOp := [⟨some 12,.move (.tmp 6),none⟩]
instance : Live qzi := ⟨[6]⟩
def qzh : List SOp := [⟨some 4,.assign (.const (.int .i64 0)),none⟩]
instance : Live qzh := ⟨[]⟩
def qzg : List SOp := [⟨some 4,.assign (.const (.int .i64 (-1))),none⟩]
instance : Live qzg := ⟨[]⟩
def qzf : List SOp := [⟨some 13,.move (.tmp 6),none⟩]
instance : Live qzf := ⟨[0,1,6]⟩
def qze : List SOp := [⟨some 4,.assign (.const (.int .i64 1)),none⟩]
instance : Live qze := ⟨[]⟩
def qli : List SOp := [⟨some 14,.move (.tmp 0),none⟩,⟨some 15,.move (.tmp 1),none⟩,⟨some 16,.binOp .lss 3 (.tmp 14) (.tmp 15) 3,none⟩]
instance : Live qli := ⟨[0,1]⟩
def qlh : List SOp := [⟨some 4,.assign (.const (.int .i64 (-1))),none⟩]
instance : Live qlh := ⟨[]⟩
def qlg : List SOp := [⟨some 17,.move (.tmp 0),none⟩,⟨some 18,.move (.tmp 1),none⟩,⟨some 19,.binOp .gtr 3 (.tmp 17) (.tmp 18) 3,none⟩]
instance : Live qlg := ⟨[0,1]⟩
def qlf : List SOp := [⟨some 4,.assign (.const (.int .i64 1)),none⟩]
instance : Live qlf := ⟨[]⟩
def qle : List SOp := [⟨some 4,.assign (.const (.int .i64 0)),none⟩]
instance : Live qle := ⟨[]⟩
def t_k149 : SC :=
 (.seq (.ops false qzm) (.seq (.ops false qzl) (.seq (.ops false qzk) (.seq (.seq (.ops false qzj) (.cond (.tmp 11) (.seq (.seq (.ops false qzi) (.cond (.tmp 12) (.seq (.ops false qzh) .ret) .skip)) (.seq (.ops false qzg) .ret)) .skip)) (.seq (.seq (.ops false qzf) (.cond (.tmp 13) (.seq (.ops false qze) .ret) .skip)) (.seq (.seq (.ops false qli) (.cond (.tmp 16) (.seq (.ops false qlh) .ret) .skip)) (.seq (.seq (.ops false qlg) (.cond (.tmp 19) (.seq (.ops false qlf) .ret) .skip)) (.seq (.ops false qle) .ret))))))))
theorem it_k149 : FnIs Tryz.prog 149 20 [.tmp 4] t_k149 := ⟨Tryz.f149, _, Tryz.func149, rfl, rfl, rfl, rfl, by kernel_rfl⟩

def qz2 : List SOp := [⟨some 2,.assign (.const (.int .i64 0)),none⟩]
instance : Live qz2 := ⟨[0]⟩
def qz1 : List SOp := [⟨some 3,.assign (.const (.int .i64 0)),none⟩]
instance : Live qz1 := ⟨[0]⟩
def qz0 : List SOp := [⟨some 6,.move (.tmp 0),none⟩,⟨some 7,.call ⟨.builtin .len,#[.tmp 6],#[23]⟩,none⟩,⟨some 8,.move (.const (.int .i64 0)),none⟩]
instance : Live qz0 := ⟨[0,3]⟩
def qyz : List SOp := [⟨some 9,.binOp .lss 3 (.tmp 8) (.tmp 7) 3,none⟩]
instance : Live qyz := ⟨[3,6,7,8]⟩
def qyy : List SOp := [⟨some 10,.indexAddr 23 (.tmp 6) (.tmp 8),none⟩,⟨some 11,.load 3 (.tmp 10),none⟩,⟨some 5,.assign (.tmp 11),none⟩]
instance : Live qyy := ⟨[3,6,7,8]⟩
def qyx : List SOp := [⟨some 12,.move (.tmp 5),none⟩,⟨some 13,.move (.tmp 3),none⟩,⟨some 14,.binOp .neq 3 (.tmp 12) (.tmp 13) 3,none⟩]
instance : Live qyx := ⟨[3,5,6,7,8]⟩
def qyw : List SOp := [⟨some 15,.move (.tmp 5),none⟩,⟨some 2,.assign (.tmp 15),none⟩]
instance : Live qyw := ⟨[5]⟩
def qyv : List SOp := [⟨some 16,.binOp .add 3 (.tmp 8) (.const (.int .i64 1)) 3,none⟩,⟨some 8,.move (.tmp 16),none⟩]
instance : Live qyv := ⟨[3,6,7,8]⟩
def qyu : List SOp := [⟨some 17,.move (.tmp 3),none⟩,⟨some 2,.assign (.tmp 17),none⟩]
instance : Live qyu := ⟨[3]⟩
def qi9 : SC :=
 (.seq (.ops false qyz) (.seq (.cond (.tmp 9) .skip (.exit 0)) (.seq (.block 1 (.seq (.ops false qyy) (.seq (.ops false qyx) (.cond (.tmp 14) (.seq (.ops false qyw) .ret) .skip)))) (.ops false qyv))))
def t_k152 : SC :=
 (.seq (.ops false qz2) (.seq (.ops false qz1) (.seq (.seq (.ops false qz0) (.block 0 (.loop qi9))) (.seq (.ops false qyu) .ret))))
theorem it_k152 : FnIs Tryz.prog 152 18 [.tmp 2] t_k152 := ⟨Tryz.f152, _, Tryz.func152, rfl, rfl, rfl, rfl, by kernel_rfl⟩

end Go.Proofs.YthejoeiecenjkaaGreat.Avm
