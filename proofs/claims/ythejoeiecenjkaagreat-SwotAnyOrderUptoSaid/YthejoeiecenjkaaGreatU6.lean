/- Part 6 of the proof: lemmas. -/
import Derived.Test.YthejoeiecenjkaaGreatU5
import Derived.Test.YthejoeiecenjkaaGreatProg
import Derived.KernelRfl
set_option maxRecDepth 100000
set_option maxHeartbeats 4000000
set_option linter.unusedVariables false
set_option linter.unusedSimpArgs false
set_option linter.unusedSectionVars false
set_option linter.defProp false
namespace Go.Proofs.YthejoeiecenjkaaGreat.Avm
open Go.Proofs
open Classical in
noncomputable def formS (s : Swt) : Bool := decide (FormS s)
theorem qbm {s : Swt} (h : FormS s) : formS s = true := by classical exact decide_eq_true h
theorem q4a {s : Swt} : formS s = true ↔ FormS s := by classical exact decide_eq_true_iff
theorem qbq {α : Type} (p : α → Bool) : ∀ l : List α, (l.filter p).length = l.length ↔ ∀ x ∈ l, p x = true
 | [] => by simp
 | x :: l => by
  have ih := qbq p l
  have hle := List.length_filter_le p l
  by_cases h : p x = true
  ·rw [List.filter_cons_of_pos h, List.length_cons, List.length_cons, Nat.add_right_cancel_iff, ih]
   simp [h]
  ·rw [List.filter_cons_of_neg h, List.length_cons]
   constructor
   ·intro h'; omega
   ·intro h'; exact absurd (h' x (by simp)) h
theorem qjv {l : List Rec} {p : Pst} : (q0x l p).length = l.length ↔ ∀ r ∈ l, q0n r.past p = false := by
 unfold q0x
 rw [qbq]
 simp
theorem zb6 {l : List Rec} {es : List Ent} : (q3z l es).length = es.length ↔ ∀ e ∈ es, ¬ q68 l e := by
 unfold q3z
 rw [qbq]
 simp only [decide_eq_true_eq, q5g]
theorem qcd {s : Swt} : FormS s ↔ q6v s.live = true ∧ q18 s.past = true ∧ q34 s.defer = true ∧ q0n (q3g s.live) s.past = true ∧ (q0x s.defer s.past).length = s.defer.length ∧ (q3z s.defer s.live).length = s.live.length := by
 rw [qam, q36, q74, qjv, zb6]
 exact ⟨fun h => ⟨h.live, h.past, h.defer, h.dots, h.waits, h.bars⟩, fun h => ⟨h.1, h.2.1, h.2.2.1, h.2.2.2.1, h.2.2.2.2.1, h.2.2.2.2.2⟩⟩
theorem qd5 {l : List Ent} (hs : ze6 l) (h : ∀ e ∈ l, q2b e = 0) : q80 l := by
 refine ⟨fun i e he => h e (List.mem_of_getElem? he), fun i a b ha hb => ?_⟩
 unfold ze6 at hs
 rw [List.getElem?_eq_some_iff] at ha hb
 obtain ⟨h1, rfl⟩ := ha
 obtain ⟨h2, rfl⟩ := hb
 exact List.pairwise_iff_getElem.1 hs i (i + 1) h1 h2 (by omega)
theorem zq3 {ka kb : Ent → Bool} {A B : List Ent} {e : Ent} (h : InM ka kb A B e) : e ∈ A ∨ e ∈ B := by
 rcases h with h | h
 ·exact .inl h.1
 ·exact .inr h.1
theorem qgn {a b : Swt} (ha : FormS a) (hb : FormS b) {M : List Ent} (hM : q32 a b = some M) : q80 M := by
 have h1 := q7r ha hb
 rw [hM] at h1
 exact qd5 h1.2.1 fun e he => (zq3 ((h1.2.2 e).1 he)).elim (q39 ha.live e) (q39 hb.live e)
theorem qgr {a b : Swt} (ha : FormS a) (hb : FormS b) : q3s (q51 a b) := qf5 ha.defer hb.defer
theorem qbh {a b : Swt} (ha : FormS a) (hb : FormS b) {M : List Ent} (hM : q32 a b = some M) : FormS (qbi a b) := by
 have h1 := q7r ha hb
 rw [hM] at h1
 have hMf := qgn ha hb hM
 have hl : (qbi a b).live = q3z (q51 a b) M := by unfold qbi; rw [hM]; rfl
 have he : ∀ e ∈ q3z (q51 a b) M, e ∈ M ∧ ¬ q68 (q51 a b) e := fun e he => by
  unfold q3z at he
  rw [List.mem_filter, decide_eq_true_eq, q5g] at he
  exact he
 refine ⟨?_, q28 _, qce _ (qgr ha hb), ?_, fun r hr => ?_, fun e hem => ?_⟩
 ·rw [hl]
  exact qd5 (h1.2.1.filter _) fun e hem => q39 hMf e (he e hem).1
 ·rw [hl]
  refine q4h.2 fun d hd => ?_
  rw [q6k fun e hem => q39 hMf e (he e hem).1] at hd
  obtain ⟨e, hem, rfl⟩ := hd
  show q1l (q1e [a.past, b.past]) e.dot = true
  rw [q4p, Bool.or_eq_true]
  exact (zq3 ((h1.2.2 e).1 (he e hem).1)).imp (fun h => q4h.1 ha.dots _ ((q6k (q39 ha.live) _).2 ⟨e, h, rfl⟩)) (fun h => q4h.1 hb.dots _ ((q6k (q39 hb.live) _).2 ⟨e, h, rfl⟩))
 ·have : r ∈ q0x (q51 a b) (q1e [a.past, b.past]) := hr
  unfold q0x at this
  rw [List.mem_filter] at this
  show q0n r.past (q1e [a.past, b.past]) = false
  simpa using this.2
 ·rw [hl] at hem
  intro hc
  obtain ⟨r, hr, hcv⟩ := hc
  have : r ∈ q0x (q51 a b) (q1e [a.past, b.past]) := hr
  unfold q0x at this
  rw [List.mem_filter] at this
  exact (he e hem).2 ⟨r, this.1, hcv⟩
open Classical in
noncomputable def fate (s : Swt) (d : Rn) : Int := if q1l s.past d = true then (if q4n s.live d then 1 else 2) else 0
open Classical in
noncomputable def qcm (a b : Swt) : Int := if FormS a ∧ FormS b then (if Clash a.live b.live then 10 else 0) else 1
def noS : Swt := ⟨[], ⟨[], []⟩, []⟩
open Classical in
noncomputable def q86 (a b : Swt) : Swt := if qcm a b = 0 then qbi a b else noS
theorem qqn {a b : Swt} : qcm a b = 0 ↔ FormS a ∧ FormS b ∧ ∃ M, q32 a b = some M := by
 unfold qcm
 constructor
 ·intro h
  split at h
  ·rename_i hf
   split at h
   ·omega
   ·rename_i hc
    refine ⟨hf.1, hf.2, ?_⟩
    cases hm : q32 a b with
    | none => exact absurd ((q91 hf.1 hf.2).1.1 hm) hc
    | some M => exact ⟨M, rfl⟩
  ·omega
 ·rintro ⟨h1, h2, M, hM⟩
  rw [if_pos ⟨h1, h2⟩, if_neg]
  intro hc
  rw [(q91 h1 h2).1.2 hc] at hM
  cases hM
theorem qrt {a b : Swt} (h1 : a.live = b.live) (h2 : a.past = b.past) (h3 : a.defer = b.defer) : a = b := by
 cases a; cases b
 simp only at h1 h2 h3
 rw [h1, h2, h3]
theorem zd5 {a b : Swt} {M : List Ent} (hM : q32 a b = some M) : (qbi a b).live = q3z (q51 a b) M := by unfold qbi; rw [hM]; rfl
theorem zrm {a b : Swt} (ha : FormS a) (hb : FormS b) (e : Ent) : q68 (q51 a b) e ↔ q68 a.defer e ∨ q68 b.defer e := by
 unfold q68 q51
 have hc := qbz ha.defer hb.defer
 constructor
 ·rintro ⟨r, hr, h⟩
  rw [q3u hc, List.mem_append] at hr
  exact hr.imp (fun x => ⟨r, x, h⟩) (fun x => ⟨r, x, h⟩)
 ·rintro (⟨r, hr, h⟩ | ⟨r, hr, h⟩)
  ·exact ⟨r, (q3u hc r).2 (List.mem_append.2 (.inl hr)), h⟩
  ·exact ⟨r, (q3u hc r).2 (List.mem_append.2 (.inr hr)), h⟩
theorem live_mem {a b : Swt} (ha : FormS a) (hb : FormS b) {M : List Ent} (hM : q32 a b = some M) (e : Ent) : e ∈ (qbi a b).live ↔
 ((e ∈ a.live ∧ (q4n b.live e.dot ∨ q1l b.past e.dot = false) ∧ ¬ q68 b.defer e) ∨ (e ∈ b.live ∧ (q4n a.live e.dot ∨ q1l a.past e.dot = false) ∧ ¬ q68 a.defer e)) ∧ ¬ q68 a.defer e ∧ ¬ q68 b.defer e := by
 have h1 := q7r ha hb
 rw [hM] at h1
 rw [zd5 hM]
 unfold q3z
 rw [List.mem_filter, decide_eq_true_eq, q5g, zrm ha hb, h1.2.2 e]
 unfold InM q1i
 rw [Bool.not_eq_true', Bool.not_eq_true']
 constructor
 ·rintro ⟨h | h, hn⟩
  ·exact ⟨.inl ⟨h.1, h.2, fun h' => hn (.inr h')⟩, fun h' => hn (.inl h'), fun h' => hn (.inr h')⟩
  ·exact ⟨.inr ⟨h.1, h.2, fun h' => hn (.inl h')⟩, fun h' => hn (.inl h'), fun h' => hn (.inr h')⟩
 ·rintro ⟨h | h, hn⟩
  ·exact ⟨.inl ⟨h.1, h.2.1⟩, fun h' => h'.elim hn.1 hn.2⟩
  ·exact ⟨.inr ⟨h.1, h.2.1⟩, fun h' => h'.elim hn.1 hn.2⟩


def q1j (f : Fct) : Pst := q1e [q3g f.adds, f.gone]
noncomputable def stF (f : Fct) : Swt := ⟨q85 f.adds f.gone f.recs, q1j f, q0x f.recs (q1j f)⟩
def q6b (f g : Fct) (L : List Ent) : Fct := ⟨L, q1e [f.gone, g.gone], q84 (f.recs ++ g.recs)⟩
theorem q35 (l : List Ent) (p : Pst) (rs : List Rec) (e : Ent) : e ∈ q85 l p rs ↔ e ∈ l ∧ q1l p e.dot = false ∧ ¬ q68 rs e := by
 unfold q85
 rw [List.mem_filter, Bool.and_eq_true, Bool.not_eq_true', decide_eq_true_eq, q5g]
theorem q3c (rs : List Rec) (p : Pst) (r : Rec) : r ∈ q0x rs p ↔ r ∈ rs ∧ q0n r.past p = false := by
 unfold q0x
 rw [List.mem_filter]
 simp
theorem q2n {f : Fct} (hf : FormF f) (d : Rn) : q1l (q1j f) d = true ↔ q4n f.adds d ∨ q1l f.gone d = true := by
 unfold q1j
 rw [q4p, Bool.or_eq_true, q6k (q39 hf.adds)]
theorem quk {f : Fct} (hf : FormF f) : ze6 (q85 f.adds f.gone f.recs) := (q5l hf.adds.2).filter _
theorem qa6 {f : Fct} (hf : FormF f) : FormS (stF f) := by
 refine ⟨qd5 (quk hf) fun e he => q39 hf.adds e ((q35 _ _ _ e).1 he).1, q28 _, qce _ hf.recs, ?_, fun r hr => ((q3c _ _ r).1 hr).2, fun e he hc => ?_⟩
 ·refine q4h.2 fun d hd => ?_
  have hd : q1l (q3g (q85 f.adds f.gone f.recs)) d = true := hd
  rw [q6k fun e he => q39 hf.adds e ((q35 _ _ _ e).1 he).1] at hd
  obtain ⟨e, he, rfl⟩ := hd
  exact (q2n hf _).2 (.inl ⟨e, ((q35 _ _ _ e).1 he).1, rfl⟩)
 ·obtain ⟨r, hr, hcv⟩ := hc
  exact ((q35 _ _ _ e).1 he).2.2 ⟨r, ((q3c _ _ r).1 hr).1, hcv⟩
theorem q9h {f g : Fct} (hf : FormF f) (hg : FormF g) {L : List Ent} (hL : qbu f.adds g.adds = some L) : FormF (q6b f g L) := by
 have h := q8k hf.adds hg.adds
 rw [hL] at h
 exact ⟨qd5 h.2.1 fun e he => ((h.2.2 e).1 he).elim (q39 hf.adds e) (q39 hg.adds e), q28 _, qf5 hf.recs hg.recs⟩
theorem cov_ord {a b : List Rec} (ha : q3s a) (hb : q3s b) (e : Ent) : q68 (q84 (a ++ b)) e ↔ q68 a e ∨ q68 b e := by
 unfold q68
 have hc := qbz ha hb
 constructor
 ·rintro ⟨r, hr, h⟩
  rw [q3u hc, List.mem_append] at hr
  exact hr.imp (fun x => ⟨r, x, h⟩) (fun x => ⟨r, x, h⟩)
 ·rintro (⟨r, hr, h⟩ | ⟨r, hr, h⟩)
  ·exact ⟨r, (q3u hc r).2 (List.mem_append.2 (.inl hr)), h⟩
  ·exact ⟨r, (q3u hc r).2 (List.mem_append.2 (.inr hr)), h⟩
theorem zbp {f : Fct} {e : Ent} (h : ¬ q68 (q0x f.recs (q1j f)) e) (hd : q1l (q1j f) e.dot = false) : ¬ q68 f.recs e := by
 rintro ⟨r, hr, hc⟩
 cases hw : q0n r.past (q1j f) with
 | false => exact h ⟨r, (q3c _ _ r).2 ⟨hr, hw⟩, hc⟩
 | true =>
  have := q4h.1 hw e.dot ((q7x r e).1 hc).2
  rw [hd] at this
  cases this
theorem qrx {f g : Fct} (h : ¬ Clash f.adds g.adds) : ¬ Clash (stF f).live (stF g).live := by
 rintro ⟨a, ha, b, hb, hd, hne⟩
 exact h ⟨a, ((q35 _ _ _ a).1 ha).1, b, ((q35 _ _ _ b).1 hb).1, hd, hne⟩
theorem quj {f g : Fct} (hf : FormF f) (hg : FormF g) {L : List Ent} (hL : qbu f.adds g.adds = some L) :
 (∃ M, q32 (stF f) (stF g) = some M) ∧ qbi (stF f) (stF g) = stF (q6b f g L) := by
 have h := q8k hf.adds hg.adds
 rw [hL] at h
 obtain ⟨hnc, hs, hm⟩ := h
 have sf := qa6 hf
 have sg := qa6 hg
 have hu := q9h hf hg hL
 obtain ⟨M, hM⟩ : ∃ M, q32 (stF f) (stF g) = some M := by
  cases hq : q32 (stF f) (stF g) with
  | none => exact absurd ((q91 sf sg).1.1 hq) (qrx hnc)
  | some M => exact ⟨M, rfl⟩
 refine ⟨⟨M, hM⟩, ?_⟩
 have hjf := qbh sf sg hM
 have hsame : ∀ {a b : Ent}, a ∈ f.adds → b ∈ g.adds → a.dot = b.dot → a = b := fun {a b} ha hb hd => Classical.byContradiction fun hne => hnc ⟨a, ha, b, hb, hd, hne⟩
 refine qrt ?_ ?_ ?_
 ·refine qhr (q5l hjf.live.2) (quk hu) fun e => ?_
  rw [live_mem sf sg hM]
  show _ ↔ e ∈ q85 L (q1e [f.gone, g.gone]) (q84 (f.recs ++ g.recs))
  rw [q35]
  show _ ↔ e ∈ L ∧ q1l (q1e [f.gone, g.gone]) e.dot = false ∧ ¬ q68 (q84 (f.recs ++ g.recs)) e
  rw [hm e, q4p, Bool.or_eq_false_iff, cov_ord hf.recs hg.recs]
  have lf : e ∈ (stF f).live ↔ e ∈ f.adds ∧ q1l f.gone e.dot = false ∧ ¬ q68 f.recs e := q35 _ _ _ e
  have lg : e ∈ (stF g).live ↔ e ∈ g.adds ∧ q1l g.gone e.dot = false ∧ ¬ q68 g.recs e := q35 _ _ _ e
  have pf : q1l (stF f).past e.dot = false → ¬ q4n f.adds e.dot ∧ q1l f.gone e.dot = false := fun h => by
   have := (q2n hf e.dot)
   rw [show q1l (q1j f) e.dot = false from h] at this
   exact ⟨fun h' => absurd (this.2 (.inl h')) (by simp), by cases hh : q1l f.gone e.dot with | false => rfl | true => exact absurd (this.2 (.inr hh)) (by simp)⟩
  have pg : q1l (stF g).past e.dot = false → ¬ q4n g.adds e.dot ∧ q1l g.gone e.dot = false := fun h => by
   have := (q2n hg e.dot)
   rw [show q1l (q1j g) e.dot = false from h] at this
   exact ⟨fun h' => absurd (this.2 (.inl h')) (by simp), by cases hh : q1l g.gone e.dot with | false => rfl | true => exact absurd (this.2 (.inr hh)) (by simp)⟩
  constructor
  ·rintro ⟨h1 | h1, c1, c2⟩
   ·obtain ⟨a1, a2, a3⟩ := lf.1 h1.1
    rcases h1.2.1 with hd | hd
    ·obtain ⟨x, hx, hxd⟩ := hd
     obtain ⟨b1, b2, b3⟩ := (q35 _ _ _ x).1 hx
     have := hsame a1 b1 hxd.symm
     subst this
     exact ⟨.inl a1, ⟨a2, b2⟩, fun h => h.elim a3 b3⟩
    ·obtain ⟨b1, b2⟩ := pg hd
     exact ⟨.inl a1, ⟨a2, b2⟩, fun h => h.elim a3 (zbp c2 hd)⟩
   ·obtain ⟨a1, a2, a3⟩ := lg.1 h1.1
    rcases h1.2.1 with hd | hd
    ·obtain ⟨x, hx, hxd⟩ := hd
     obtain ⟨b1, b2, b3⟩ := (q35 _ _ _ x).1 hx
     have := hsame b1 a1 hxd
     subst this
     exact ⟨.inr a1, ⟨b2, a2⟩, fun h => h.elim b3 a3⟩
    ·obtain ⟨b1, b2⟩ := pf hd
     exact ⟨.inr a1, ⟨b2, a2⟩, fun h => h.elim (zbp c1 hd) a3⟩
  ·rintro ⟨h1, ⟨g1, g2⟩, hc⟩
   have c1 : ¬ q68 f.recs e := fun h => hc (.inl h)
   have c2 : ¬ q68 g.recs e := fun h => hc (.inr h)
   have w1 : ¬ q68 (stF f).defer e := fun ⟨r, hr, h⟩ => c1 ⟨r, ((q3c _ _ r).1 hr).1, h⟩
   have w2 : ¬ q68 (stF g).defer e := fun ⟨r, hr, h⟩ => c2 ⟨r, ((q3c _ _ r).1 hr).1, h⟩
   refine ⟨?_, w1, w2⟩
   rcases h1 with h1 | h1
   ·refine .inl ⟨lf.2 ⟨h1, g1, c1⟩, ?_, w2⟩
    cases hp : q1l (stF g).past e.dot with
    | false => exact .inr rfl
    | true =>
     rcases (q2n hg e.dot).1 hp with ⟨x, hx, hxd⟩ | h2
     ·have := hsame h1 hx hxd.symm
      subst this
      exact .inl ⟨e, lg.2 ⟨hx, g2, c2⟩, rfl⟩
     ·rw [g2] at h2; cases h2
   ·refine .inr ⟨lg.2 ⟨h1, g2, c2⟩, ?_, w1⟩
    cases hp : q1l (stF f).past e.dot with
    | false => exact .inr rfl
    | true =>
     rcases (q2n hf e.dot).1 hp with ⟨x, hx, hxd⟩ | h2
     ·have := hsame hx h1 hxd
      subst this
      exact .inl ⟨x, lf.2 ⟨hx, g1, c1⟩, rfl⟩
     ·rw [g1] at h2; cases h2
 ·refine qbl (q28 _) (q28 _) fun d => ?_
  show q1l (q1e [q1j f, q1j g]) d = true ↔ q1l (q1j (q6b f g L)) d = true
  rw [q4p, Bool.or_eq_true, q2n hf, q2n hg, q2n hu]
  show _ ↔ q4n L d ∨ q1l (q1e [f.gone, g.gone]) d = true
  rw [q4p, Bool.or_eq_true]
  have : q4n L d ↔ q4n f.adds d ∨ q4n g.adds d := by
   unfold q4n
   constructor
   ·rintro ⟨e, he, hd⟩
    exact ((hm e).1 he).imp (fun h => ⟨e, h, hd⟩) (fun h => ⟨e, h, hd⟩)
   ·rintro (⟨e, he, hd⟩ | ⟨e, he, hd⟩)
    ·exact ⟨e, (hm e).2 (.inl he), hd⟩
    ·exact ⟨e, (hm e).2 (.inr he), hd⟩
  rw [this]
  exact or_or_or_comm
 ·have hp : q1e [q1j f, q1j g] = q1j (q6b f g L) := by
   refine qbl (q28 _) (q28 _) fun d => ?_
   rw [q4p, Bool.or_eq_true, q2n hf, q2n hg, q2n hu]
   show _ ↔ q4n L d ∨ q1l (q1e [f.gone, g.gone]) d = true
   rw [q4p, Bool.or_eq_true]
   have : q4n L d ↔ q4n f.adds d ∨ q4n g.adds d := by
    unfold q4n
    constructor
    ·rintro ⟨e, he, hd⟩
     exact ((hm e).1 he).imp (fun h => ⟨e, h, hd⟩) (fun h => ⟨e, h, hd⟩)
    ·rintro (⟨e, he, hd⟩ | ⟨e, he, hd⟩)
     ·exact ⟨e, (hm e).2 (.inl he), hd⟩
     ·exact ⟨e, (hm e).2 (.inr he), hd⟩
   rw [this]
   exact or_or_or_comm
  refine SrtR.ext (q8h hjf.defer) ((q8u _).filter _) fun r => ?_
  show r ∈ q0x (q84 (q0x f.recs (q1j f) ++ q0x g.recs (q1j g))) (q1e [q1j f, q1j g]) ↔ r ∈ q0x (q84 (f.recs ++ g.recs)) (q1j (q6b f g L))
  rw [hp, q3c, q3c, q3u (qbz hf.recs hg.recs), q3u (show ∀ y ∈ q0x f.recs (q1j f) ++ q0x g.recs (q1j g), q96 y from qbz sf.defer sg.defer), List.mem_append, List.mem_append, q3c, q3c]
  have wf : q0n (q1j f) (q1j (q6b f g L)) = true := by rw [← hp]; exact qju _ _
  have wg : q0n (q1j g) (q1j (q6b f g L)) = true := by rw [← hp]; exact qjt _ _
  constructor
  ·rintro ⟨h1, h2⟩
   exact ⟨h1.imp And.left And.left, h2⟩
  ·rintro ⟨h1, h2⟩
   refine ⟨h1.imp (fun h => ⟨h, ?_⟩) (fun h => ⟨h, ?_⟩), h2⟩
   ·cases hw : q0n r.past (q1j f) with
    | false => rfl
    | true => rw [qc3 hw wf] at h2; cases h2
   ·cases hw : q0n r.past (q1j g) with
    | false => rfl
    | true => rw [qc3 hw wg] at h2; cases h2

def Wkn (x y : AVal) : Prop := ∀ (D : Nat → Nat → Prop) (G : Gh) (B : Nat → Prop) (w : World) (v : Value), VR D G B w x v → VR D G B w y v
theorem Wkn.refl (x : AVal) : Wkn x x := fun _ _ _ _ _ h => h
theorem Wkn.nil (sz : Nat) : Wkn .nil (.sl sz []) := fun D G B w v h => by
 cases h
 exact .slnil sz
def Wkns : List AVal → List AVal → Prop
 | [], [] => True
 | a :: l, b :: m => Wkn a b ∧ Wkns l m
 | _, _ => False
theorem Wkns.len : ∀ {l m : List AVal}, Wkns l m → l.length = m.length
 | [], [], _ => rfl
 | a :: l, b :: m, h => by rw [List.length_cons, List.length_cons, Wkns.len h.2]
 | [], _ :: _, h => h.elim
 | _ :: _, [], h => h.elim
theorem Wkns.get : ∀ {l m : List AVal}, Wkns l m → ∀ (i : Nat) (y : AVal), m[i]? = some y → ∃ x, l[i]? = some x ∧ Wkn x y
 | [], [], _, i, y, h => by simp at h
 | a :: l, b :: m, hw, 0, y, h => by
  simp only [List.getElem?_cons_zero, Option.some.injEq] at h
  subst h
  exact ⟨a, rfl, hw.1⟩
 | a :: l, b :: m, hw, i + 1, y, h => by
  obtain ⟨x, hx, hxy⟩ := Wkns.get hw.2 i y (by simpa using h)
  exact ⟨x, by simpa using hx, hxy⟩
 | [], _ :: _, h, _, _, _ => h.elim
 | _ :: _, [], h, _, _, _ => h.elim
theorem Wkns.refl : ∀ l : List AVal, Wkns l l
 | [] => trivial
 | a :: l => ⟨Wkn.refl a, Wkns.refl l⟩
theorem Wkn.agg {l m : List AVal} (h : Wkns l m) : Wkn (.agg l) (.agg m) := fun D G B w v hv => by
 cases hv with
 | agg cs vs hl hh =>
  refine .agg m vs (by rw [hl, h.len]) fun n x u hx hu => ?_
  obtain ⟨y, hy, hyx⟩ := h.get n x hx
  exact hyx D G B w u (hh n y u hy hu)
theorem Ev.wks {P : Program} {f : FuncId} {l m : List AVal} {out : Out} (he : Ev P f m out) (h : Wkns l m) : Ev P f l out :=
 ⟨he.1, fun B w vs G ho hs hv hb => he.2 B w vs G ho (by rw [hs, h.len]) (fun i y v hy hvv => by
  obtain ⟨x, hx, hxy⟩ := h.get i y hy
  exact hxy _ G B w v (hv i x v hx hvv)) hb⟩

theorem Wkn.sl {sz : Nat} {xs ys : List AVal} (hl : xs.length = ys.length) (hf : Wkns (flat xs) (flat ys)) (h1 : ∀ x ∈ flat ys, x.one = true) (h2 : ∀ x ∈ ys, x.cells.length = sz) : Wkn (.sl sz xs) (.sl sz ys) := fun D G B w v h => by
 cases h with
 | slnil =>
  have : ys = [] := List.length_eq_zero_iff.1 hl.symm
  subst this
  exact .slnil sz
 | slemp _ a cap =>
  have : ys = [] := List.length_eq_zero_iff.1 hl.symm
  subst this
  exact .slemp sz a cap
 | sl _ _ b off cap f hcap hB hone hsz hc hv =>
  have hne : flat ys ≠ [] → flat xs ≠ [] := fun h h' => h (List.length_eq_zero_iff.1 (by rw [← hf.len, h']; rfl))
  have hg := fun n y (hy : (flat ys)[n]? = some y) => hf.get n y hy
  rw [hl]
  refine .sl sz ys b off cap f (by omega) (fun h => hB (hne h)) h1 h2 (fun n y hy => ?_) (fun n y hy => ?_)
  ·obtain ⟨x, hx, _⟩ := hg n y hy
   exact hc n x hx
  ·obtain ⟨x, hx, hxy⟩ := hg n y hy
   exact hxy D G B w _ (hv n x hx)
def sA : ByteArray := ⟨#[65]⟩
def sa : ByteArray := ⟨#[97]⟩
theorem rows0 : (q0m [⟨[], []⟩]).map q10 = [[], [], [], [], [], [], [], [], [], [], [], [], [], [], [], []] := by
 have h : q0m [⟨[], []⟩] = [[], [], [], [], [], [], [], [], [], [], [], [], [], [], [], []] := by decide
 rw [h]
 have n0 : q10 [] = [] := q4u Can.nil
 simp only [List.map_cons, List.map_nil, n0]
theorem kpe_size : q2x ⟨[], []⟩ = 0 := by
 unfold q2x q2e
 simp only [qqd, rows0]
 rfl
theorem good_A : q88 sA = true := by decide +kernel

theorem qr2 : Tryz.prog.cellsOf 9 = 1 := by kernel_rfl
theorem qr3 : Tryz.prog.cellsOf 91 = 3 := by kernel_rfl
theorem qr5 : Tryz.prog.cellsOf 62 = 4 := by kernel_rfl
theorem qha : Tryz.prog.cellsOf 27 = 1 := by kernel_rfl
theorem qhb : Tryz.prog.cellsOf 22 = 1 := by kernel_rfl
theorem op_str : Opens Tryz.prog 9 ByteArray (fun _ => True) (fun s => [.str s]) (fun s => s.size + 1) := Opens.string Tryz.underlying9
def okK (r : Rec) : Prop := okP r.past
def cellsK (r : Rec) : List AVal := [.str r.sku, .sl 1 (q04 r.past.vec), .sl 3 (q0c r.past.cloud)]
theorem op_Rec : Opens Tryz.prog 91 Rec okK cellsK wtK :=
 (Opens.struct Tryz.underlying91 qr3 (OpensF.cons (k := 1) op_str (fun _ => rfl) qr2 rfl (OpensF.cons (k := 2) qs5 (fun _ => rfl) q94 rfl (OpensF.nil _)))).map
  (fun x => ⟨x.1, x.2.1⟩) (fun x h => h.2.1) (fun _ => rfl) (fun x => by show wt x.2.1 + 1 ≤ x.1.size + 1 + (wt x.2.1 + 0) + 1; omega)
theorem zp2 : Opens Tryz.prog 27 (List Rec) (fun l => ∀ x ∈ l, okK x) (fun l => [.sl 3 (q08 l)]) (wtL wtK) :=
 Opens.slice (mk := q4w) Tryz.underlying27 op_Rec qr3 (by decide) (fun _ => rfl) (fun _ => rfl) (fun x y hy => by simp [cellsK] at hy; rcases hy with rfl | rfl | rfl <;> rfl)
def okE (e : Ent) : Prop := True
def cellsE (e : Ent) : List AVal := [.int .i64 e.rep, .int .i64 e.num, .str e.sku, .int .i64 e.qty]
theorem op_Ent : Opens Tryz.prog 62 Ent okE cellsE (fun _ => 1) :=
 (Opens.struct Tryz.underlying62 qr5 (OpensF.cons (k := 2) op_Dot (fun _ => rfl) qr6 rfl (OpensF.cons (k := 1) op_str (fun _ => rfl) qr2 rfl (OpensF.cons (k := 1) q9c (fun _ => rfl) q3r rfl (OpensF.nil _))))).map
  (fun x => ⟨x.1.1, x.1.2, x.2.1, x.2.2.1⟩) (fun x h => trivial) (fun _ => rfl) (fun _ => Nat.le_add_left _ _)
theorem zp5 : Opens Tryz.prog 22 (List Ent) (fun l => ∀ x ∈ l, okE x) (fun l => [.sl 4 (q0a l)]) (wtL fun _ => 1) :=
 Opens.slice (mk := qcn) Tryz.underlying22 op_Ent qr5 (by decide) (fun _ => rfl) (fun _ => rfl) (fun x y hy => by simp [cellsE] at hy; rcases hy with rfl | rfl | rfl | rfl <;> rfl)
structure CasK where
 r : List Rec
 q : List Rec
 a : List Ent
 b : List Ent
 p : Pst
 o : Pst

theorem qbd : ∀ (ka kb : Ent → Bool) (n : Nat) (A B : List Ent), (qft (q6z ka kb n A B)).length ≤ A.length + B.length
 | ka, kb, 0, A, B => by simp [q6z, qft]
 | ka, kb, n + 1, [], [] => by simp [q6z, qft]
 | ka, kb, n + 1, a :: A, [] => by
  have ih := qbd ka kb n A []
  unfold q6z
  cases h : q6z ka kb n A [] with
  | none => simp [qft]
  | some L => rw [h] at ih; simp only [qft, Option.map_some, List.length_append, List.length_cons, List.length_nil, qgk] at *; split <;> simp at * <;> omega
 | ka, kb, n + 1, [], b :: B => by
  have ih := qbd ka kb n [] B
  unfold q6z
  cases h : q6z ka kb n [] B with
  | none => simp [qft]
  | some L => rw [h] at ih; simp only [qft, Option.map_some, List.length_append, List.length_cons, List.length_nil, qgk] at *; split <;> simp at * <;> omega
 | ka, kb, n + 1, a :: A, b :: B => by
  unfold q6z
  split
  ·have ih := qbd ka kb n A (b :: B)
   cases h : q6z ka kb n A (b :: B) with
   | none => simp [qft]
   | some L => rw [h] at ih; simp only [qft, Option.map_some, List.length_append, List.length_cons, qgk] at *; split <;> simp at * <;> omega
  ·split
   ·have ih := qbd ka kb n (a :: A) B
    cases h : q6z ka kb n (a :: A) B with
    | none => simp [qft]
    | some L => rw [h] at ih; simp only [qft, Option.map_some, List.length_append, List.length_cons, qgk] at *; split <;> simp at * <;> omega
   ·split
    ·have ih := qbd ka kb n A B
     cases h : q6z ka kb n A B with
     | none => simp [qft]
     | some L => rw [h] at ih; simp only [qft, Option.map_some, List.length_cons] at *; omega
    ·simp [qft]

theorem qs4 {l : List Rec} (h : q3s l) : q84 l = l := (q8d (fun r hr => (q37 h r hr).1) (q8h h) fun x => Iff.rfl).symm
theorem zpi {a b : List Rec} (ha : q3s a) (hb : q3s b) : qck a b = q84 (a ++ b) := by
 have h := mrgR_ord (qbz ha hb) (a := a) (b := b) fun x => List.mem_append
 rw [qs4 ha, qs4 hb] at h
 exact h
theorem q5c {a b : Swt} (h : qcm a b = 0) : q86 a b = qbi a b := if_pos h
theorem qf1 {a b : Swt} (h : ¬ qcm a b = 0) : q86 a b = noS := if_neg h
def wtS (s : Swt) : Nat := s.live.length + wt s.past + q4y s.defer
def wtF (f : Fct) : Nat := f.adds.length + wt f.gone + q4y f.recs
theorem qde (p : Rec → Bool) (l : List Rec) : q4y (l.filter p) ≤ q4y l := q7l ((List.filter_sublist (p := p) (l := l)).map wtK)
theorem zay (ka kb : Ent → Bool) {A B : List Ent} : ∀ n, (qft (q6z ka kb n A B)).length ≤ A.length + B.length := fun n => qbd ka kb n A B
theorem zb8 (a b : Swt) : wtS (qbi a b) ≤ 16 + wtS a + wtS b := by
 unfold wtS qbi
 have h1 : (q3z (q51 a b) (qft (q32 a b))).length ≤ a.live.length + b.live.length := Nat.le_trans (List.length_filter_le _ _) (zay _ _ _)
 have h2 := q59 [a.past, b.past]
 have h3 : q4y (q0x (q51 a b) (q1e [a.past, b.past])) ≤ q4y a.defer + q4y b.defer := by
  refine Nat.le_trans (qde _ _) (Nat.le_trans (qct _) ?_)
  rw [qhk]
  exact Nat.le_refl _
 simp only [List.map_cons, List.map_nil, List.sum_cons, List.sum_nil] at h2
 simp only
 omega

abbrev NC (a b : Swt) : Prop := ¬ Clash a.live b.live
theorem zdt {A B : List Ent} (h : Clash A B) : Clash B A := by
 obtain ⟨a, ha, b, hb, hd, hne⟩ := h
 exact ⟨b, hb, a, ha, hd.symm, fun e => hne e.symm⟩
theorem NC.symm {a b : Swt} (h : NC a b) : NC b a := fun hc => h (zdt hc)
theorem zdc {l : List Ent} (h : q80 l) {a b : Ent} (ha : a ∈ l) (hb : b ∈ l) (hd : a.dot = b.dot) : a = b := by
 have hs : ze6 l := q5l h.2
 obtain ⟨i, hi⟩ := List.mem_iff_getElem?.1 ha
 obtain ⟨j, hj⟩ := List.mem_iff_getElem?.1 hb
 have lt_of : ∀ {i j : Nat} {a b : Ent}, l[i]? = some a → l[j]? = some b → i < j → q3h a.dot b.dot = true := fun {i j a b} hi hj hij => by
  obtain ⟨h1, e1⟩ := List.getElem?_eq_some_iff.1 hi
  obtain ⟨h2, e2⟩ := List.getElem?_eq_some_iff.1 hj
  have := List.pairwise_iff_getElem.1 hs i j h1 h2 hij
  rw [e1, e2] at this
  exact this
 rcases Nat.lt_trichotomy i j with h' | h' | h'
 ·have := lt_of hi hj h'; exact absurd hd (q5x this)
 ·subst h'; rw [hi] at hj; exact Option.some.inj hj
 ·have := lt_of hj hi h'; exact absurd hd.symm (q5x this)
theorem fct_ext {f g : Fct} (hf : FormF f) (hg : FormF g) (h1 : ∀ e, e ∈ f.adds ↔ e ∈ g.adds) (h2 : ∀ d, q1l f.gone d = true ↔ q1l g.gone d = true) (h3 : ∀ r, r ∈ f.recs ↔ r ∈ g.recs) : f = g := by
 have e1 : f.adds = g.adds := qhr (q5l hf.adds.2) (q5l hg.adds.2) h1
 have e2 : f.gone = g.gone := qbl hf.gone hg.gone h2
 have e3 : f.recs = g.recs := by
  rw [← qs4 hg.recs]
  exact q8d (fun y hy => (q37 hg.recs y hy).1) (q8h hf.recs) h3
 cases f; cases g
 simp only at e1 e2 e3
 rw [e1, e2, e3]
theorem zc8 {f g : Fct} (hf : FormF f) (hg : FormF g) {L : List Ent} (hL : qbu f.adds g.adds = some L) (e : Ent) : e ∈ (q6b f g L).adds ↔ e ∈ f.adds ∨ e ∈ g.adds := by
 have h := q8k hf.adds hg.adds
 rw [hL] at h
 exact h.2.2 e
theorem zc7 (f g : Fct) (L : List Ent) (d : Rn) : q1l (q6b f g L).gone d = true ↔ q1l f.gone d = true ∨ q1l g.gone d = true := by
 show q1l (q1e [f.gone, g.gone]) d = true ↔ _
 rw [q4p, Bool.or_eq_true]
theorem zc6 {f g : Fct} (hf : FormF f) (hg : FormF g) (L : List Ent) (r : Rec) : r ∈ (q6b f g L).recs ↔ r ∈ f.recs ∨ r ∈ g.recs := by
 show r ∈ q84 (f.recs ++ g.recs) ↔ _
 rw [q3u (qbz hf.recs hg.recs), List.mem_append]
theorem qar {f g : Fct} (hf : FormF f) (hg : FormF g) (h : ¬ Clash f.adds g.adds) : ∃ L, qbu f.adds g.adds = some L := by
 have hs := q8k hf.adds hg.adds
 cases hL : qbu f.adds g.adds with
 | none => rw [hL] at hs; exact absurd hs h
 | some L => exact ⟨L, rfl⟩
structure JF (s : Swt) (f : Fct) : Prop where
 form : FormF f
 st : stF f = s
theorem JF.formS {s : Swt} {f : Fct} (h : JF s f) : FormS s := h.st ▸ qa6 h.form
theorem JF.join {a b : Swt} {f g : Fct} (ha : JF a f) (hb : JF b g) (nc : ¬ Clash f.adds g.adds) :
 ∃ L, qbu f.adds g.adds = some L ∧ JF (qbi a b) (q6b f g L) ∧ ∃ M, q32 a b = some M := by
 obtain ⟨L, hL⟩ := qar ha.form hb.form nc
 obtain ⟨hM, hj⟩ := quj ha.form hb.form hL
 rw [ha.st, hb.st] at hM hj
 exact ⟨L, hL, ⟨q9h ha.form hb.form hL, hj.symm⟩, hM⟩

def zj6 : List SOp := [zO 2 (.assign (.const (.slice none 0 0)))]
instance : Live zj6 := ⟨[0]⟩
def zj5 : List SOp := [zM 3 0,zO 4 (.binOp .eql 22 (.tmp 3) (.const (.slice none 0 0)) 22)]
instance : Live zj5 := ⟨[0]⟩
def zj4 : List SOp := [zO 2 (.assign (.const (.slice none 0 0)))]
instance : Live zj4 := ⟨[]⟩
def zj3 : List SOp := [zO 5 (.buildSlice 22 0 #[]),zM 6 0,zO 7 (.call ⟨.builtin .append,#[.tmp 5,.tmp 6],#[22,22]⟩),zG 2 7]
instance : Live zj3 := ⟨[0]⟩
def t_k63 : SC :=
 (.seq (.ops false zj6) (.seq (.seq (.ops false zj5) (.cond (.tmp 4) (.seq (.ops false zj4) .ret) .skip)) (.seq (.ops false zj3) .ret)))
theorem it_k63 : FnIs Tryz.prog 63 8 [.tmp 2] t_k63 := ⟨Tryz.f63, _, Tryz.func63, rfl, rfl, rfl, rfl, by kernel_rfl⟩

def zfz : List SOp := [zO 2 (.assign (.const (.slice none 0 0)))]
instance : Live zfz := ⟨[0]⟩
def zfy : List SOp := [zM 3 0,zO 4 (.binOp .eql 27 (.tmp 3) (.const (.slice none 0 0)) 27)]
instance : Live zfy := ⟨[0]⟩
def zfx : List SOp := [zO 2 (.assign (.const (.slice none 0 0)))]
instance : Live zfx := ⟨[]⟩
def zfw : List SOp := [zO 5 (.buildSlice 27 0 #[]),zM 6 0,zO 7 (.call ⟨.builtin .append,#[.tmp 5,.tmp 6],#[27,27]⟩),zG 2 7]
instance : Live zfw := ⟨[0]⟩
def t_k95 : SC :=
 (.seq (.ops false zfz) (.seq (.seq (.ops false zfy) (.cond (.tmp 4) (.seq (.ops false zfx) .ret) .skip)) (.seq (.ops false zfw) .ret)))
theorem it_k95 : FnIs Tryz.prog 95 8 [.tmp 2] t_k95 := ⟨Tryz.f95, _, Tryz.func95, rfl, rfl, rfl, rfl, by kernel_rfl⟩

def zln : List SOp := [zO 2 (.alloc 26),zO 3 (.assign (.const (.int .i64 0)))]
instance : Live zln := ⟨[0]⟩
def zlm : List SOp := [zM 7 0,zO 8 (.call ⟨.value (.func 53),#[.tmp 7],#[22]⟩),zO 9 (.binOp .neq 32 (.tmp 8) (.const (.int .i64 0)) 32)]
instance : Live zlm := ⟨[0,2]⟩
def zll : List SOp := [zO 10 (.build 26 #[]),⟨none,.store 26 (.tmp 2) (.tmp 10),none⟩,zO 3 (.assign (.const (.int .i64 1)))]
instance : Live zll := ⟨[2]⟩
def zlk : List SOp := [zM 11 0,zO 12 (.call ⟨.builtin .len,#[.tmp 11],#[22]⟩),zO 13 (.makeSlice 38 (.tmp 12) (.tmp 12)),zG 4 13]
instance : Live zlk := ⟨[0,2]⟩
def zlj : List SOp := [zM 14 0,zO 15 (.call ⟨.builtin .len,#[.tmp 14],#[22]⟩),zO 16 (.move (.const (.int .i64 0)))]
instance : Live zlj := ⟨[0,2,4]⟩
def zli : List SOp := [zO 17 (.binOp .lss 3 (.tmp 16) (.tmp 15) 3)]
instance : Live zli := ⟨[2,4,14,15,16]⟩
def zlh : List SOp := [zM 18 16,zI 19 22 14 16,zL 20 62 19,zO 6 (.alloc 62),zG 5 18,⟨none,.store 62 (.tmp 6) (.tmp 20),none⟩]
instance : Live zlh := ⟨[2,4,14,15,16]⟩
def zlg : List SOp := [zM 21 4,zM 22 5,zF 23 62 6 0,zL 24 41 23,zI 25 38 21 22,⟨none,.store 41 (.tmp 25) (.tmp 24),none⟩]
instance : Live zlg := ⟨[2,4,5,6,14,15,16]⟩
def zlf : List SOp := [zO 26 (.binOp .add 3 (.tmp 16) (.const (.int .i64 1)) 3),zM 16 26]
instance : Live zlf := ⟨[2,4,14,15,16]⟩
def qwj : List SOp := [zM 27 4,zO 28 (.call ⟨.value (.func 94),#[.tmp 27],#[38]⟩),⟨none,.store 26 (.tmp 2) (.tmp 28),none⟩,zO 3 (.assign (.const (.int .i64 0)))]
instance : Live qwj := ⟨[2,4]⟩
def qu7 : SC :=
 (.seq (.ops false zli) (.seq (.cond (.tmp 17) .skip (.exit 0)) (.seq (.block 1 (.seq (.ops false zlh) (.ops false zlg))) (.ops false zlf))))
def t_k47 : SC :=
 (.seq (.ops false zln) (.seq (.seq (.ops false zlm) (.cond (.tmp 9) (.seq (.ops false zll) .ret) .skip)) (.seq (.ops false zlk) (.seq (.seq (.ops false zlj) (.block 0 (.loop qu7))) (.seq (.ops false qwj) .ret)))))
theorem it_k47 : FnIs Tryz.prog 47 29 [.cell 2 26, .tmp 3] t_k47 := ⟨Tryz.f47, _, Tryz.func47, rfl, rfl, rfl, rfl, by kernel_rfl⟩

def zle : List SOp := [zO 1 (.box 31 (.tmp 0)),zO 2 (.alloc 31)]
instance : Live zle := ⟨[0]⟩
def zld : List SOp := [zF 6 31 1 0,zL 7 22 6,zO 8 (.call ⟨.value (.func 63),#[.tmp 7],#[22]⟩),zF 9 31 1 1,zL 10 26 9,zO 11 (.call ⟨.value (.func 64),#[.tmp 10],#[26]⟩),zF 12 31 1 2,zL 13 27 12,zO 14 (.call ⟨.value (.func 95),#[.tmp 13],#[27]⟩),zO 15 (.build 31 #[(0,.tmp 8),(1,.tmp 11),(2,.tmp 14)]),zO 3 (.alloc 31),⟨none,.store 31 (.tmp 3) (.tmp 15),none⟩]
instance : Live zld := ⟨[1,2]⟩
def zlc : List SOp := [zF 16 31 3 2,zL 17 27 16,zO 18 (.call ⟨.builtin .len,#[.tmp 17],#[27]⟩),zO 19 (.move (.const (.int .i64 0)))]
instance : Live zlc := ⟨[2,3]⟩
def zlb : List SOp := [zO 20 (.binOp .lss 3 (.tmp 19) (.tmp 18) 3)]
instance : Live zlb := ⟨[2,3,17,18,19]⟩
def zla : List SOp := [zM 21 19,zI 22 27 17 19,zL 23 91 22,zO 5 (.alloc 91),zG 4 21,⟨none,.store 91 (.tmp 5) (.tmp 23),none⟩]
instance : Live zla := ⟨[2,3,17,18,19]⟩
def zl9 : List SOp := [zF 24 31 3 2,zL 25 27 24,zM 26 4,zF 27 91 5 1,zL 28 26 27,zO 29 (.call ⟨.value (.func 64),#[.tmp 28],#[26]⟩),zI 30 27 25 26,zF 31 91 30 1,⟨none,.store 26 (.tmp 31) (.tmp 29),none⟩]
instance : Live zl9 := ⟨[2,3,4,5,17,18,19]⟩
def zl8 : List SOp := [zO 32 (.binOp .add 3 (.tmp 19) (.const (.int .i64 1)) 3),zM 19 32]
instance : Live zl8 := ⟨[2,3,17,18,19]⟩
def zl7 : List SOp := [zL 33 31 3,⟨none,.store 31 (.tmp 2) (.tmp 33),none⟩]
instance : Live zl7 := ⟨[2,3]⟩
def qu6 : SC :=
 (.seq (.ops false zlb) (.seq (.cond (.tmp 20) .skip (.exit 0)) (.seq (.block 1 (.seq (.ops false zla) (.ops true zl9))) (.ops false zl8))))
def t_k48 : SC :=
 (.seq (.ops false zle) (.seq (.ops true zld) (.seq (.seq (.ops false zlc) (.block 0 (.loop qu6))) (.seq (.ops false zl7) .ret))))
theorem it_k48 : FnIs Tryz.prog 48 34 [.cell 2 31] t_k48 := ⟨Tryz.f48, _, Tryz.func48, rfl, rfl, rfl, rfl, by kernel_rfl⟩

def q40 (s : Swt) : AVal := .agg [.sl 4 (q0a s.live), .sl 1 (q04 s.past.vec), .sl 3 (q0c s.past.cloud), .sl 3 (q08 s.defer)]
def q5e (f : Fct) : AVal := .agg [.sl 4 (q0a f.adds), .sl 1 (q04 f.gone.vec), .sl 3 (q0c f.gone.cloud), .sl 3 (q08 f.recs)]
theorem q81 (a : List Ent) (v : List Int) (c : List Sn) (r : List Rec) : q0k [AVal.sl 4 (q0a a), .sl 1 (q04 v), .sl 3 (q0c c), .sl 3 (q08 r)] = true := by simp [q0k, AVal.stb, q03, q05, q02, q09]
theorem q3f (s : Swt) : (q40 s).stb = true := q81 _ _ _ _
theorem qav (s : Fct) : (q5e s).stb = true := q81 _ _ _ _
theorem qc8 : (∀ e, (qcn e).stb = true) ∧ (∀ r, (q4w r).stb = true) ∧ (∀ l, q0k (q0a l) = true) ∧ (∀ l, q0k (q08 l) = true) ∧ (∀ s, (q40 s).stb = true) ∧ (∀ s, (q5e s).stb = true) := ⟨qjc, qja, q09, q02, q3f, qav⟩
theorem Wk.cells_nil {n : Nat} {T : q25} {M : Mem} {k : Nat} {cs ds : List AVal} (hk : M k = some (.cells cs)) (h : qd1 cs ds) : Wk n ⟨T, M⟩ ⟨T, upd M k (some (.cells ds))⟩ := by
 intro B G a w hR
 obtain ⟨c, el, b1, b2, b3, b4, b5⟩ := hR.mem k _ hk
 have hD : ∀ j e, Dm M j e → Dm (upd M k (some (.cells ds))) j e := fun j e => q66 (by rw [hk]; trivial)
 have hw : ∀ b, b < w.heap.size → ¬ B b → G.ow b = none → w.heap[b]? = w.heap[b]? ∧ ¬ B b ∧ G.ow b = none := fun b _ hn ho => ⟨rfl, hn, ho⟩
 refine ⟨G, hR.update (.refl G w) k (.cells ds) (by show ze5 (M k) _; rw [hk]; trivial) (fun _ _ _ => ⟨rfl, rfl⟩) (fun b key _ _ ho _ => ⟨rfl, ho⟩) (fun b hb => hR.ol b hb) ?_, .refl G w⟩
 refine ⟨c, el, b1, b2, b3, by rw [b4, qd0 h], fun i y hy => ?_⟩
 obtain ⟨x, hx, hs⟩ := qhp h hy
 obtain ⟨u, hu, hr⟩ := b5 i x hx
 refine ⟨u, hu, ?_⟩
 rcases hs with rfl | ⟨rfl, sz, rfl⟩
 ·cases x with
  | own sz' xs' => exact OwnAt.mono hD (fun _ _ _ => ⟨rfl, rfl⟩) hw (fun b _ hb2 hb3 => ⟨rfl, hb2, hb3⟩) hr
  | hole => trivial
  | _ => exact VR.mono hD (fun _ _ _ => ⟨rfl, rfl⟩) hw hr
 ·have hr : VR (Dm M) G B w .nil u := hr
  cases hr
  exact .slnil sz
theorem sub4 : qd1 [.nil, .nil, .nil, .nil] [.sl 4 [], .sl 1 [], .sl 3 [], .sl 3 []] := ⟨.inr ⟨rfl, 4, rfl⟩, .inr ⟨rfl, 1, rfl⟩, .inr ⟨rfl, 3, rfl⟩, .inr ⟨rfl, 3, rfl⟩, trivial⟩
theorem sub2 : qd1 [.nil, .nil] [.sl 1 [], .sl 3 []] := ⟨.inr ⟨rfl, 1, rfl⟩, .inr ⟨rfl, 3, rfl⟩, trivial⟩
theorem qsw (l : List Ent) (hl : l.length ≤ 100000000) : Ev (En Tryz.prog rfl).P 63 [.sl 4 (q0a l)] (.ret (.sl 4 (q0a l))) := by
 refine Ev.of_body it_k63 (by simp) (Run.start ?_)
 unfold t_k63
 cases l with
 | nil =>
  have e0 : q0a [] = [] := rfl
  rw [e0]
  (have hF := True.intro; refine q1a (k:=?_); clear hF)
  refine q4q (Hook.nil_eq (En Tryz.prog rfl).hT (sz := 4) TE_22 (by simp only [opS, opA, ev, cst, upd, evs, evp, q87, qbk, NoM, qb3, qfs, zse, Option.getD, Option.map_some, Option.map_none, List.map_cons, List.map_nil, List.getElem?_cons_zero, List.getElem?_cons_succ, List.getElem?_nil, List.all_cons, List.all_nil, List.length_cons, List.length_nil, List.take_succ_cons, List.take_zero, List.drop_succ_cons, List.drop_zero, List.set_cons_zero, List.set_cons_succ, List.cons_append, List.nil_append, List.append_nil, List.toList_toArray, q6o, zea, q97, q5k, q2u, q75, qaf, q1f, q73, q9g, q89, q8c, q4z, qrn, q7e, q71, zc9, qj3, qpx, zav, zaw, qie, unA, qbx, zb5, q2c, mmA, q56, q29, q4m, qgb, q1r, qum, q1q, TyI.zeros, TyI.zeroElem, TyI.okElem, TD.isAgg, Value.cells, AVal.known, AVal.cells, AVal.one, AVal.plain, q0i, AVal.withCells, reduceCtorEq, ↓reduceIte, if_true, if_false, Bool.false_eq_true, false_implies, true_implies, implies_true, true_and, and_true, and_self, ne_eq, not_true, not_false_iff, Bool.and_true, Bool.true_and, Bool.and_false, Bool.false_and, Bool.or_true, Bool.true_or, Bool.or_false, Bool.false_or, Bool.not_true, Bool.not_false, beq_self_eq_true, Nat.reduceAdd, Nat.reduceMul, Nat.reduceLeDiff, Nat.reduceEqDiff, Nat.reduceBEq, Nat.mul_one, Nat.le_refl, Nat.zero_add, Nat.add_zero, Option.isSome_some, decide_true, decide_false, q5q, q7o, List.replicate_succ, List.replicate_zero, List.flatMap_cons, List.flatMap_nil, flat, tms, mms, Array.size_empty, qt1, qgf, q52, Op.operands, AVal.at, AVal.atR, q5s, qcp, qqz, Option.map_some, List.contains_cons, List.contains_nil, List.isEmpty_nil, List.isEmpty_cons, Int.toNat_natCast, Int.natCast_nonneg, Int.reduceLE, Int.reduceLT, Int.reduceToNat, Nat.reduceLT, Nat.reduceSub, Int.reduceNeg, Int.reduceEq])) ?_
  rintro v M' ⟨rfl, b, rfl⟩
  dsimp only [AS.put]
  (have hF := True.intro; refine q1a (k:=?_); clear hF)
  refine Run.cond _ rfl (fun hc => ?_) (fun hc => ?_)
  ·(have hF := True.intro; refine q1a (k:=?_); clear hF)
   exact Fin.nil rfl
  ·(have hF := True.intro; refine q1a (k:=?_); clear hF)
   exact Fin.tmp' rfl rfl
 | cons x l =>
  have e1 : q0a (x :: l) = qcn x :: q0a l := rfl
  have e2 : (q0a l).length = l.length := q0o l
  have hl2 : l.length + 1 ≤ 100000000 := by simpa using hl
  rw [e1]
  (have hF := @e2; refine q01 (k:=?_); clear hF)
  exact Fin.tmp' rfl (q09 (x :: l))
theorem qsv (l : List Rec) (hl : l.length ≤ 100000000) : EvFresh (En Tryz.prog rfl).P 95 [.sl 3 (q08 l)] 3 (q08 l) := by
 refine EvFresh.of_body it_k95 (by simp) (AW.wkEnd (Run.start ?_))
 unfold t_k95
 cases l with
 | nil =>
  have e0 : q08 [] = [] := rfl
  rw [e0]
  (have hF := True.intro; refine q1a (k:=?_); clear hF)
  refine q4q (Hook.nil_eq (En Tryz.prog rfl).hT (sz := 3) TE_27 (by simp only [opS, opA, ev, cst, upd, evs, evp, q87, qbk, NoM, qb3, qfs, zse, Option.getD, Option.map_some, Option.map_none, List.map_cons, List.map_nil, List.getElem?_cons_zero, List.getElem?_cons_succ, List.getElem?_nil, List.all_cons, List.all_nil, List.length_cons, List.length_nil, List.take_succ_cons, List.take_zero, List.drop_succ_cons, List.drop_zero, List.set_cons_zero, List.set_cons_succ, List.cons_append, List.nil_append, List.append_nil, List.toList_toArray, q6o, zea, q97, q5k, q2u, q75, qaf, q1f, q73, q9g, q89, q8c, q4z, qrn, q7e, q71, zc9, qj3, qpx, zav, zaw, qie, unA, qbx, zb5, q2c, mmA, q56, q29, q4m, qgb, q1r, qum, q1q, TyI.zeros, TyI.zeroElem, TyI.okElem, TD.isAgg, Value.cells, AVal.known, AVal.cells, AVal.one, AVal.plain, q0i, AVal.withCells, reduceCtorEq, ↓reduceIte, if_true, if_false, Bool.false_eq_true, false_implies, true_implies, implies_true, true_and, and_true, and_self, ne_eq, not_true, not_false_iff, Bool.and_true, Bool.true_and, Bool.and_false, Bool.false_and, Bool.or_true, Bool.true_or, Bool.or_false, Bool.false_or, Bool.not_true, Bool.not_false, beq_self_eq_true, Nat.reduceAdd, Nat.reduceMul, Nat.reduceLeDiff, Nat.reduceEqDiff, Nat.reduceBEq, Nat.mul_one, Nat.le_refl, Nat.zero_add, Nat.add_zero, Option.isSome_some, decide_true, decide_false, q5q, q7o, List.replicate_succ, List.replicate_zero, List.flatMap_cons, List.flatMap_nil, flat, tms, mms, Array.size_empty, qt1, qgf, q52, Op.operands, AVal.at, AVal.atR, q5s, qcp, qqz, Option.map_some, List.contains_cons, List.contains_nil, List.isEmpty_nil, List.isEmpty_cons, Int.toNat_natCast, Int.natCast_nonneg, Int.reduceLE, Int.reduceLT, Int.reduceToNat, Nat.reduceLT, Nat.reduceSub, Int.reduceNeg, Int.reduceEq])) ?_
  rintro v M' ⟨rfl, b, rfl⟩
  dsimp only [AS.put]
  (have hF := True.intro; refine q1a (k:=?_); clear hF)
  refine Run.cond _ rfl (fun hc => ?_) (fun hc => ?_)
  ·(have hF := True.intro; refine q1a (k:=?_); clear hF)
   exact Fin.done ⟨_, Wk.own_nil 2 99 3 rfl rfl, 99, 0, rfl, rfl, rfl⟩
  ·(have hF := True.intro; refine q1a (k:=?_); clear hF)
   exact Fin.done ⟨_, Wk.refl _ _, _, _, rfl, rfl, rfl⟩
 | cons x l =>
  have e1 : q08 (x :: l) = q4w x :: q08 l := rfl
  have e2 : (q08 l).length = l.length := q0j l
  have hl2 : l.length + 1 ≤ 100000000 := by simpa using hl
  rw [e1]
  (have hF := @e2; refine q01 (k:=?_); clear hF)
  exact Fin.done ⟨_, Wk.refl _ _, _, _, rfl, rfl, q02 (x :: l)⟩
theorem zrf {l : List Rec} {i : Nat} {r : Rec} (h : l[i]? = some r) : (q08 l).set i (.agg [.str r.sku, .sl 1 (q04 r.past.vec), .sl 3 (q0c r.past.cloud)]) = q08 l := by
 have hi : i < l.length := by
  rcases Nat.lt_or_ge i l.length with h' | h'
  ·exact h'
  ·rw [List.getElem?_eq_none h'] at h; cases h
 have e : l.set i r = l := by
  rw [List.getElem?_eq_getElem hi] at h
  rw [← Option.some.inj h, List.set_getElem_self]
 have e2 : (q08 l).set i (q4w r) = q08 (l.set i r) := by unfold q08; rw [List.map_set]
 rw [e] at e2
 exact e2
theorem ev_k48 (s : Swt) (hw : wtS s ≤ 30000000) (hc : CanP s.past) (hr : ∀ r ∈ s.defer, q96 r) : Ev (En Tryz.prog rfl).P 48 [q40 s] (.ret (q40 s)) := by
 refine Ev.of_body it_k48 (by simp) (Run.start ?_)
 unfold t_k48 q40
 have hS := qc8
 have hcs := q81 s.live s.past.vec s.past.cloud s.defer
 have hlen := q7h s.defer
 have hww := hw
 unfold wtS at hww
 have c1 := qsw s.live (by omega)
 have c2 := qgw s.past (by omega)
 have c3 := qsv s.defer (by omega)
 have hn : q1g s.past = s.past := hc
 rw [hn] at c2
 have eK := q0j s.defer
 (have hF := @hcs; refine q01 (k:=?_); clear hF)
 refine q00 [.sl 4 (q0a s.live)] (he := c1) (k:=?_)
 (have hF := @hcs; refine q01 (k:=?_); clear hF)
 refine q00 [q0h s.past] (he := c2) (k:=?_)
 unfold q0h
 (have hF := @hcs; refine q01 (k:=?_); clear hF)
 refine stFresh [.sl 3 (q08 s.defer)] (he := c3) (k:=?_)
 (have hF := (aI @hcs @eK); refine q01 (k:=?_); clear hF)
 have hoff : ∀ a b c, qs6 [(2, a), (3, b), (14, c)] 14 = false := fun _ _ _ => rfl
 refine Run.while (σ := Nat) (fun i => ⟨tms [(2, .ptr 2 0), (3, .ptr 3 0), (17, .os 14 0), (18, .int .i64 (s.defer.length : Int)), (19, .int .i64 (i : Int))], mms [(2, .cells [.nil, .nil, .nil, .nil]), (3, .cells [.sl 4 (q0a s.live), .sl 1 (q04 s.past.vec), .sl 3 (q0c s.past.cloud), .os 14 0]), (14, .arr 0 3 (q08 s.defer))]⟩)
  (fun i => i ≤ s.defer.length) (fun i => s.defer.length - i) 0 (have hW := (aI @q09 (aI @q02 @hoff)); q0g) (Nat.zero_le _) ?_
 intro i hi
 unfold qu6
 by_cases hlt : i < s.defer.length
 ·obtain ⟨r, hrr⟩ : ∃ r, s.defer[i]? = some r := ⟨s.defer[i], by simp [hlt]⟩
  have g1 := q0t hrr
  have hrl := List.mem_of_getElem? hrr
  have hwr := qg5 hrl
  unfold wtK at hwr
  have c4 := qgw r.past (by omega)
  have hn2 : q1g r.past = r.past := hr r hrl
  rw [hn2] at c4
  have hput := zrf hrr
  (have hF := (aI @eK @g1); refine q01 (k:=?_); clear hF)
  refine q00 [q0h r.past] (he := c4) (k:=?_)
  unfold q0h
  (have hF := (aI @eK @g1); refine q01 (k:=?_); clear hF)
  (refine Fin.nextW (i + 1) ?_ (have hW := (aI (aI @q09 @q02) (aI @hput @hoff)); q0g); (try dsimp only))
  omega
 ·(have hF := @eK; refine q01 (k:=?_); clear hF)
  exact Fin.all (xs := [q40 s]) (by with_unfolding_all rfl) (by simp [q0k, q3f]) rfl
theorem zr9 (l : List Rn) (i : Nat) (a b : Int) : (q07 l).set i (.agg [.int .i64 a, .int .i64 b]) = q07 (l.set i (a, b)) := by
 unfold q07
 rw [List.map_set]
 rfl

def zgf : List SOp := [zO 1 (.box 29 (.tmp 0)),zO 2 (.assign (.const (.bool false)))]
instance : Live zgf := ⟨[0]⟩
def zge : List SOp := [zF 3 29 1 0,zL 4 22 3,zO 5 (.call ⟨.value (.func 53),#[.tmp 4],#[22]⟩),zO 6 (.binOp .eql 32 (.tmp 5) (.const (.int .i64 0)) 32),zM 7 6,⟨some 8,.fieldAddr 29 (.tmp 1) 1,some ((some 7),true)⟩,⟨some 9,.load 26 (.tmp 8),some ((some 7),true)⟩,⟨some 10,.call ⟨.value (.func 54),#[.tmp 9],#[26]⟩,some ((some 7),true)⟩,zO 11 (.pick (.tmp 7) (.tmp 10) (.const (.bool false))),zM 12 11,⟨some 13,.fieldAddr 29 (.tmp 1) 2,some ((some 12),true)⟩,⟨some 14,.load 27 (.tmp 13),some ((some 12),true)⟩,⟨some 15,.call ⟨.value (.func 55),#[.tmp 14],#[27]⟩,some ((some 12),true)⟩,⟨some 16,.binOp .eql 32 (.tmp 15) (.const (.int .i64 0)) 32,some ((some 12),true)⟩,zO 17 (.pick (.tmp 12) (.tmp 16) (.const (.bool false))),zG 2 17]
instance : Live zge := ⟨[1]⟩
def t_k91 : SC :=
 (.seq (.ops false zgf) (.seq (.ops false zge) .ret))
theorem it_k91 : FnIs Tryz.prog 91 18 [.tmp 2] t_k91 := ⟨Tryz.f91, _, Tryz.func91, rfl, rfl, rfl, rfl, by kernel_rfl⟩

def zlw : List SOp := [zO 1 (.box 29 (.tmp 0)),zO 2 (.assign (.const (.int .i64 0)))]
instance : Live zlw := ⟨[0]⟩
def zlv : List SOp := [zL 5 29 1,zO 6 (.call ⟨.value (.func 91),#[.tmp 5],#[29]⟩),zO 7 (.unOp .not 4 (.tmp 6))]
instance : Live zlv := ⟨[1]⟩
def zlu : List SOp := [zO 2 (.assign (.const (.int .i64 1)))]
instance : Live zlu := ⟨[]⟩
def zlt : List SOp := [zF 8 29 1 1,zL 9 26 8,zO 10 (.call ⟨.value (.func 92),#[.tmp 9],#[26]⟩),zG 3 10]
instance : Live zlt := ⟨[1]⟩
def zls : List SOp := [zF 12 29 1 0,zL 13 22 12,zO 14 (.call ⟨.builtin .len,#[.tmp 13],#[22]⟩),zO 15 (.binOp .eql 3 (.tmp 14) (.const (.int .i64 1)) 3),zM 16 15,⟨some 17,.fieldAddr 29 (.tmp 1) 2,some ((some 16),true)⟩,⟨some 18,.load 27 (.tmp 17),some ((some 16),true)⟩,⟨some 19,.call ⟨.builtin .len,#[.tmp 18],#[27]⟩,some ((some 16),true)⟩,⟨some 20,.binOp .eql 3 (.tmp 19) (.const (.int .i64 0)) 3,some ((some 16),true)⟩,zO 21 (.pick (.tmp 16) (.tmp 20) (.const (.bool false))),zG 11 21]
instance : Live zls := ⟨[1,3]⟩
def zlr : List SOp := [zF 22 29 1 0,zL 23 22 22,zO 24 (.indexAddr 22 (.tmp 23) (.const (.int .i64 0))),zF 25 62 24 0,zL 26 41 25,zO 4 (.alloc 41),⟨none,.store 41 (.tmp 4) (.tmp 26),none⟩]
instance : Live zlr := ⟨[1]⟩
def zlq : List SOp := [zF 27 29 1 1,zL 28 26 27,zF 29 41 4 0,zL 30 3 29,zO 31 (.call ⟨.value (.func 93),#[.tmp 28,.tmp 30],#[26,3]⟩),zF 32 41 4 1,zL 33 3 32,zO 34 (.binOp .lss 3 (.tmp 31) (.tmp 33) 3)]
instance : Live zlq := ⟨[1,4]⟩
def zlp : List SOp := [zO 2 (.assign (.const (.int .i64 0)))]
instance : Live zlp := ⟨[]⟩
def zlo : List SOp := [zF 36 29 1 0,zL 37 22 36,zO 38 (.call ⟨.builtin .len,#[.tmp 37],#[22]⟩),zO 39 (.binOp .eql 3 (.tmp 38) (.const (.int .i64 0)) 3),zM 40 39,⟨some 41,.fieldAddr 29 (.tmp 1) 2,some ((some 40),true)⟩,⟨some 42,.load 27 (.tmp 41),some ((some 40),true)⟩,⟨some 43,.call ⟨.builtin .len,#[.tmp 42],#[27]⟩,some ((some 40),true)⟩,⟨some 44,.binOp .eql 3 (.tmp 43) (.const (.int .i64 0)) 3,some ((some 40),true)⟩,zO 45 (.pick (.tmp 40) (.tmp 44) (.const (.bool false))),zG 35 45]
instance : Live zlo := ⟨[1,3]⟩
def qwn : List SOp := [zO 2 (.assign (.const (.int .i64 0)))]
instance : Live qwn := ⟨[]⟩
def qwm : List SOp := [zF 47 29 1 0,zL 48 22 47,zO 49 (.call ⟨.builtin .len,#[.tmp 48],#[22]⟩),zO 50 (.binOp .eql 3 (.tmp 49) (.const (.int .i64 0)) 3),zM 51 50,⟨some 52,.fieldAddr 29 (.tmp 1) 2,some ((some 51),true)⟩,⟨some 53,.load 27 (.tmp 52),some ((some 51),true)⟩,⟨some 54,.call ⟨.builtin .len,#[.tmp 53],#[27]⟩,some ((some 51),true)⟩,⟨some 55,.binOp .eql 3 (.tmp 54) (.const (.int .i64 1)) 3,some ((some 51),true)⟩,zO 56 (.pick (.tmp 51) (.tmp 55) (.const (.bool false))),zM 57 56,⟨some 58,.move (.tmp 3),some ((some 57),true)⟩,zO 59 (.pick (.tmp 57) (.tmp 58) (.const (.bool false))),zG 46 59]
instance : Live qwm := ⟨[1,3]⟩
def qwl : List SOp := [zO 2 (.assign (.const (.int .i64 0)))]
instance : Live qwl := ⟨[]⟩
def qwk : List SOp := [zO 2 (.assign (.const (.int .i64 2)))]
instance : Live qwk := ⟨[]⟩
def t_k46 : SC :=
 (.seq (.ops false zlw) (.seq (.seq (.ops false zlv) (.cond (.tmp 7) (.seq (.ops false zlu) .ret) .skip)) (.seq (.ops false zlt) (.seq (.block 0 (.seq (.ops false zls) (.cond (.tmp 11) (.seq (.ops false zlr) (.seq (.ops true zlq) (.cond (.tmp 34) (.seq (.ops false zlp) .ret) .skip))) (.seq (.ops false zlo) (.cond (.tmp 35) (.seq (.ops false qwn) .ret) (.seq (.ops false qwm) (.cond (.tmp 46) (.seq (.ops false qwl) .ret) .skip))))))) (.seq (.ops false qwk) .ret)))))
theorem it_k46 : FnIs Tryz.prog 46 60 [.tmp 2] t_k46 := ⟨Tryz.f46, _, Tryz.func46, rfl, rfl, rfl, rfl, by kernel_rfl⟩

def zo9 : List SOp := [zO 1 (.box 29 (.tmp 0)),zO 2 (.alloc 31),zO 3 (.assign (.const (.int .i64 0)))]
instance : Live zo9 := ⟨[0]⟩
def zo8 : List SOp := [zL 7 29 1,zO 8 (.call ⟨.value (.func 46),#[.tmp 7],#[29]⟩),zG 4 8]
instance : Live zo8 := ⟨[1,2]⟩
def zo7 : List SOp := [zM 9 4,zO 10 (.binOp .neq 32 (.tmp 9) (.const (.int .i64 0)) 32)]
instance : Live zo7 := ⟨[1,2,4]⟩
def zo6 : List SOp := [zO 11 (.build 31 #[]),zM 12 4,⟨none,.store 31 (.tmp 2) (.tmp 11),none⟩,zG 3 12]
instance : Live zo6 := ⟨[2,4]⟩
def zo5 : List SOp := [zF 14 29 1 0,zL 15 22 14,zO 16 (.call ⟨.value (.func 47),#[.tmp 15],#[22]⟩),zM 13 16,zX 17 13 0,zX 18 13 1,zO 5 (.alloc 26),⟨none,.store 26 (.tmp 5) (.tmp 17),none⟩,zG 6 18]
instance : Live zo5 := ⟨[1,2]⟩
def zo4 : List SOp := [zF 19 29 1 0,zL 20 22 19,zL 21 26 5,zF 22 29 1 1,zL 23 26 22,zO 24 (.buildSlice 116 2 #[(0,.tmp 21),(1,.tmp 23)]),zO 25 (.call ⟨.value (.func 49),#[.tmp 24],#[116]⟩),zF 26 29 1 2,zL 27 27 26,zO 28 (.build 31 #[(0,.tmp 20),(1,.tmp 25),(2,.tmp 27)]),zO 29 (.call ⟨.value (.func 48),#[.tmp 28],#[31]⟩),⟨none,.store 31 (.tmp 2) (.tmp 29),none⟩,zO 3 (.assign (.const (.int .i64 0)))]
instance : Live zo4 := ⟨[1,2,5]⟩
def t_k13 : SC :=
 (.seq (.ops false zo9) (.seq (.seq (.ops false zo8) (.seq (.ops false zo7) (.cond (.tmp 10) (.seq (.ops false zo6) .ret) .skip))) (.seq (.ops false zo5) (.seq (.ops true zo4) .ret))))
theorem it_k13 : FnIs Tryz.prog 13 30 [.cell 2 31, .tmp 3] t_k13 := ⟨Tryz.f13, _, Tryz.func13, rfl, rfl, rfl, rfl, by kernel_rfl⟩

def q8j (l : List Ent) (i : Nat) : List Rn := (l.take i).map Ent.dot ++ List.replicate (l.length - i) (0, 0)
theorem zdd (l : List Ent) : q8j l 0 = List.replicate l.length (0, 0) := by simp [q8j]
theorem zqi {l : List Ent} {i : Nat} (h : i ≤ l.length) : (q8j l i).length = l.length := by simp [q8j]; omega
theorem zqj (l : List Ent) : q8j l l.length = l.map Ent.dot := by simp [q8j]
theorem zqh {l : List Ent} {i : Nat} {e : Ent} (h : l[i]? = some e) : (q8j l i).set i e.dot = q8j l (i + 1) := by
 have hi : i < l.length := by
  rcases Nat.lt_or_ge i l.length with h' | h'
  ·exact h'
  ·rw [List.getElem?_eq_none h'] at h; cases h
 unfold q8j
 rw [List.set_append_right _ _ (by simp; omega), List.take_add_one, h, List.map_append, List.append_assoc]
 congr 1
 have : l.length - i = l.length - (i + 1) + 1 := by omega
 rw [this, List.replicate_succ]
 simp [show i - min i l.length = 0 by omega]
theorem zra (n : Nat) : List.replicate n (AVal.agg [.int .i64 0, .int .i64 0]) = q07 (List.replicate n (0, 0)) := by simp [q07, q47]
theorem ev_k47 (l : List Ent) (hl : l.length ≤ 10000000) : Ev (En Tryz.prog rfl).P 47 [.sl 4 (q0a l)] (.ret (.tup [q0h (if q6v l = true then q3g l else ⟨[], []⟩), .int .i64 (if q6v l = true then 0 else 1)])) := by
 refine Ev.of_body it_k47 (by simp) (AW.wkEnd (Run.start ?_))
 unfold t_k47
 have e1 := q0o l
 have hS := qc8
 have c1 := qgy l (by omega)
 by_cases hf : q6v l = true
 case' neg =>
  rw [if_neg hf] at c1
  rw [if_neg hf, if_neg hf]
  (have hF := @e1; refine q01 (k:=?_); clear hF)
  refine q00 [.sl 4 (q0a l)] (he := c1) (k:=?_)
  (have hF := @e1; refine q01 (k:=?_); clear hF)
  exact Fin.done ⟨_, Wk.cells_nil (k := 2) rfl sub2, _, by with_unfolding_all rfl, rfl, _, q1s _, rfl⟩
 case' pos =>
  rw [if_pos hf] at c1
  rw [if_pos hf, if_pos hf]
  have hz := zdd l
  have er := zra l.length
  (have hF := (aI @e1 @er); refine q01 (k:=?_); clear hF)
  refine q00 [.sl 4 (q0a l)] (he := c1) (k:=?_)
  (have hF := (aI @e1 @er); refine q01 (k:=?_); clear hF)
  rw [← hz]
  refine Run.while (σ := Nat) (fun i => ⟨tms [(2, .ptr 2 0), (4, .os 13 0), (14, .sl 4 (q0a l)), (15, .int .i64 (l.length : Int)), (16, .int .i64 (i : Int))], mms [(2, .cells [.nil, .nil]), (13, .arr 0 2 (q07 (q8j l i)))]⟩)
   (fun i => i ≤ l.length) (fun i => l.length - i) 0 (have hW := @q09; q0g) (Nat.zero_le _) ?_
  intro i hi
  unfold qu7
  by_cases hlt : i < l.length
  ·obtain ⟨e, he⟩ : ∃ e, l[i]? = some e := ⟨l[i], by simp [hlt]⟩
   have g1 := q16 he
   have hfs := zqh he
   have hfl := zqi hi
   have e3 := q0w (q8j l i)
   rw [hfl] at e3
   obtain ⟨d0, hd0⟩ : ∃ d, (q8j l i)[i]? = some d := ⟨(q8j l i)[i]'(by omega), by simp [show i < (q8j l i).length by omega]⟩
   have g2 : (q07 (q8j l i))[i]? = some (.agg [.int .i64 d0.1, .int .i64 d0.2]) := q3a hd0
   have hst : (q07 (q8j l i)).set i (.agg [.int .i64 e.rep, .int .i64 e.num]) = q07 (q8j l (i + 1)) := by rw [← hfs]; exact zr9 _ _ _ _
   (have hF := (aI (aI @e1 @e3) (aI @g1 @g2)); refine q01 (k:=?_); clear hF)
   (refine Fin.nextW (i + 1) ?_ (have hW := (aI @q09 @hst); q0g); (try dsimp only))
   omega
  ·have hie : i = l.length := by omega
   subst hie
   rw [zqj]
   have c2 := ev_k94 (l.map Ent.dot) (by simp; omega)
   (have hF := @e1; refine q01 (k:=?_); clear hF)
   refine qc9 (fun j => j == 13) [.sl 2 (q07 (l.map Ent.dot))] (he := c2) (k:=?_)
   (have hF := @e1; refine q01 (k:=?_); clear hF)
   exact Fin.done ⟨_, Wk.refl _ _, [q0h (q3g l), .int .i64 0], by with_unfolding_all rfl, by simp [q0k, q0s, AVal.stb], _, q1s _, rfl⟩
open Classical in
noncomputable def zqd (f : Fct) : Bool := decide (FormF f)
theorem q8x {f : Fct} (h : FormF f) : zqd f = true := by classical exact decide_eq_true h
theorem q38 {f : Fct} (h : ¬ FormF f) : zqd f = false := by classical exact decide_eq_false h
theorem qcf {f : Fct} : FormF f ↔ q6v f.adds = true ∧ q18 f.gone = true ∧ q34 f.recs = true := by
 rw [qam, q36, q74]
 exact ⟨fun h => ⟨h.adds, h.gone, h.recs⟩, fun h => ⟨h.1, h.2.1, h.2.2⟩⟩
theorem q3l {f : Fct} {W : Nat} (h : wtF f ≤ W) : f.adds.length ≤ W ∧ wt f.gone ≤ W ∧ f.recs.length ≤ W ∧ q4y f.recs ≤ W ∧ ∀ r ∈ f.recs, wt r.past ≤ W := by
 unfold wtF at h
 have := q7h f.recs
 exact ⟨by omega, by omega, by omega, by omega, fun r hr => by have := qg5 hr; unfold wtK at this; omega⟩
theorem q70 {s : Swt} {W : Nat} (h : wtS s ≤ W) : s.live.length ≤ W ∧ wt s.past ≤ W ∧ s.defer.length ≤ W ∧ q4y s.defer ≤ W ∧ ∀ r ∈ s.defer, wt r.past ≤ W := by
 unfold wtS at h
 have := q7h s.defer
 exact ⟨by omega, by omega, by omega, by omega, fun r hr => by have := qg5 hr; unfold wtK at this; omega⟩
theorem ev_k91 (f : Fct) (hw : wtF f ≤ 30000000) : Ev (En Tryz.prog rfl).P 91 [q5e f] (.ret (.bool (zqd f))) := by
 refine Ev.of_body it_k91 (by simp) (Run.start ?_)
 unfold t_k91 q5e
 obtain ⟨w1, w2, w3, w4, w5⟩ := q3l hw
 have hS := qc8
 have hcs := q81 f.adds f.gone.vec f.gone.cloud f.recs
 have c1 := qgy f.adds (by omega)
 have c2 := qgx f.gone (by omega)
 have c3 := q2k f.recs (by omega) (fun r hr => by have := w5 r hr; omega)
 have hch := qcf (f := f)
 by_cases h1 : q6v f.adds = true
 ·rw [if_pos h1] at c1
  by_cases h2 : q18 f.gone = true
  ·rw [h2] at c2
   by_cases h3 : q34 f.recs = true
   ·rw [if_pos h3] at c3
    rw [q8x (hch.2 ⟨h1, h2, h3⟩)]
    (have hF := @hcs; refine q01 (k:=?_); clear hF)
    refine q00 [.sl 4 (q0a f.adds)] (he := c1) (k:=?_)
    (have hF := @hcs; refine q01 (k:=?_); clear hF)
    refine q00 [q0h f.gone] (he := c2) (k:=?_)
    (have hF := @hcs; refine q01 (k:=?_); clear hF)
    refine q00 [.sl 3 (q08 f.recs)] (he := c3) (k:=?_)
    (have hF := @hcs; refine q01 (k:=?_); clear hF)
    exact Fin.tmp' rfl rfl
   ·rw [if_neg h3] at c3
    rw [q38 (fun h => h3 (hch.1 h).2.2)]
    (have hF := @hcs; refine q01 (k:=?_); clear hF)
    refine q00 [.sl 4 (q0a f.adds)] (he := c1) (k:=?_)
    (have hF := @hcs; refine q01 (k:=?_); clear hF)
    refine q00 [q0h f.gone] (he := c2) (k:=?_)
    (have hF := @hcs; refine q01 (k:=?_); clear hF)
    refine q00 [.sl 3 (q08 f.recs)] (he := c3) (k:=?_)
    (have hF := @hcs; refine q01 (k:=?_); clear hF)
    exact Fin.tmp' rfl rfl
  ·rw [show q18 f.gone = false by simpa using h2] at c2
   rw [q38 (fun h => h2 (hch.1 h).2.1)]
   (have hF := @hcs; refine q01 (k:=?_); clear hF)
   refine q00 [.sl 4 (q0a f.adds)] (he := c1) (k:=?_)
   (have hF := @hcs; refine q01 (k:=?_); clear hF)
   refine q00 [q0h f.gone] (he := c2) (k:=?_)
   (have hF := @hcs; refine q01 (k:=?_); clear hF)
   exact Fin.tmp' rfl rfl
 ·rw [if_neg h1] at c1
  rw [q38 (fun h => h1 (hch.1 h).1)]
  (have hF := @hcs; refine q01 (k:=?_); clear hF)
  refine q00 [.sl 4 (q0a f.adds)] (he := c1) (k:=?_)
  (have hF := @hcs; refine q01 (k:=?_); clear hF)
  exact Fin.tmp' rfl rfl
theorem qfc {f : Fct} (h : ¬ FormF f) : q3j f = 1 := by unfold q3j; rw [if_pos h]
theorem qbr {f : Fct} (h : FormF f) : q3j f = match f.adds, f.recs with
 | [e], [] => if qcl f.gone e.rep < e.num then 0 else 2
 | [], [] => 0
 | [], [_] => if q2x f.gone = 0 then 0 else 2
 | _, _ => 2 := by
 unfold q3j
 rw [if_neg (fun h' => h' h)]
 all_goals (rcases f.adds with _ | ⟨e, _ | ⟨e2, t⟩⟩ <;> rcases f.recs with _ | ⟨r, _ | ⟨r2, t2⟩⟩ <;> rfl)
theorem ev_k46 (f : Fct) (hw : wtF f ≤ 30000000) : Ev (En Tryz.prog rfl).P 46 [q5e f] (.ret (.int .i64 (q3j f))) := by
 refine Ev.of_body it_k46 (by simp) (Run.start ?_)
 unfold t_k46
 obtain ⟨w1, w2, w3, w4, w5⟩ := q3l hw
 have hS := qc8
 have c1 := ev_k91 f hw
 unfold q5e at c1 ⊢
 have hcs := q81 f.adds f.gone.vec f.gone.cloud f.recs
 have c2 := qql f.gone (by omega)
 by_cases hf : FormF f
 case' neg =>
  rw [q38 hf] at c1
  rw [qfc hf]
  (have hF := @hcs; refine q01 (k:=?_); clear hF)
  refine q00 [q5e f] (he := c1) (k:=?_)
  (have hF := @hcs; refine q01 (k:=?_); clear hF)
  exact Fin.tmp' rfl rfl
 case' pos =>
  rw [q8x hf] at c1
  rw [qbr hf]
  have ea := q0o f.adds
  have er := q0j f.recs
  have hcs' := hcs
  generalize hA : f.adds = A at *
  generalize hR : f.recs = R at *
  rcases A with _ | ⟨e, _ | ⟨e2, t⟩⟩ <;> rcases R with _ | ⟨r, _ | ⟨r2, t2⟩⟩
  all_goals
   simp only [List.length_nil, List.length_cons, Nat.zero_add] at ea er
   (have hF := (aI @hcs (aI @ea @er)); refine q01 (k:=?_); clear hF)
   refine q00 [_] (he := c1) (k:=?_)
   (have hF := (aI @hcs (aI @ea @er)); refine q01 (k:=?_); clear hF)
   refine q00 [q0h f.gone] (he := c2) (k:=?_)
  ·(have hF := (aI @hcs (aI @ea @er)); refine q01 (k:=?_); clear hF)
   exact Fin.tmp' rfl rfl
  ·by_cases hs : q2x f.gone = 0
   ·simp only [hs, if_true, decide_true]
    (have hF := (aI @hcs (aI @ea @er)); refine q01 (k:=?_); clear hF)
    exact Fin.tmp' rfl rfl
   ·simp only [hs, if_false, decide_false]
    (have hF := (aI @hcs (aI @ea @er)); refine q01 (k:=?_); clear hF)
    exact Fin.tmp' rfl rfl
  ·(have hF := (aI @hcs (aI @ea @er)); refine q01 (k:=?_); clear hF)
   all_goals first | (exfalso; omega) | exact Fin.tmp' rfl rfl
  ·have g1 : (q0a [e])[0]? = some (.agg [.int .i64 e.rep, .int .i64 e.num, .str e.sku, .int .i64 e.qty]) := rfl
   have c3 := ev_k93 f.gone e.rep (by omega)
   (have hF := (aI (aI @hcs @ea) (aI @er @g1)); refine q01 (k:=?_); clear hF)
   refine q00 [q0h f.gone, .int .i64 e.rep] (he := c3) (k:=?_)
   by_cases hl : qcl f.gone e.rep < e.num
   ·simp only [hl, if_true]
    (have hF := (aI @hcs (aI @ea @er)); refine q01 (k:=?_); clear hF)
    exact Fin.tmp' rfl rfl
   ·simp only [hl, if_false]
    (have hF := (aI @hcs (aI @ea @er)); refine q01 (k:=?_); clear hF)
    exact Fin.tmp' rfl rfl
  all_goals
   (have hF := (aI @hcs (aI @ea @er)); refine q01 (k:=?_); clear hF)
   all_goals first | (exfalso; omega) | exact Fin.tmp' rfl rfl
theorem q8z (l : List Ent) : wt (q3g l) ≤ 16 + l.length := by
 have := ofP_wt (l.map Ent.dot)
 rw [List.length_map] at this
 exact this
open Classical in
noncomputable def ze9 (f : Fct) : Swt := if q3j f = 0 then evS f else noS
theorem q5a {f : Fct} (h : q3j f = 0) : FormF f := by
 refine Classical.byContradiction fun hn => ?_
 rw [qfc hn] at h
 omega
theorem ev_k13 (f : Fct) (hw : wtF f ≤ 3000000) : Ev (En Tryz.prog rfl).P 13 [q5e f] (.ret (.tup [q40 (ze9 f), .int .i64 (q3j f)])) := by
 refine Ev.of_body it_k13 (by simp) (AW.wkEnd (Run.start ?_))
 unfold t_k13
 obtain ⟨w1, w2, w3, w4, w5⟩ := q3l hw
 have hS := qc8
 have c1 := ev_k46 f (by omega)
 unfold q5e at c1 ⊢
 have hcs := q81 f.adds f.gone.vec f.gone.cloud f.recs
 by_cases he : q3j f = 0
 case' neg =>
  unfold ze9
  rw [if_neg he]
  generalize q3j f = v at *
  (have hF := @hcs; refine q01 (k:=?_); clear hF)
  refine q00 [_] (he := c1) (k:=?_)
  (have hF := @hcs; refine q01 (k:=?_); clear hF)
  exact Fin.done ⟨_, Wk.cells_nil (k := 2) rfl sub4, [q40 noS, .int .i64 v], by with_unfolding_all rfl, by simp [q0k, q3f, AVal.stb], _, q1s _, rfl⟩
 case' pos =>
  have hF := q5a he
  have hfe := q4j hF.adds
  have c2 := ev_k47 f.adds (by omega)
  rw [if_pos hfe, if_pos hfe] at c2
  have hdw := q8z f.adds
  have c3 := zqx [q3g f.adds, f.gone] (show 2 ≤ 1000000000 by omega) (by simp only [List.map_cons, List.map_nil, List.sum_cons, List.sum_nil]; omega)
  have hjw := q59 [q3g f.adds, f.gone]
  simp only [List.map_cons, List.map_nil, List.sum_cons, List.sum_nil] at hjw
  have hes : ze9 f = ⟨f.adds, q1e [q3g f.adds, f.gone], f.recs⟩ := if_pos he
  have c4 := ev_k48 ⟨f.adds, q1e [q3g f.adds, f.gone], f.recs⟩ (by unfold wtS; simp only; omega) (q28 _) (fun r hr => (q37 hF.recs r hr).1)
  rw [hes, he]
  rw [he] at c1
  clear hes hdw hjw
  generalize q1e [q3g f.adds, f.gone] = q at *
  generalize q3g f.adds = d at *
  (have hF := @hcs; refine q01 (k:=?_); clear hF)
  refine q00 [_] (he := c1) (k:=?_)
  (have hF := @hcs; refine q01 (k:=?_); clear hF)
  refine q00 [.sl 4 (q0a f.adds)] (he := c2) (k:=?_)
  unfold q0h
  (have hF := @hcs; refine q01 (k:=?_); clear hF)
  refine q00 [.sl 2 (q1o [d, f.gone])] (he := c3) (k:=?_)
  unfold q0h
  (have hF := @hcs; refine q01 (k:=?_); clear hF)
  refine q00 [q40 ⟨f.adds, q, f.recs⟩] (he := c4) (k:=?_)
  unfold q40
  (have hF := @hcs; refine q01 (k:=?_); clear hF)
  exact Fin.done ⟨_, Wk.refl _ _, [q40 ⟨f.adds, q, f.recs⟩, .int .i64 0], by with_unfolding_all rfl, by simp [q0k, q3f, AVal.stb], _, q1s _, rfl⟩

structure Uni (G : List Fct) (f : Fct) : Prop where
 form : FormF f
 adds : ∀ e, e ∈ f.adds ↔ ∃ g ∈ G, e ∈ g.adds
 gone : ∀ d, q1l f.gone d = true ↔ ∃ g ∈ G, q1l g.gone d = true
 recs : ∀ r, r ∈ f.recs ↔ ∃ g ∈ G, r ∈ g.recs
theorem qsl {α : Type} {G H : List α} (h : ∀ x, x ∈ G ↔ x ∈ H) (p : α → Prop) : (∃ g ∈ G, p g) ↔ ∃ g ∈ H, p g :=
 ⟨fun ⟨g, hg, hp⟩ => ⟨g, (h g).1 hg, hp⟩, fun ⟨g, hg, hp⟩ => ⟨g, (h g).2 hg, hp⟩⟩
theorem Uni.same {G H : List Fct} {f : Fct} (hf : Uni G f) (h : ∀ x, x ∈ G ↔ x ∈ H) : Uni H f :=
 ⟨hf.form, fun e => (hf.adds e).trans (qsl h _), fun d => (hf.gone d).trans (qsl h _), fun r => (hf.recs r).trans (qsl h _)⟩
theorem Uni.uniq {G : List Fct} {f g : Fct} (hf : Uni G f) (hg : Uni G g) : f = g :=
 fct_ext hf.form hg.form (fun e => by rw [hf.adds, hg.adds]) (fun d => by rw [hf.gone, hg.gone]) (fun r => by rw [hf.recs, hg.recs])
theorem zql {α : Type} {G H : List α} {p : α → Prop} : (∃ g ∈ G ++ H, p g) ↔ (∃ g ∈ G, p g) ∨ ∃ g ∈ H, p g := by
 constructor
 ·rintro ⟨g, hg, hp⟩
  exact (List.mem_append.1 hg).imp (fun h => ⟨g, h, hp⟩) (fun h => ⟨g, h, hp⟩)
 ·rintro (⟨g, hg, hp⟩ | ⟨g, hg, hp⟩)
  ·exact ⟨g, List.mem_append.2 (.inl hg), hp⟩
  ·exact ⟨g, List.mem_append.2 (.inr hg), hp⟩
theorem Uni.union {G H : List Fct} {f g : Fct} (hf : Uni G f) (hg : Uni H g) {L : List Ent} (hL : qbu f.adds g.adds = some L) : Uni (G ++ H) (q6b f g L) :=
 ⟨q9h hf.form hg.form hL, fun e => by rw [zc8 hf.form hg.form hL, hf.adds, hg.adds, zql], fun d => by rw [zc7, hf.gone, hg.gone, zql], fun r => by rw [zc6 hf.form hg.form, hf.recs, hg.recs, zql]⟩
theorem Uni.one {f : Fct} (hf : FormF f) : Uni [f] f := ⟨hf, fun e => by simp, fun d => by simp, fun r => by simp⟩
theorem Uni.clash {G H : List Fct} {f g : Fct} (hf : Uni G f) (hg : Uni H g) (h : ∀ x ∈ G, ∀ y ∈ H, ¬ Clash x.adds y.adds) : ¬ Clash f.adds g.adds := by
 rintro ⟨a, ha, b, hb, hd, hne⟩
 obtain ⟨x, hx, hax⟩ := (hf.adds a).1 ha
 obtain ⟨y, hy, hby⟩ := (hg.adds b).1 hb
 exact h x hx y hy ⟨a, hax, b, hby, hd, hne⟩
def wtE (E : List Fct) : Nat := (E.map fun g => wtF g + 1).sum
theorem zec (E F : List Fct) : wtE (E ++ F) = wtE E + wtE F := by simp [wtE]
theorem qpw {α : Type} [DecidableEq α] : ∀ {l m : List α}, l.Nodup → (∀ x ∈ l, x ∈ m) → l.length ≤ m.length
 | [], _, _, _ => Nat.zero_le _
 | x :: l, m, hn, h => by
  obtain ⟨h1, h2⟩ := List.nodup_cons.1 hn
  have hx := h x (by simp)
  have := qpw (m := m.erase x) h2 fun y hy => by
   have hne : y ≠ x := fun e => h1 (e ▸ hy)
   exact (List.mem_erase_of_ne hne).2 (h y (by simp [hy]))
  rw [List.length_erase_of_mem hx] at this
  have := List.length_pos_of_mem hx
  simp only [List.length_cons]
  omega
theorem zb4 {α β : Type} (f : α → List β) : ∀ l : List α, (l.flatMap f).length = (l.map fun x => (f x).length).sum
 | [] => rfl
 | x :: l => by simp [zb4 f l]
theorem qjq (f : Fct → List Rec) : ∀ l : List Fct, q4y (l.flatMap f) = (l.map fun x => q4y (f x)).sum
 | [] => rfl
 | x :: l => by rw [List.flatMap_cons, qhk, qjq f l]; simp
theorem zes (a b c d : Fct → Nat) (h : ∀ x, a x + b x + c x ≤ d x) : ∀ l : List Fct, (l.map a).sum + (l.map b).sum + (l.map c).sum ≤ (l.map d).sum
 | [] => Nat.le_refl _
 | x :: l => by
  have := zes a b c d h l
  have := h x
  simp only [List.map_cons, List.sum_cons]
  omega
theorem Uni.parts {G : List Fct} {f : Fct} (hf : Uni G f) {E : List Fct} (hG : ∀ x ∈ G, x ∈ E) (hE : ∀ x ∈ E, FormF x) :
 ∃ a g r, f.adds.length ≤ a ∧ wt f.gone ≤ 16 + g ∧ q4y f.recs ≤ r ∧ a = (E.map fun x => x.adds.length).sum ∧ g = (E.map fun x => wt x.gone).sum ∧ r = (E.map fun x => q4y x.recs).sum := by
 classical
 let H := E.filter fun x => decide (x ∈ G)
 have hH : ∀ x, x ∈ G ↔ x ∈ H := fun x => by
  simp only [H, List.mem_filter, decide_eq_true_eq]
  exact ⟨fun h => ⟨hG x h, h⟩, fun h => h.2⟩
 have hs : H.Sublist E := List.filter_sublist
 have h := hf.same hH
 refine ⟨_, _, _, ?_, ?_, ?_, rfl, rfl, rfl⟩
 ·have h1 : f.adds.length ≤ (H.flatMap Fct.adds).length := by
   refine qpw ?_ fun x hx => ?_
   ·exact List.Pairwise.imp (fun {a b} hab e => q5x hab (congrArg Ent.dot e)) (q5l h.form.adds.2)
   ·obtain ⟨g, hg, hx⟩ := (h.adds x).1 hx
    exact List.mem_flatMap.2 ⟨g, hg, hx⟩
  rw [zb4] at h1
  exact Nat.le_trans h1 (q7l (hs.map _))
 ·have h1 : f.gone = q1e (H.map Fct.gone) := qbl h.form.gone (q28 _) fun d => by
   rw [h.gone, qqa]
   constructor
   ·rintro ⟨g, hg, hx⟩
    exact ⟨g.gone, List.mem_map_of_mem hg, hx⟩
   ·rintro ⟨p, hp, hx⟩
    obtain ⟨g, hg, rfl⟩ := List.mem_map.1 hp
    exact ⟨g, hg, hx⟩
  rw [h1]
  refine Nat.le_trans (q59 _) (Nat.add_le_add_left ?_ _)
  rw [List.map_map]
  exact q7l (hs.map _)
 ·have hc : ∀ y ∈ H.flatMap Fct.recs, q96 y := fun y hy => by
   obtain ⟨g, hg, hy⟩ := List.mem_flatMap.1 hy
   exact (q37 (hE g (hs.subset hg)).recs y hy).1
  have h1 : f.recs = q84 (H.flatMap Fct.recs) := q8d hc (q8h h.form.recs) fun r => by
   rw [h.recs, List.mem_flatMap]
  rw [h1]
  refine Nat.le_trans (qct _) ?_
  rw [qjq]
  exact q7l (hs.map _)
theorem Uni.leF {G : List Fct} {f : Fct} (hf : Uni G f) {E : List Fct} (hG : ∀ x ∈ G, x ∈ E) (hE : ∀ x ∈ E, FormF x) : wtF f ≤ wtE E + 16 := by
 obtain ⟨a, g, r, h1, h2, h3, ha, hg, hr⟩ := hf.parts hG hE
 have := zes (fun x => x.adds.length) (fun x => wt x.gone) (fun x => q4y x.recs) (fun x => wtF x + 1) (fun x => by unfold wtF; omega) E
 unfold wtE
 unfold wtF at *
 omega
theorem qbs {f : Fct} (h : q3j f = 0) : f.adds.length ≤ 1 := by
 have hf := q5a h
 rw [qbr hf] at h
 split at h
 ·rename_i e _; simp [*]
 ·simp [*]
 ·simp [*]
 ·omega
theorem Uni.leS {G : List Fct} {f : Fct} (hf : Uni G f) {E : List Fct} (hG : ∀ x ∈ G, x ∈ E) (hE : ∀ x ∈ E, q3j x = 0) : wtS (stF f) ≤ wtE E + 64 := by
 obtain ⟨a, g, r, h1, h2, h3, ha, hg, hr⟩ := hf.parts hG fun x hx => q5a (hE x hx)
 have h4 : (stF f).live.length ≤ f.adds.length := List.length_filter_le _ _
 have h5 : wt (stF f).past ≤ 16 + (16 + f.adds.length + wt f.gone) := by
  have := q59 [q3g f.adds, f.gone]
  have hd := q8z f.adds
  simp only [List.map_cons, List.map_nil, List.sum_cons, List.sum_nil] at this
  show wt (q1e [q3g f.adds, f.gone]) ≤ _
  omega
 have h6 : q4y (stF f).defer ≤ q4y f.recs := qde _ _
 have h7 : a + g + r + a ≤ wtE E := by
  rw [ha, hg, hr]
  clear ha hg hr h1 h2 h3 h4 h5 h6 hf hG
  induction E with
  | nil => simp [wtE]
  | cons x E ih =>
   have := ih fun y hy => hE y (by simp [hy])
   have hx := qbs (hE x (by simp))
   unfold wtE at this ⊢
   simp only [List.map_cons, List.sum_cons]
   unfold wtF at this ⊢
   omega
 unfold wtS
 omega
theorem evtS_st {f : Fct} (h : q3j f = 0) : ze9 f = stF f := by
 obtain ⟨h1, h2⟩ := qrw h
 unfold ze9
 rw [if_pos h]
 unfold evS stF q1j
 rw [h1, h2]

def z7j : List SOp := [zO 1 (.box 62 (.tmp 0)),zO 2 (.assign (.const (.bool false)))]
instance : Live z7j := ⟨[0]⟩
def z7i : List SOp := [zF 3 62 1 0,zL 4 41 3,zO 5 (.call ⟨.value (.func 111),#[.tmp 4],#[41]⟩),zM 6 5,⟨some 7,.fieldAddr 62 (.tmp 1) 1,some ((some 6),true)⟩,⟨some 8,.load 9 (.tmp 7),some ((some 6),true)⟩,⟨some 9,.call ⟨.value (.func 146),#[.tmp 8],#[9]⟩,some ((some 6),true)⟩,zO 10 (.pick (.tmp 6) (.tmp 9) (.const (.bool false))),zM 11 10,⟨some 12,.fieldAddr 62 (.tmp 1) 2,some ((some 11),true)⟩,⟨some 13,.load 3 (.tmp 12),some ((some 11),true)⟩,⟨some 14,.binOp .geq 3 (.tmp 13) (.const (.int .i64 1)) 3,some ((some 11),true)⟩,zO 15 (.pick (.tmp 11) (.tmp 14) (.const (.bool false))),zM 16 15,⟨some 17,.fieldAddr 62 (.tmp 1) 2,some ((some 16),true)⟩,⟨some 18,.load 3 (.tmp 17),some ((some 16),true)⟩,⟨some 19,.binOp .leq 3 (.tmp 18) (.const (.int .i64 1000000)) 3,some ((some 16),true)⟩,zO 20 (.pick (.tmp 16) (.tmp 19) (.const (.bool false))),zG 2 20]
instance : Live z7i := ⟨[1]⟩
def t_k115 : SC :=
 (.seq (.ops false z7j) (.seq (.ops false z7i) .ret))
theorem it_k115 : FnIs Tryz.prog 115 21 [.tmp 2] t_k115 := ⟨Tryz.f115, _, Tryz.func115, rfl, rfl, rfl, rfl, by kernel_rfl⟩

def z7h : List SOp := [zO 2 (.box 41 (.tmp 0)),zO 3 (.box 41 (.tmp 1)),zO 4 (.assign (.const (.bool false)))]
instance : Live z7h := ⟨[0,1]⟩
def z7g : List SOp := [zF 5 41 2 0,zL 6 3 5,zF 7 41 3 0,zL 8 3 7,zO 9 (.binOp .lss 3 (.tmp 6) (.tmp 8) 3),zM 10 9,⟨some 11,.fieldAddr 41 (.tmp 2) 0,some ((some 10),false)⟩,⟨some 12,.load 3 (.tmp 11),some ((some 10),false)⟩,⟨some 13,.fieldAddr 41 (.tmp 3) 0,some ((some 10),false)⟩,⟨some 14,.load 3 (.tmp 13),some ((some 10),false)⟩,⟨some 15,.binOp .eql 3 (.tmp 12) (.tmp 14) 3,some ((some 10),false)⟩,⟨some 16,.move (.tmp 15),some ((some 10),false)⟩,⟨some 17,.fieldAddr 41 (.tmp 2) 1,some ((some 16),true)⟩,⟨some 18,.load 3 (.tmp 17),some ((some 16),true)⟩,⟨some 19,.fieldAddr 41 (.tmp 3) 1,some ((some 16),true)⟩,⟨some 20,.load 3 (.tmp 19),some ((some 16),true)⟩,⟨some 21,.binOp .lss 3 (.tmp 18) (.tmp 20) 3,some ((some 16),true)⟩,⟨some 22,.pick (.tmp 16) (.tmp 21) (.const (.bool false)),some ((some 10),false)⟩,zO 23 (.pick (.tmp 10) (.const (.bool true)) (.tmp 22)),zG 4 23]
instance : Live z7g := ⟨[2,3]⟩
def t_k116 : SC :=
 (.seq (.ops false z7h) (.seq (.ops false z7g) .ret))
theorem it_k116 : FnIs Tryz.prog 116 24 [.tmp 4] t_k116 := ⟨Tryz.f116, _, Tryz.func116, rfl, rfl, rfl, rfl, by kernel_rfl⟩

def zin : List SOp := [zO 2 (.assign (.const (.bool false)))]
instance : Live zin := ⟨[0]⟩
def zim : List SOp := [zO 3 (.assign (.const (.int .i64 0)))]
instance : Live zim := ⟨[0]⟩
def zil : List SOp := [zM 4 3,zM 5 0,zO 6 (.call ⟨.builtin .len,#[.tmp 5],#[22]⟩),zO 7 (.binOp .lss 3 (.tmp 4) (.tmp 6) 3)]
instance : Live zil := ⟨[0,3]⟩
def zik : List SOp := [zM 10 0,zM 11 3,zI 12 22 10 11,zL 13 62 12,zO 14 (.call ⟨.value (.func 115),#[.tmp 13],#[62]⟩),zO 15 (.unOp .not 4 (.tmp 14)),zM 16 15,⟨some 17,.move (.tmp 3),some ((some 16),false)⟩,⟨some 18,.binOp .gtr 3 (.tmp 17) (.const (.int .i64 0)) 3,some ((some 16),false)⟩,⟨some 19,.move (.tmp 18),some ((some 16),false)⟩,⟨some 20,.move (.tmp 0),some ((some 19),true)⟩,⟨some 21,.move (.tmp 3),some ((some 19),true)⟩,⟨some 22,.binOp .sub 3 (.tmp 21) (.const (.int .i64 1)) 3,some ((some 19),true)⟩,⟨some 23,.indexAddr 22 (.tmp 20) (.tmp 22),some ((some 19),true)⟩,⟨some 24,.fieldAddr 62 (.tmp 23) 0,some ((some 19),true)⟩,⟨some 25,.load 41 (.tmp 24),some ((some 19),true)⟩,⟨some 26,.move (.tmp 0),some ((some 19),true)⟩,⟨some 27,.move (.tmp 3),some ((some 19),true)⟩,⟨some 28,.indexAddr 22 (.tmp 26) (.tmp 27),some ((some 19),true)⟩,⟨some 29,.fieldAddr 62 (.tmp 28) 0,some ((some 19),true)⟩,⟨some 30,.load 41 (.tmp 29),some ((some 19),true)⟩,⟨some 31,.call ⟨.value (.func 116),#[.tmp 25,.tmp 30],#[41,41]⟩,some ((some 19),true)⟩,⟨some 32,.unOp .not 4 (.tmp 31),some ((some 19),true)⟩,⟨some 33,.pick (.tmp 19) (.tmp 32) (.const (.bool false)),some ((some 16),false)⟩,zO 34 (.pick (.tmp 16) (.const (.bool true)) (.tmp 33))]
instance : Live zik := ⟨[0,3]⟩
def zij : List SOp := [zO 2 (.assign (.const (.bool false)))]
instance : Live zij := ⟨[]⟩
def zii : List SOp := [zM 8 3,zO 9 (.binOp .add 3 (.tmp 8) (.const (.int .i64 1)) 3),zG 3 9]
instance : Live zii := ⟨[0,3]⟩
def zih : List SOp := [zO 2 (.assign (.const (.bool true)))]
instance : Live zih := ⟨[]⟩
def qtx : SC :=
 (.seq (.seq (.ops false zil) (.cond (.tmp 7) .skip (.exit 0))) (.seq (.block 1 (.seq (.ops true zik) (.cond (.tmp 34) (.seq (.ops false zij) .ret) .skip))) (.ops false zii)))
def t_k67 : SC :=
 (.seq (.ops false zin) (.seq (.seq (.ops false zim) (.block 0 (.loop qtx))) (.seq (.ops false zih) .ret)))
theorem it_k67 : FnIs Tryz.prog 67 35 [.tmp 2] t_k67 := ⟨Tryz.f67, _, Tryz.func67, rfl, rfl, rfl, rfl, by kernel_rfl⟩

def z7d : List SOp := [zO 1 (.box 91 (.tmp 0)),zO 2 (.assign (.const (.bool false)))]
instance : Live z7d := ⟨[0]⟩
def z7c : List SOp := [zF 3 91 1 0,zL 4 9 3,zO 5 (.binOp .eql 9 (.tmp 4) (.const (.string ⟨#[]⟩)) 9),zM 6 5,⟨some 7,.fieldAddr 91 (.tmp 1) 0,some ((some 6),false)⟩,⟨some 8,.load 9 (.tmp 7),some ((some 6),false)⟩,⟨some 9,.call ⟨.value (.func 146),#[.tmp 8],#[9]⟩,some ((some 6),false)⟩,zO 10 (.pick (.tmp 6) (.const (.bool true)) (.tmp 9)),zM 11 10,⟨some 12,.fieldAddr 91 (.tmp 1) 1,some ((some 11),true)⟩,⟨some 13,.load 26 (.tmp 12),some ((some 11),true)⟩,⟨some 14,.call ⟨.value (.func 68),#[.tmp 13],#[26]⟩,some ((some 11),true)⟩,zO 15 (.pick (.tmp 11) (.tmp 14) (.const (.bool false))),zM 16 15,⟨some 17,.fieldAddr 91 (.tmp 1) 1,some ((some 16),true)⟩,⟨some 18,.load 26 (.tmp 17),some ((some 16),true)⟩,⟨some 19,.call ⟨.value (.func 76),#[.tmp 18],#[26]⟩,some ((some 16),true)⟩,⟨some 20,.unOp .not 4 (.tmp 19),some ((some 16),true)⟩,zO 21 (.pick (.tmp 16) (.tmp 20) (.const (.bool false))),zG 2 21]
instance : Live z7c := ⟨[1]⟩
def t_k118 : SC :=
 (.seq (.ops false z7d) (.seq (.ops false z7c) .ret))
theorem it_k118 : FnIs Tryz.prog 118 22 [.tmp 2] t_k118 := ⟨Tryz.f118, _, Tryz.func118, rfl, rfl, rfl, rfl, by kernel_rfl⟩

def zie : List SOp := [zO 2 (.assign (.const (.bool false)))]
instance : Live zie := ⟨[0]⟩
def zid : List SOp := [zO 3 (.assign (.const (.int .i64 0)))]
instance : Live zid := ⟨[0]⟩
def zic : List SOp := [zM 6 3,zM 7 0,zO 8 (.call ⟨.builtin .len,#[.tmp 7],#[27]⟩),zO 9 (.binOp .lss 3 (.tmp 6) (.tmp 8) 3)]
instance : Live zic := ⟨[0,3]⟩
def zib : List SOp := [zM 12 0,zM 13 3,zI 14 27 12 13,zL 15 91 14,zO 16 (.call ⟨.value (.func 118),#[.tmp 15],#[91]⟩),zO 17 (.unOp .not 4 (.tmp 16))]
instance : Live zib := ⟨[0,3]⟩
def zia : List SOp := [zO 2 (.assign (.const (.bool false)))]
instance : Live zia := ⟨[]⟩
def zi9 : List SOp := [zM 18 3,zO 19 (.binOp .gtr 3 (.tmp 18) (.const (.int .i64 0)) 3)]
instance : Live zi9 := ⟨[0,3]⟩
def qs3 : List SOp := [zM 20 0,zM 21 3,zO 22 (.binOp .sub 3 (.tmp 21) (.const (.int .i64 1)) 3),zI 23 27 20 22,zL 24 91 23,zM 25 0,zM 26 3,zI 27 27 25 26,zL 28 91 27,zO 4 (.alloc 91),zO 5 (.alloc 91),⟨none,.store 91 (.tmp 4) (.tmp 24),none⟩,⟨none,.store 91 (.tmp 5) (.tmp 28),none⟩]
instance : Live qs3 := ⟨[0,3]⟩
instance : Rd qs3 := ⟨fun j => j == 0⟩
def zi8 : List SOp := [zF 29 91 4 0,zL 30 9 29,zF 31 91 5 0,zL 32 9 31,zO 33 (.binOp .gtr 9 (.tmp 30) (.tmp 32) 9),zM 34 33,⟨some 35,.fieldAddr 91 (.tmp 4) 0,some ((some 34),false)⟩,⟨some 36,.load 9 (.tmp 35),some ((some 34),false)⟩,⟨some 37,.fieldAddr 91 (.tmp 5) 0,some ((some 34),false)⟩,⟨some 38,.load 9 (.tmp 37),some ((some 34),false)⟩,⟨some 39,.binOp .eql 9 (.tmp 36) (.tmp 38) 9,some ((some 34),false)⟩,⟨some 40,.move (.tmp 39),some ((some 34),false)⟩,⟨some 41,.fieldAddr 91 (.tmp 4) 1,some ((some 40),true)⟩,⟨some 42,.load 26 (.tmp 41),some ((some 40),true)⟩,⟨some 43,.fieldAddr 91 (.tmp 5) 1,some ((some 40),true)⟩,⟨some 44,.load 26 (.tmp 43),some ((some 40),true)⟩,⟨some 45,.call ⟨.value (.func 119),#[.tmp 42,.tmp 44],#[26,26]⟩,some ((some 40),true)⟩,⟨some 46,.binOp .geq 3 (.tmp 45) (.const (.int .i64 0)) 3,some ((some 40),true)⟩,⟨some 47,.pick (.tmp 40) (.tmp 46) (.const (.bool false)),some ((some 34),false)⟩,zO 48 (.pick (.tmp 34) (.const (.bool true)) (.tmp 47))]
instance : Live zi8 := ⟨[0,3,4,5]⟩
def zi7 : List SOp := [zO 2 (.assign (.const (.bool false)))]
instance : Live zi7 := ⟨[]⟩
def qvu : List SOp := [zM 10 3,zO 11 (.binOp .add 3 (.tmp 10) (.const (.int .i64 1)) 3),zG 3 11]
instance : Live qvu := ⟨[0,3]⟩
def qvt : List SOp := [zO 2 (.assign (.const (.bool true)))]
instance : Live qvt := ⟨[]⟩
def qtw : SC :=
 (.seq (.seq (.ops false zic) (.cond (.tmp 9) .skip (.exit 0))) (.seq (.block 1 (.seq (.seq (.ops false zib) (.cond (.tmp 17) (.seq (.ops false zia) .ret) .skip)) (.seq (.ops false zi9) (.cond (.tmp 19) (.seq (.opsW [] qs3) (.seq (.ops false zi8) (.cond (.tmp 48) (.seq (.ops false zi7) .ret) .skip))) .skip)))) (.ops false qvu)))
def t_k69 : SC :=
 (.seq (.ops false zie) (.seq (.seq (.ops false zid) (.block 0 (.loop qtw))) (.seq (.ops false qvt) .ret)))
theorem it_k69 : FnIs Tryz.prog 69 49 [.tmp 2] t_k69 := ⟨Tryz.f69, _, Tryz.func69, rfl, rfl, rfl, rfl, by kernel_rfl⟩

def zhu : List SOp := [zO 1 (.box 29 (.tmp 0)),zO 2 (.assign (.const (.bool false)))]
instance : Live zhu := ⟨[0]⟩
def zht : List SOp := [zF 3 29 1 0,zL 4 22 3,zO 5 (.call ⟨.value (.func 67),#[.tmp 4],#[22]⟩),zM 6 5,⟨some 7,.fieldAddr 29 (.tmp 1) 1,some ((some 6),true)⟩,⟨some 8,.load 26 (.tmp 7),some ((some 6),true)⟩,⟨some 9,.call ⟨.value (.func 68),#[.tmp 8],#[26]⟩,some ((some 6),true)⟩,zO 10 (.pick (.tmp 6) (.tmp 9) (.const (.bool false))),zM 11 10,⟨some 12,.fieldAddr 29 (.tmp 1) 2,some ((some 11),true)⟩,⟨some 13,.load 27 (.tmp 12),some ((some 11),true)⟩,⟨some 14,.call ⟨.value (.func 69),#[.tmp 13],#[27]⟩,some ((some 11),true)⟩,zO 15 (.pick (.tmp 11) (.tmp 14) (.const (.bool false))),zG 2 15]
instance : Live zht := ⟨[1]⟩
def t_k75 : SC :=
 (.seq (.ops false zhu) (.seq (.ops false zht) .ret))
theorem it_k75 : FnIs Tryz.prog 75 16 [.tmp 2] t_k75 := ⟨Tryz.f75, _, Tryz.func75, rfl, rfl, rfl, rfl, by kernel_rfl⟩

def zhw : List SOp := [zO 2 (.box 91 (.tmp 0)),zO 3 (.box 62 (.tmp 1)),zO 4 (.assign (.const (.bool false)))]
instance : Live zhw := ⟨[0,1]⟩
def zhv : List SOp := [zF 5 91 2 0,zL 6 9 5,zO 7 (.binOp .eql 9 (.tmp 6) (.const (.string ⟨#[]⟩)) 9),zM 8 7,⟨some 9,.fieldAddr 91 (.tmp 2) 0,some ((some 8),false)⟩,⟨some 10,.load 9 (.tmp 9),some ((some 8),false)⟩,⟨some 11,.fieldAddr 62 (.tmp 3) 1,some ((some 8),false)⟩,⟨some 12,.load 9 (.tmp 11),some ((some 8),false)⟩,⟨some 13,.binOp .eql 9 (.tmp 10) (.tmp 12) 9,some ((some 8),false)⟩,zO 14 (.pick (.tmp 8) (.const (.bool true)) (.tmp 13)),zM 15 14,⟨some 16,.fieldAddr 91 (.tmp 2) 1,some ((some 15),true)⟩,⟨some 17,.load 26 (.tmp 16),some ((some 15),true)⟩,⟨some 18,.fieldAddr 62 (.tmp 3) 0,some ((some 15),true)⟩,⟨some 19,.load 41 (.tmp 18),some ((some 15),true)⟩,⟨some 20,.call ⟨.value (.func 62),#[.tmp 17,.tmp 19],#[26,41]⟩,some ((some 15),true)⟩,zO 21 (.pick (.tmp 15) (.tmp 20) (.const (.bool false))),zG 4 21]
instance : Live zhv := ⟨[2,3]⟩
def t_k72 : SC :=
 (.seq (.ops false zhw) (.seq (.ops false zhv) .ret))
theorem it_k72 : FnIs Tryz.prog 72 22 [.tmp 4] t_k72 := ⟨Tryz.f72, _, Tryz.func72, rfl, rfl, rfl, rfl, by kernel_rfl⟩

theorem ev_k115 (e : Ent) : Ev (En Tryz.prog rfl).P 115 [qcn e] (.ret (.bool (decide (q2b e = 0)))) := by
 refine Ev.of_body it_k115 (by simp) (Run.start ?_)
 unfold t_k115 qcn
 have c1 := zr6 e.dot
 have c0 := zr3 e.sku
 have hee := zdp e
 change Ev _ _ _ (.ret (.bool (q44 e.rep e.num))) at c1
 generalize q44 e.rep e.num = v1 at c1 hee
 generalize q88 e.sku = v2 at c0 hee
 generalize q2b e = u at hee ⊢
 (have hF := True.intro; refine q01 (k:=?_); clear hF)
 refine q00 [q47 e.dot] (he := c1) (k:=?_)
 cases v1
 ·rw [decide_eq_false (fun h => by have := (hee.1 h).1; simp at this)]
  (have hF := True.intro; refine q01 (k:=?_); clear hF)
  exact Fin.tmp' rfl rfl
 ·(have hF := True.intro; refine q01 (k:=?_); clear hF)
  refine q00 [.str e.sku] (he := c0) (k:=?_)
  cases v2
  ·rw [decide_eq_false (fun h => by have := (hee.1 h).2.1; simp at this)]
   (have hF := True.intro; refine q01 (k:=?_); clear hF)
   exact Fin.tmp' rfl rfl
  ·by_cases h3 : e.qty < 1
   ·rw [decide_eq_false (fun h => (hee.1 h).2.2.1 h3)]
    (have hF := True.intro; refine q01 (k:=?_); clear hF)
    exact Fin.tmp' rfl rfl
   ·by_cases h4 : 1000000 < e.qty
    ·rw [decide_eq_false (fun h => (hee.1 h).2.2.2 h4)]
     (have hF := True.intro; refine q01 (k:=?_); clear hF)
     exact Fin.tmp' rfl rfl
    ·rw [decide_eq_true (hee.2 ⟨rfl, rfl, h3, h4⟩)]
     (have hF := True.intro; refine q01 (k:=?_); clear hF)
     exact Fin.tmp' rfl rfl
theorem qsr (a b : Rn) : Ev (En Tryz.prog rfl).P 116 [q47 a, q47 b] (.ret (.bool (q3h a b))) := by
 refine Ev.of_body it_k116 (by simp) (Run.start ?_)
 unfold t_k116 q47 q3h
 by_cases h1 : a.1 < b.1
 ·rw [show (decide (a.1 < b.1) || (decide (a.1 = b.1) && decide (a.2 < b.2))) = true by simp [h1]]
  (have hF := True.intro; refine q01 (k:=?_); clear hF)
  exact Fin.tmp' rfl rfl
 ·by_cases h2 : a.1 = b.1
  ·rw [show (decide (a.1 < b.1) || (decide (a.1 = b.1) && decide (a.2 < b.2))) = decide (a.2 < b.2) by simp [h1, h2]]
   (have hF := True.intro; refine q01 (k:=?_); clear hF)
   exact Fin.tmp' rfl rfl
  ·rw [show (decide (a.1 < b.1) || (decide (a.1 = b.1) && decide (a.2 < b.2))) = false by simp [h1, h2]]
   (have hF := True.intro; refine q01 (k:=?_); clear hF)
   exact Fin.tmp' rfl rfl
theorem ev_k67 (l : List Ent) (hl : l.length ≤ 1000000000) : Ev (En Tryz.prog rfl).P 67 [.sl 4 (q0a l)] (.ret (.bool (q6v l))) := by
 refine Ev.of_body it_k67 (by simp) (Run.start ?_)
 unfold t_k67
 have e1 := q0o l
 have hS := qrk
 (have hF := @e1; refine q01 (k:=?_); clear hF)
 refine Run.while (σ := Nat) (fun i => ⟨tms [(0, .sl 4 (q0a l)), (3, .int .i64 (i : Int))], mms []⟩)
  (fun i => i ≤ l.length ∧ (∀ (j : Nat) q, j < i → l[j]? = some q → q2b q = 0) ∧ ∀ (j : Nat) a b, j + 1 < i → l[j]? = some a → l[j + 1]? = some b → q3h a.dot b.dot = true) (fun i => l.length - i) 0 (have hW := @q09; q0g) ⟨Nat.zero_le _, fun j q hj => absurd hj (Nat.not_lt_zero _), fun j a b hj => by omega⟩ ?_
 rintro i ⟨hi, hI⟩
 unfold qtx
 by_cases hlt : i < l.length
 ·obtain ⟨r, hr⟩ : ∃ r, l[i]? = some r := ⟨l[i], by simp [hlt]⟩
  have g1 := q16 hr
  have c1 := ev_k115 r
  have hst := fun h0 h1 => qgu hr hI h0 h1
  have hbad : q2b r ≠ 0 → ¬ q80 l := fun h hf => h (hf.1 i r hr)
  generalize q2b r = v at c1 hst hbad
  (have hF := (aI @e1 @g1); refine q01 (k:=?_); clear hF)
  refine q00 [qcn r] (he := c1) (k:=?_)
  by_cases hv : v = 0
  ·rw [decide_eq_true hv]
   have hst := hst hv
   by_cases h0 : i = 0
   ·have hst := hst (fun q hq => by omega)
    subst h0
    (have hF := (aI @e1 @g1); refine q01 (k:=?_); clear hF)
    (refine Fin.nextW (0 + 1) ?_ (have hW := @q09; q0g); (try dsimp only))
    exact ⟨⟨hlt, hst⟩, by omega⟩
   ·obtain ⟨q, hq⟩ : ∃ q, l[i - 1]? = some q := ⟨l[i - 1]'(by omega), by simp [show i - 1 < l.length by omega]⟩
    have g2 := q16 hq
    have hpw : IntKind.i64.wrap ((i : Int) - 1) = ((i - 1 : Nat) : Int) := by rw [q2d (by omega)]; omega
    have c2 := qsr q.dot r.dot
    have hbad2 : q3h q.dot r.dot = false → ¬ q80 l := fun h hf => by
     have := hf.2 (i - 1) q r hq (by rw [show i - 1 + 1 = i by omega]; exact hr)
     rw [h] at this
     cases this
    have hst : q3h q.dot r.dot = true → _ := fun h => hst (fun q' _ hq' => by rw [hq] at hq'; cases hq'; exact h)
    generalize q3h q.dot r.dot = u at c2 hst hbad2
    (have hF := (aI (aI @e1 @g1) (aI @g2 @hpw)); refine q01 (k:=?_); clear hF)
    refine q00 [q47 q.dot, q47 r.dot] (he := c2) (k:=?_)
    cases u
    ·rw [q7v (hbad2 rfl)]
     (have hF := (aI @e1 @g1); refine q01 (k:=?_); clear hF)
     exact Fin.tmp' rfl rfl
    ·have hst := hst rfl
     (have hF := (aI @e1 @g1); refine q01 (k:=?_); clear hF)
     (refine Fin.nextW (i + 1) ?_ (have hW := @q09; q0g); (try dsimp only))
     exact ⟨⟨hlt, hst⟩, by omega⟩
  ·rw [decide_eq_false hv, q7v (hbad hv)]
   (have hF := (aI @e1 @g1); refine q01 (k:=?_); clear hF)
   exact Fin.tmp' rfl rfl
 ·rw [q4j (qqf (by omega) hI)]
  (have hF := @e1; refine q01 (k:=?_); clear hF)
  exact Fin.tmp' rfl rfl
theorem zch (r : Rec) : q31 r = 0 ↔ (r.sku.size = 0 ∨ q88 r.sku = true) ∧ q18 r.past = true ∧ q2x r.past ≠ 0 := by
 unfold q31
 by_cases h1 : r.sku.size = 0 <;> cases h2 : q88 r.sku <;> cases h3 : q18 r.past <;> by_cases h4 : q2x r.past = 0 <;> simp [h1, h4]
theorem ev_k118 (r : Rec) (hw : wt r.past ≤ 30000000) : Ev (En Tryz.prog rfl).P 118 [q4w r] (.ret (.bool (decide (q31 r = 0)))) := by
 refine Ev.of_body it_k118 (by simp) (Run.start ?_)
 unfold t_k118 q4w
 have c1 := zr3 r.sku
 have c2 := zqs r.past (by omega)
 have c3 := zqq r.past (by omega)
 have e := q9j r.sku
 have hee := zch r
 generalize q88 r.sku = v1 at c1 hee
 generalize q18 r.past = v2 at c2 hee
 generalize q2x r.past = v3 at c3 hee
 generalize q31 r = u at hee ⊢
 by_cases h0 : r.sku.size = 0
 case' pos =>
  rw [eq_true h0] at e
  (have hF := (aI @e (aI @decide_true @Bool.not_true)); refine q01 (k:=?_); clear hF)
 case' neg =>
  rw [eq_false h0] at e
  cases v1
  case' false =>
   rw [decide_eq_false (fun h => by have := (hee.1 h).1; simp [h0] at this)]
  all_goals
   (have hF := (aI @e (aI @decide_false @Bool.not_false)); refine q01 (k:=?_); clear hF)
   refine q00 [.str r.sku] (he := c1) (k:=?_)
   (have hF := True.intro; refine q01 (k:=?_); clear hF)
  case' false => exact Fin.tmp' rfl rfl
 all_goals
  refine q00 [q0h r.past] (he := c2) (k:=?_)
  cases v2
  ·rw [decide_eq_false (fun h => by have := (hee.1 h).2.1; simp at this)]
   (have hF := True.intro; refine q01 (k:=?_); clear hF)
   exact Fin.tmp' rfl rfl
  ·(have hF := True.intro; refine q01 (k:=?_); clear hF)
   refine q00 [q0h r.past] (he := c3) (k:=?_)
   by_cases h3 : v3 = 0
   ·rw [decide_eq_false (fun h => (hee.1 h).2.2 h3), decide_eq_true h3]
    (have hF := True.intro; refine q01 (k:=?_); clear hF)
    exact Fin.tmp' rfl rfl
   ·rw [decide_eq_true (hee.2 ⟨by simp [h0], rfl, h3⟩), decide_eq_false h3]
    (have hF := True.intro; refine q01 (k:=?_); clear hF)
    exact Fin.tmp' rfl rfl

def z6d : List SOp := [zO 2 (.alloc 26)]
instance : Live z6d := ⟨[0]⟩
def z6c : List SOp := [zO 3 (.alloc 26)]
instance : Live z6c := ⟨[0,2]⟩
def z6b : List SOp := [zO 4 (.assign (.const (.int .i64 0)))]
instance : Live z6b := ⟨[0,2,3]⟩
def z6a : List SOp := [zM 5 4,zM 6 0,zO 7 (.call ⟨.builtin .len,#[.tmp 6],#[38]⟩),zO 8 (.binOp .lss 3 (.tmp 5) (.tmp 7) 3)]
instance : Live z6a := ⟨[0,2,3,4]⟩
def qi7 : List SOp := [zF 11 26 3 1,zL 12 24 11,zM 13 0,zM 14 4,zI 15 38 13 14,zF 16 41 15 0,zL 17 3 16,zM 18 0,zM 19 4,zI 20 38 18 19,zF 21 41 20 1,zL 22 3 21,zM 23 0,zM 24 4,zI 25 38 23 24,zF 26 41 25 1,zL 27 3 26,zO 28 (.build 127 #[(0,.tmp 17),(1,.tmp 22),(2,.tmp 27)]),zO 29 (.buildSlice 24 1 #[(0,.tmp 28)]),zO 30 (.call ⟨.builtin .append,#[.tmp 12,.tmp 29],#[24,24]⟩),zF 31 26 3 1,⟨none,.store 24 (.tmp 31) (.tmp 30),none⟩]
instance : Live qi7 := ⟨[0,2,3,4]⟩
instance : Rd qi7 := ⟨fun j => j == 0⟩
def z69 : List SOp := [zM 9 4,zO 10 (.binOp .add 3 (.tmp 9) (.const (.int .i64 1)) 3),zG 4 10]
instance : Live z69 := ⟨[0,2,3,4]⟩
def z68 : List SOp := [zL 32 26 3,zO 33 (.call ⟨.value (.func 117),#[.tmp 32],#[26]⟩),⟨none,.store 26 (.tmp 2) (.tmp 33),none⟩]
instance : Live z68 := ⟨[2,3]⟩
def qkw : SC :=
 (.seq (.seq (.ops false z6a) (.cond (.tmp 8) .skip (.exit 0))) (.seq (.block 1 (.opsW [12] qi7)) (.ops false z69)))
def t_k121 : SC :=
 (.seq (.ops false z6d) (.seq (.ops false z6c) (.seq (.seq (.ops false z6b) (.block 0 (.loop qkw))) (.seq (.ops false z68) .ret))))
theorem it_k121 : FnIs Tryz.prog 121 34 [.cell 2 26] t_k121 := ⟨Tryz.f121, _, Tryz.func121, rfl, rfl, rfl, rfl, by kernel_rfl⟩

def zi4 : List SOp := [zO 6 (.alloc 26)]
instance : Live zi4 := ⟨[0,1,2]⟩
def zi3 : List SOp := [zO 7 (.assign (.const (.slice none 0 0)))]
instance : Live zi3 := ⟨[0,1,2,6]⟩
def zi2 : List SOp := [zO 8 (.assign (.const (.int .i64 0)))]
instance : Live zi2 := ⟨[0,1,2,6,7]⟩
def zi1 : List SOp := [zM 9 8,zM 10 0,zO 11 (.call ⟨.builtin .len,#[.tmp 10],#[22]⟩),zO 12 (.binOp .lss 3 (.tmp 9) (.tmp 11) 3)]
instance : Live zi1 := ⟨[0,1,2,6,7,8]⟩
def zi0 : List SOp := [zM 15 1,zO 16 (.binOp .eql 9 (.tmp 15) (.const (.string ⟨#[]⟩)) 9),zM 17 16,⟨some 18,.move (.tmp 0),some ((some 17),false)⟩,⟨some 19,.move (.tmp 8),some ((some 17),false)⟩,⟨some 20,.indexAddr 22 (.tmp 18) (.tmp 19),some ((some 17),false)⟩,⟨some 21,.fieldAddr 62 (.tmp 20) 1,some ((some 17),false)⟩,⟨some 22,.load 9 (.tmp 21),some ((some 17),false)⟩,⟨some 23,.move (.tmp 1),some ((some 17),false)⟩,⟨some 24,.binOp .eql 9 (.tmp 22) (.tmp 23) 9,some ((some 17),false)⟩,zO 25 (.pick (.tmp 17) (.const (.bool true)) (.tmp 24)),zM 26 25,⟨some 27,.move (.tmp 2),some ((some 26),true)⟩,⟨some 28,.binOp .lss 3 (.tmp 27) (.const (.int .i64 0)) 3,some ((some 26),true)⟩,⟨some 29,.move (.tmp 28),some ((some 26),true)⟩,⟨some 30,.move (.tmp 0),some ((some 29),false)⟩,⟨some 31,.move (.tmp 8),some ((some 29),false)⟩,⟨some 32,.indexAddr 22 (.tmp 30) (.tmp 31),some ((some 29),false)⟩,⟨some 33,.fieldAddr 62 (.tmp 32) 0,some ((some 29),false)⟩,⟨some 34,.fieldAddr 41 (.tmp 33) 0,some ((some 29),false)⟩,⟨some 35,.load 3 (.tmp 34),some ((some 29),false)⟩,⟨some 36,.move (.tmp 2),some ((some 29),false)⟩,⟨some 37,.binOp .eql 3 (.tmp 35) (.tmp 36) 3,some ((some 29),false)⟩,⟨some 38,.pick (.tmp 29) (.const (.bool true)) (.tmp 37),some ((some 26),true)⟩,zO 39 (.pick (.tmp 26) (.tmp 38) (.const (.bool false)))]
instance : Live zi0 := ⟨[0,1,2,6,7,8]⟩
def zhz : List SOp := [zM 40 7,zM 41 0,zM 42 8,zI 43 22 41 42,zF 44 62 43 0,zL 45 41 44,zO 46 (.buildSlice 38 1 #[(0,.tmp 45)]),zO 47 (.call ⟨.builtin .append,#[.tmp 40,.tmp 46],#[38,38]⟩),zG 7 47]
instance : Live zhz := ⟨[0,1,2,6,7,8]⟩
def zhy : List SOp := [zM 13 8,zO 14 (.binOp .add 3 (.tmp 13) (.const (.int .i64 1)) 3),zG 8 14]
instance : Live zhy := ⟨[0,1,2,6,7,8]⟩
def zhx : List SOp := [zM 48 7,zO 49 (.call ⟨.value (.func 121),#[.tmp 48],#[38]⟩),⟨none,.store 26 (.tmp 6) (.tmp 49),none⟩]
instance : Live zhx := ⟨[6,7]⟩
def qtv : SC :=
 (.seq (.seq (.ops false zi1) (.cond (.tmp 12) .skip (.exit 0))) (.seq (.block 1 (.seq (.ops false zi0) (.cond (.tmp 39) (.ops false zhz) .skip))) (.ops false zhy)))
def t_k71 : SC :=
 (.seq (.ops false zi4) (.seq (.ops false zi3) (.seq (.seq (.ops false zi2) (.block 0 (.loop qtv))) (.seq (.ops false zhx) .ret))))
theorem it_k71 : FnIs Tryz.prog 71 50 [.cell 6 26] t_k71 := ⟨Tryz.f71, _, Tryz.func71, rfl, rfl, rfl, rfl, by kernel_rfl⟩

def zmv : List SOp := [zO 1 (.box 29 (.tmp 0)),zO 2 (.assign (.const (.int .i64 0)))]
instance : Live zmv := ⟨[0]⟩
def zmu : List SOp := [zL 4 29 1,zO 5 (.call ⟨.value (.func 75),#[.tmp 4],#[29]⟩),zO 6 (.unOp .not 4 (.tmp 5))]
instance : Live zmu := ⟨[1]⟩
def zmt : List SOp := [zO 2 (.assign (.const (.int .i64 1)))]
instance : Live zmt := ⟨[]⟩
def zms : List SOp := [zF 7 29 1 1,zL 8 26 7,zO 9 (.call ⟨.value (.func 76),#[.tmp 8],#[26]⟩),zO 10 (.unOp .not 4 (.tmp 9)),zG 3 10]
instance : Live zms := ⟨[1]⟩
def zmr : List SOp := [zF 12 29 1 0,zL 13 22 12,zO 14 (.call ⟨.builtin .len,#[.tmp 13],#[22]⟩),zO 15 (.binOp .eql 3 (.tmp 14) (.const (.int .i64 1)) 3),zM 16 15,⟨some 17,.fieldAddr 29 (.tmp 1) 2,some ((some 16),true)⟩,⟨some 18,.load 27 (.tmp 17),some ((some 16),true)⟩,⟨some 19,.call ⟨.builtin .len,#[.tmp 18],#[27]⟩,some ((some 16),true)⟩,⟨some 20,.binOp .eql 3 (.tmp 19) (.const (.int .i64 0)) 3,some ((some 16),true)⟩,zO 21 (.pick (.tmp 16) (.tmp 20) (.const (.bool false))),zG 11 21]
instance : Live zmr := ⟨[1,3]⟩
def zmq : List SOp := [zF 22 29 1 1,zL 23 26 22,zF 24 29 1 0,zL 25 22 24,zO 26 (.indexAddr 22 (.tmp 25) (.const (.int .i64 0))),zF 27 62 26 0,zF 28 41 27 0,zL 29 3 28,zO 30 (.call ⟨.value (.func 77),#[.tmp 23,.tmp 29],#[26,3]⟩),zF 31 29 1 0,zL 32 22 31,zO 33 (.indexAddr 22 (.tmp 32) (.const (.int .i64 0))),zF 34 62 33 0,zF 35 41 34 1,zL 36 3 35,zO 37 (.binOp .geq 3 (.tmp 30) (.tmp 36) 3)]
instance : Live zmq := ⟨[1]⟩
def zmp : List SOp := [zO 2 (.assign (.const (.int .i64 2)))]
instance : Live zmp := ⟨[]⟩
def zmo : List SOp := [zO 2 (.assign (.const (.int .i64 0)))]
instance : Live zmo := ⟨[]⟩
def zmn : List SOp := [zF 39 29 1 0,zL 40 22 39,zO 41 (.call ⟨.builtin .len,#[.tmp 40],#[22]⟩),zO 42 (.binOp .eql 3 (.tmp 41) (.const (.int .i64 0)) 3),zM 43 42,⟨some 44,.fieldAddr 29 (.tmp 1) 2,some ((some 43),true)⟩,⟨some 45,.load 27 (.tmp 44),some ((some 43),true)⟩,⟨some 46,.call ⟨.builtin .len,#[.tmp 45],#[27]⟩,some ((some 43),true)⟩,⟨some 47,.binOp .eql 3 (.tmp 46) (.const (.int .i64 0)) 3,some ((some 43),true)⟩,zO 48 (.pick (.tmp 43) (.tmp 47) (.const (.bool false))),zG 38 48]
instance : Live zmn := ⟨[1,3]⟩
def qwy : List SOp := [zO 2 (.assign (.const (.int .i64 0)))]
instance : Live qwy := ⟨[]⟩
def qwx : List SOp := [zF 50 29 1 0,zL 51 22 50,zO 52 (.call ⟨.builtin .len,#[.tmp 51],#[22]⟩),zO 53 (.binOp .eql 3 (.tmp 52) (.const (.int .i64 0)) 3),zM 54 53,⟨some 55,.fieldAddr 29 (.tmp 1) 2,some ((some 54),true)⟩,⟨some 56,.load 27 (.tmp 55),some ((some 54),true)⟩,⟨some 57,.call ⟨.builtin .len,#[.tmp 56],#[27]⟩,some ((some 54),true)⟩,⟨some 58,.binOp .eql 3 (.tmp 57) (.const (.int .i64 1)) 3,some ((some 54),true)⟩,zO 59 (.pick (.tmp 54) (.tmp 58) (.const (.bool false))),zM 60 59,⟨some 61,.move (.tmp 3),some ((some 60),true)⟩,⟨some 62,.unOp .not 4 (.tmp 61),some ((some 60),true)⟩,zO 63 (.pick (.tmp 60) (.tmp 62) (.const (.bool false))),zG 49 63]
instance : Live qwx := ⟨[1,3]⟩
def qww : List SOp := [zO 2 (.assign (.const (.int .i64 0)))]
instance : Live qww := ⟨[]⟩
def qwv : List SOp := [zO 2 (.assign (.const (.int .i64 2)))]
instance : Live qwv := ⟨[]⟩
def t_k35 : SC :=
 (.seq (.ops false zmv) (.seq (.seq (.ops false zmu) (.cond (.tmp 6) (.seq (.ops false zmt) .ret) .skip)) (.seq (.ops false zms) (.seq (.block 0 (.seq (.ops false zmr) (.cond (.tmp 11) (.seq (.seq (.ops true zmq) (.cond (.tmp 37) (.seq (.ops false zmp) .ret) .skip)) (.seq (.ops false zmo) .ret)) (.seq (.ops false zmn) (.cond (.tmp 38) (.seq (.ops false qwy) .ret) (.seq (.ops false qwx) (.cond (.tmp 49) (.seq (.ops false qww) .ret) .skip))))))) (.seq (.ops false qwv) .ret)))))
theorem it_k35 : FnIs Tryz.prog 35 64 [.tmp 2] t_k35 := ⟨Tryz.f35, _, Tryz.func35, rfl, rfl, rfl, rfl, by kernel_rfl⟩

theorem ev_k69 (l : List Rec) (hl : l.length ≤ 1000000000) (hw : ∀ r ∈ l, wt r.past ≤ 30000000) : Ev (En Tryz.prog rfl).P 69 [.sl 3 (q08 l)] (.ret (.bool (q34 l))) := by
 refine Ev.of_body it_k69 (by simp) (Run.start ?_)
 unfold t_k69
 have e1 := q0j l
 have hS := qc8
 (have hF := @e1; refine q01 (k:=?_); clear hF)
 refine Run.while (σ := Nat) (fun i => ⟨tms [(0, .sl 3 (q08 l)), (3, .int .i64 (i : Int))], mms []⟩)
  (fun i => i ≤ l.length ∧ (∀ (j : Nat) q, j < i → l[j]? = some q → q31 q = 0) ∧ ∀ (j : Nat) a b, j + 1 < i → l[j]? = some a → l[j + 1]? = some b → q3x a b < 0) (fun i => l.length - i) 0 (have hW := @q02; q0g) ⟨Nat.zero_le _, fun j q hj => absurd hj (Nat.not_lt_zero _), fun j a b hj => by omega⟩ ?_
 rintro i ⟨hi, hI⟩
 unfold qtw
 by_cases hlt : i < l.length
 ·obtain ⟨r, hr⟩ : ∃ r, l[i]? = some r := ⟨l[i], by simp [hlt]⟩
  have g1 := q0t hr
  have hwr := hw r (List.mem_of_getElem? hr)
  have c1 := ev_k118 r (by omega)
  have hst := fun h0 h1 => qgt hr hI h0 h1
  have hbad : q31 r ≠ 0 → ¬ q3s l := fun h hf => h (hf.1 i r hr)
  generalize q31 r = v at c1 hst hbad
  (have hF := (aI @e1 @g1); refine q01 (k:=?_); clear hF)
  refine q00 [q4w r] (he := c1) (k:=?_)
  by_cases hv : v = 0
  ·rw [decide_eq_true hv]
   have hst := hst hv
   by_cases h0 : i = 0
   ·have hst := hst (fun q hq => by omega)
    subst h0
    (have hF := (aI @e1 @g1); refine q01 (k:=?_); clear hF)
    (refine Fin.nextW (0 + 1) ?_ (have hW := @q02; q0g); (try dsimp only))
    exact ⟨⟨hlt, hst⟩, by omega⟩
   ·obtain ⟨q, hq⟩ : ∃ q, l[i - 1]? = some q := ⟨l[i - 1]'(by omega), by simp [show i - 1 < l.length by omega]⟩
    have g2 := q0t hq
    have hpw : IntKind.i64.wrap ((i : Int) - 1) = ((i - 1 : Nat) : Int) := by rw [q2d (by omega)]; omega
    have hwq := hw q (List.mem_of_getElem? hq)
    have c2 := zr5 q.past r.past (by omega) (by omega)
    have hbad2 : ¬ q3x q r < 0 → ¬ q3s l := fun h hf => h (hf.2 (i - 1) q r hq (by rw [show i - 1 + 1 = i by omega]; exact hr))
    have hst : q3x q r < 0 → _ := fun h => hst (fun q' _ hq' => by rw [hq] at hq'; cases hq'; exact h)
    have h1 := qqy q.sku r.sku
    have hrg : q8p q.sku r.sku = -1 ∨ q8p q.sku r.sku = 0 ∨ q8p q.sku r.sku = 1 := qbf _ _
    have h0 : (q.sku = r.sku) = (q8p q.sku r.sku = 0) := propext q4x.symm
    unfold q3x at hst hbad2
    generalize q8p q.sku r.sku = u at *
    rcases hrg with rfl | rfl | rfl
    ·rw [show decide ((-1 : Int) < 0) = true by decide] at h1
     rw [show ((-1 : Int) = 0) = False by simp] at h0
     have hst := hst (by simp)
     (have hF := (aI (aI @e1 (aI @g1 @g2)) (aI @hpw (aI @h1 @h0))); refine q01 (k:=?_); clear hF)
     (have hF := (aI (aI (aI @e1 @g1) (aI @g2 @hpw)) (aI (aI @h1 @h0) (aI @Bool.not_true (aI @Bool.true_or @decide_false)))); refine q6q (k:=?_); clear hF)
     (refine Fin.nextW (i + 1) ?_ (have hW := @q02; q0g); (try dsimp only))
     exact ⟨⟨hlt, hst⟩, by omega⟩
    ·rw [show decide ((0 : Int) < 0) = false by decide] at h1
     rw [show ((0 : Int) = 0) = True by simp] at h0
     simp only [if_true] at hst hbad2
     generalize cmpP q.past r.past = u at c2 hst hbad2
     (have hF := (aI (aI @e1 (aI @g1 @g2)) (aI @hpw (aI @h1 @h0))); refine q01 (k:=?_); clear hF)
     (have hF := (aI (aI (aI @e1 @g1) (aI @g2 (aI @hpw @h1))) (aI (aI @h0 @Bool.not_true) (aI @Bool.or_true (aI @Bool.false_or @decide_true)))); refine q6q (k:=?_); clear hF)
     refine q00 [q0h q.past, q0h r.past] (he := c2) (k:=?_)
     by_cases hu : u < 0
     ·have hst := hst hu
      (have hF := (aI @e1 @g1); refine q01 (k:=?_); clear hF)
      (refine Fin.nextW (i + 1) ?_ (have hW := @q02; q0g); (try dsimp only))
      exact ⟨⟨hlt, hst⟩, by omega⟩
     ·rw [q5z (hbad2 hu)]
      (have hF := (aI @e1 @g1); refine q01 (k:=?_); clear hF)
      exact Fin.tmp' rfl rfl
    ·rw [show decide ((1 : Int) < 0) = false by decide] at h1
     rw [show ((1 : Int) = 0) = False by simp] at h0
     rw [q5z (hbad2 (by simp))]
     (have hF := (aI (aI @e1 (aI @g1 @g2)) (aI @hpw (aI @h1 @h0))); refine q01 (k:=?_); clear hF)
     (have hF := (aI (aI (aI @e1 @g1) (aI @g2 @hpw)) (aI (aI @h1 @h0) (aI @Bool.not_false (aI @Bool.or_false @decide_false)))); refine q6q (k:=?_); clear hF)
     exact Fin.tmp' rfl rfl
  ·rw [decide_eq_false hv, q5z (hbad hv)]
   (have hF := (aI @e1 @g1); refine q01 (k:=?_); clear hF)
   exact Fin.tmp' rfl rfl
 ·rw [q2s ⟨fun j q hq => hI.1 j q (by
   rcases Nat.lt_or_ge j l.length with h | h
   ·omega
   ·rw [List.getElem?_eq_none h] at hq; cases hq) hq, fun j a b ha hb => hI.2 j a b (by
   rcases Nat.lt_or_ge (j + 1) l.length with h | h
   ·omega
   ·rw [List.getElem?_eq_none h] at hb; cases hb) ha hb⟩]
  (have hF := @e1; refine q01 (k:=?_); clear hF)
  exact Fin.tmp' rfl rfl
theorem ev_k75 (f : Fct) (hw : wtF f ≤ 30000000) : Ev (En Tryz.prog rfl).P 75 [q5e f] (.ret (.bool (zqd f))) := by
 refine Ev.of_body it_k75 (by simp) (Run.start ?_)
 unfold t_k75 q5e
 obtain ⟨w1, w2, w3, w4, w5⟩ := q3l hw
 have hS := qc8
 have hcs := q81 f.adds f.gone.vec f.gone.cloud f.recs
 have c1 := ev_k67 f.adds (by omega)
 have c2 := zqs f.gone (by omega)
 have c3 := ev_k69 f.recs (by omega) (fun r hr => by have := w5 r hr; omega)
 have hch := qcf (f := f)
 cases h1 : q6v f.adds
 ·rw [h1] at c1
  rw [q38 (fun h => by have := (hch.1 h).1; rw [h1] at this; cases this)]
  (have hF := @hcs; refine q01 (k:=?_); clear hF)
  refine q00 [.sl 4 (q0a f.adds)] (he := c1) (k:=?_)
  (have hF := @hcs; refine q01 (k:=?_); clear hF)
  exact Fin.tmp' rfl rfl
 ·rw [h1] at c1
  cases h2 : q18 f.gone
  ·rw [h2] at c2
   rw [q38 (fun h => by have := (hch.1 h).2.1; rw [h2] at this; cases this)]
   (have hF := @hcs; refine q01 (k:=?_); clear hF)
   refine q00 [.sl 4 (q0a f.adds)] (he := c1) (k:=?_)
   (have hF := @hcs; refine q01 (k:=?_); clear hF)
   refine q00 [q0h f.gone] (he := c2) (k:=?_)
   (have hF := @hcs; refine q01 (k:=?_); clear hF)
   exact Fin.tmp' rfl rfl
  ·rw [h2] at c2
   have hff : zqd f = q34 f.recs := by
    cases h3 : q34 f.recs
    ·exact q38 (fun h => by have := (hch.1 h).2.2; rw [h3] at this; cases this)
    ·exact q8x (hch.2 ⟨h1, h2, h3⟩)
   rw [hff]
   generalize q34 f.recs = v at *
   (have hF := @hcs; refine q01 (k:=?_); clear hF)
   refine q00 [.sl 4 (q0a f.adds)] (he := c1) (k:=?_)
   (have hF := @hcs; refine q01 (k:=?_); clear hF)
   refine q00 [q0h f.gone] (he := c2) (k:=?_)
   (have hF := @hcs; refine q01 (k:=?_); clear hF)
   refine q00 [.sl 3 (q08 f.recs)] (he := c3) (k:=?_)
   (have hF := @hcs; refine q01 (k:=?_); clear hF)
   exact Fin.tmp' rfl rfl
theorem ev_k35 (f : Fct) (hw : wtF f ≤ 30000000) : Ev (En Tryz.prog rfl).P 35 [q5e f] (.ret (.int .i64 (q3j f))) := by
 refine Ev.of_body it_k35 (by simp) (Run.start ?_)
 unfold t_k35
 obtain ⟨w1, w2, w3, w4, w5⟩ := q3l hw
 have hS := qc8
 have c1 := ev_k75 f hw
 unfold q5e at c1 ⊢
 have hcs := q81 f.adds f.gone.vec f.gone.cloud f.recs
 have c2 := zqq f.gone (by omega)
 by_cases hf : FormF f
 case' neg =>
  rw [q38 hf] at c1
  rw [qfc hf]
  (have hF := @hcs; refine q01 (k:=?_); clear hF)
  refine q00 [_] (he := c1) (k:=?_)
  (have hF := @hcs; refine q01 (k:=?_); clear hF)
  exact Fin.tmp' rfl rfl
 case' pos =>
  rw [q8x hf] at c1
  rw [qbr hf]
  have ea := q0o f.adds
  have er := q0j f.recs
  have hcs' := hcs
  generalize hA : f.adds = A at *
  generalize hR : f.recs = R at *
  rcases A with _ | ⟨e, _ | ⟨e2, t⟩⟩ <;> rcases R with _ | ⟨r, _ | ⟨r2, t2⟩⟩
  all_goals
   simp only [List.length_nil, List.length_cons, Nat.zero_add] at ea er
   (have hF := (aI @hcs (aI @ea @er)); refine q01 (k:=?_); clear hF)
   refine q00 [_] (he := c1) (k:=?_)
   (have hF := (aI @hcs (aI @ea @er)); refine q01 (k:=?_); clear hF)
   refine q00 [q0h f.gone] (he := c2) (k:=?_)
  ·(have hF := (aI @hcs (aI @ea @er)); refine q01 (k:=?_); clear hF)
   exact Fin.tmp' rfl rfl
  ·by_cases hs : q2x f.gone = 0
   ·simp only [hs, if_true, decide_true]
    (have hF := (aI @hcs (aI @ea @er)); refine q01 (k:=?_); clear hF)
    exact Fin.tmp' rfl rfl
   ·simp only [hs, if_false, decide_false]
    (have hF := (aI @hcs (aI @ea @er)); refine q01 (k:=?_); clear hF)
    exact Fin.tmp' rfl rfl
  ·(have hF := (aI @hcs (aI @ea @er)); refine q01 (k:=?_); clear hF)
   all_goals first | (exfalso; omega) | exact Fin.tmp' rfl rfl
  ·have g1 : (q0a [e])[0]? = some (.agg [.int .i64 e.rep, .int .i64 e.num, .str e.sku, .int .i64 e.qty]) := rfl
   have c3 := ev_k77 f.gone e.rep (by omega)
   (have hF := (aI (aI @hcs @ea) (aI @er @g1)); refine q01 (k:=?_); clear hF)
   refine q00 [q0h f.gone, .int .i64 e.rep] (he := c3) (k:=?_)
   by_cases hl : qcl f.gone e.rep < e.num
   ·simp only [hl, if_true]
    (have hF := (aI (aI @hcs @ea) (aI @er @g1)); refine q01 (k:=?_); clear hF)
    exact Fin.tmp' rfl rfl
   ·simp only [hl, if_false]
    (have hF := (aI (aI @hcs @ea) (aI @er @g1)); refine q01 (k:=?_); clear hF)
    exact Fin.tmp' rfl rfl
  all_goals
   (have hF := (aI @hcs (aI @ea @er)); refine q01 (k:=?_); clear hF)
   all_goals first | (exfalso; omega) | exact Fin.tmp' rfl rfl
def q5m (ds : List Rn) : List Sn := ds.map fun d => (d.1, d.2, d.2)
theorem qry {ds : List Rn} {i : Nat} {d : Rn} (h : ds[i]? = some d) : q5m (ds.take (i + 1)) = q5m (ds.take i) ++ [(d.1, d.2, d.2)] := by
 unfold q5m
 rw [List.take_add_one, h, List.map_append]
 rfl
theorem zcn (ds : List Rn) : q1g ⟨[], q5m ds⟩ = ofP ds := by
 refine (qay _).ext (canP_of2 ds) fun r hr n => ?_
 rw [qid _ hr, zpc ds hr]
 unfold inP q5m
 constructor
 ·rintro ⟨_, h1, h2, h3⟩
  refine ⟨h1, h2, ?_⟩
  rcases h3 with ⟨h3, _⟩ | ⟨s, hs, a1, a2, a3⟩
  ·simp at h3
  ·obtain ⟨d, hd, rfl⟩ := List.mem_map.1 hs
   simp only at a1 a2 a3
   have : d = ((r : Int), n) := by
    cases d with
    | mk x y => simp only at a1 a2 a3; rw [a1, show y = n by omega]
   rw [← this]
   exact hd
 ·rintro ⟨h1, h2, h3⟩
  exact ⟨hr, h1, h2, .inr ⟨((r : Int), n, n), List.mem_map.2 ⟨_, h3, rfl⟩, rfl, Int.le_refl _, Int.le_refl _⟩⟩
theorem ev_k121 (ds : List Rn) (hl : ds.length ≤ 10000000) : Ev (En Tryz.prog rfl).P 121 [.sl 2 (q07 ds)] (.ret (q0h (ofP ds))) := by
 refine Ev.of_body it_k121 (by simp) (Run.start ?_)
 unfold t_k121
 have e1 := q0w ds
 have hS := qc8
 (have hF := @e1; refine q01 (k:=?_); clear hF)
 refine Run.wk (Wk.own_cells (k := 3) (cs' := [.own 1 [], .own 3 []]) rfl rfl ?_) ?_
 ·intro i x y hx hy
  match i with
  | 0 => simp at hx hy; subst hx; subst hy; exact .inr ⟨rfl, 1, rfl⟩
  | 1 => simp at hx hy; subst hx; subst hy; exact .inr ⟨rfl, 3, rfl⟩
  | i + 2 => simp at hx
 refine Run.while (σ := Nat) (fun i => ⟨tms [(0, .sl 2 (q07 ds)), (2, .ptr 2 0), (3, .ptr 3 0), (4, .int .i64 (i : Int))], mms [(2, .cells [.nil, .nil]), (3, .cells [.own 1 [], .own 3 (q0c (q5m (ds.take i)))])]⟩)
  (fun i => i ≤ ds.length) (fun i => ds.length - i) 0 (have hW := @q06; q0g) (Nat.zero_le _) ?_
 intro i hi
 unfold qkw
 by_cases hlt : i < ds.length
 ·obtain ⟨d, hd⟩ : ∃ d, ds[i]? = some d := ⟨ds[i], by simp [hlt]⟩
  have g1 : (q07 ds)[i]? = some (.agg [.int .i64 d.1, .int .i64 d.2]) := q3a hd
  have hst := qry hd
  have hle : (q5m (ds.take i)).length ≤ ds.length := by unfold q5m; rw [List.length_map, List.length_take]; omega
  generalize q5m (ds.take i) = sp at *
  have e2 := q1n sp
  (have hF := (aI @e1 (aI @e2 @g1)); refine q01 (k:=?_); clear hF)
  (have hF := (aI @e1 (aI @e2 @g1)); refine q6q (k:=?_); clear hF)
  (refine Fin.nextW (i + 1) ?_ (have hW := (aI @q06 (aI @hst @q8y)); q0g); (try dsimp only))
  omega
 ·rw [List.take_of_length_le (show ds.length ≤ i by omega)]
  have hsl : (q5m ds).length = ds.length := by simp [q5m]
  have c1 := qj1 ⟨[], q5m ds⟩ (by show 0 + (q5m ds).length ≤ _; omega)
  rw [zcn] at c1
  refine Run.wk (Wk.freeze (k := 3) (cs := [.own 1 [], .own 3 (q0c (q5m ds))]) rfl) ?_
  (have hF := @e1; refine q01 (k:=?_); clear hF)
  refine q00 [q0h ⟨[], q5m ds⟩] (he := c1) (k:=?_)
  unfold q0h
  (have hF := @e1; refine q01 (k:=?_); clear hF)
  exact Fin.all (xs := [q0h (ofP ds)]) (by with_unfolding_all rfl) (by simp [q0k, q0s]) rfl

def zmh : List SOp := [zO 1 (.box 29 (.tmp 0)),zO 2 (.alloc 31)]
instance : Live zmh := ⟨[0]⟩
def zmg : List SOp := [zL 4 29 1,zO 5 (.call ⟨.value (.func 81),#[.tmp 4],#[29]⟩),zO 3 (.alloc 26),⟨none,.store 26 (.tmp 3) (.tmp 5),none⟩]
instance : Live zmg := ⟨[1,2]⟩
def zmf : List SOp := [zL 6 29 1,zO 7 (.call ⟨.value (.func 82),#[.tmp 6],#[29]⟩),zL 8 26 3,zF 9 29 1 2,zL 10 27 9,zL 11 26 3,zO 12 (.call ⟨.value (.func 83),#[.tmp 10,.tmp 11],#[27,26]⟩),zO 13 (.build 31 #[(0,.tmp 7),(1,.tmp 8),(2,.tmp 12)]),⟨none,.store 31 (.tmp 2) (.tmp 13),none⟩]
instance : Live zmf := ⟨[1,2,3]⟩
def t_k37 : SC :=
 (.seq (.ops false zmh) (.seq (.ops false zmg) (.seq (.ops true zmf) .ret)))
theorem it_k37 : FnIs Tryz.prog 37 14 [.cell 2 31] t_k37 := ⟨Tryz.f37, _, Tryz.func37, rfl, rfl, rfl, rfl, by kernel_rfl⟩


def zgy : List SOp := [zO 1 (.box 29 (.tmp 0)),zO 2 (.alloc 26)]
instance : Live zgy := ⟨[0]⟩
def zgx : List SOp := [zF 3 29 1 0,zL 4 22 3,zO 5 (.call ⟨.value (.func 71),#[.tmp 4,.const (.string ⟨#[]⟩),.const (.int .i64 (-1))],#[22,9,3]⟩),zF 6 29 1 1,zL 7 26 6,zO 8 (.buildSlice 116 2 #[(0,.tmp 5),(1,.tmp 7)]),zO 9 (.call ⟨.value (.func 79),#[.tmp 8],#[116]⟩),⟨none,.store 26 (.tmp 2) (.tmp 9),none⟩]
instance : Live zgx := ⟨[1,2]⟩
def t_k81 : SC :=
 (.seq (.ops false zgy) (.seq (.ops true zgx) .ret))
theorem it_k81 : FnIs Tryz.prog 81 10 [.cell 2 26] t_k81 := ⟨Tryz.f81, _, Tryz.func81, rfl, rfl, rfl, rfl, by kernel_rfl⟩

def zgw : List SOp := [zO 1 (.box 29 (.tmp 0)),zO 2 (.assign (.const (.slice none 0 0)))]
instance : Live zgw := ⟨[0]⟩
def zgv : List SOp := [zO 3 (.assign (.const (.slice none 0 0)))]
instance : Live zgv := ⟨[1]⟩
def zgu : List SOp := [zO 4 (.assign (.const (.int .i64 0)))]
instance : Live zgu := ⟨[1,3]⟩
def zgt : List SOp := [zM 7 4,zF 8 29 1 0,zL 9 22 8,zO 10 (.call ⟨.builtin .len,#[.tmp 9],#[22]⟩),zO 11 (.binOp .lss 3 (.tmp 7) (.tmp 10) 3)]
instance : Live zgt := ⟨[1,3,4]⟩
def zgs : List SOp := [zF 14 29 1 1,zL 15 26 14,zF 16 29 1 0,zL 17 22 16,zM 18 4,zI 19 22 17 18,zF 20 62 19 0,zL 21 41 20,zO 22 (.call ⟨.value (.func 62),#[.tmp 15,.tmp 21],#[26,41]⟩),zO 23 (.unOp .not 4 (.tmp 22)),zG 5 23]
instance : Live zgs := ⟨[1,3,4]⟩
def zgr : List SOp := [zO 6 (.assign (.const (.int .i64 0)))]
instance : Live zgr := ⟨[1,3,4,5]⟩
def zgq : List SOp := [zM 24 6,zF 25 29 1 2,zL 26 27 25,zO 27 (.call ⟨.builtin .len,#[.tmp 26],#[27]⟩),zO 28 (.binOp .lss 3 (.tmp 24) (.tmp 27) 3)]
instance : Live zgq := ⟨[1,3,4,5,6]⟩
def zgp : List SOp := [zM 31 5,zM 32 31,⟨some 33,.fieldAddr 29 (.tmp 1) 2,some ((some 32),true)⟩,⟨some 34,.load 27 (.tmp 33),some ((some 32),true)⟩,⟨some 35,.move (.tmp 6),some ((some 32),true)⟩,⟨some 36,.indexAddr 27 (.tmp 34) (.tmp 35),some ((some 32),true)⟩,⟨some 37,.load 91 (.tmp 36),some ((some 32),true)⟩,⟨some 38,.fieldAddr 29 (.tmp 1) 0,some ((some 32),true)⟩,⟨some 39,.load 22 (.tmp 38),some ((some 32),true)⟩,⟨some 40,.move (.tmp 4),some ((some 32),true)⟩,⟨some 41,.indexAddr 22 (.tmp 39) (.tmp 40),some ((some 32),true)⟩,⟨some 42,.load 62 (.tmp 41),some ((some 32),true)⟩,⟨some 43,.call ⟨.value (.func 72),#[.tmp 37,.tmp 42],#[91,62]⟩,some ((some 32),true)⟩,⟨some 44,.unOp .not 4 (.tmp 43),some ((some 32),true)⟩,zO 45 (.pick (.tmp 32) (.tmp 44) (.const (.bool false))),zG 5 45]
instance : Live zgp := ⟨[1,3,4,5,6]⟩
def zgo : List SOp := [zM 29 6,zO 30 (.binOp .add 3 (.tmp 29) (.const (.int .i64 1)) 3),zG 6 30]
instance : Live zgo := ⟨[1,3,4,5,6]⟩
def qvd : List SOp := [zM 46 5]
instance : Live qvd := ⟨[1,3,4,5]⟩
def qvc : List SOp := [zM 47 3,zF 48 29 1 0,zL 49 22 48,zM 50 4,zI 51 22 49 50,zL 52 62 51,zO 53 (.buildSlice 22 1 #[(0,.tmp 52)]),zO 54 (.call ⟨.builtin .append,#[.tmp 47,.tmp 53],#[22,22]⟩),zG 3 54]
instance : Live qvc := ⟨[1,3,4]⟩
def qvb : List SOp := [zM 12 4,zO 13 (.binOp .add 3 (.tmp 12) (.const (.int .i64 1)) 3),zG 4 13]
instance : Live qvb := ⟨[1,3,4]⟩
def qva : List SOp := [zM 55 3,zG 2 55]
instance : Live qva := ⟨[3]⟩
def qtr : SC :=
 (.seq (.seq (.ops false zgq) (.cond (.tmp 28) .skip (.exit 2))) (.seq (.block 3 (.ops true zgp)) (.ops false zgo)))
def qts : SC :=
 (.seq (.seq (.ops false zgt) (.cond (.tmp 11) .skip (.exit 0))) (.seq (.block 1 (.seq (.ops true zgs) (.seq (.seq (.ops false zgr) (.block 2 (.loop qtr))) (.seq (.ops false qvd) (.cond (.tmp 46) (.ops false qvc) .skip))))) (.ops false qvb)))
def t_k82 : SC :=
 (.seq (.ops false zgw) (.seq (.ops false zgv) (.seq (.seq (.ops false zgu) (.block 0 (.loop qts))) (.seq (.ops false qva) .ret))))
theorem it_k82 : FnIs Tryz.prog 82 56 [.tmp 2] t_k82 := ⟨Tryz.f82, _, Tryz.func82, rfl, rfl, rfl, rfl, by kernel_rfl⟩

def zgn : List SOp := [zO 3 (.box 26 (.tmp 1)),zO 4 (.assign (.const (.slice none 0 0)))]
instance : Live zgn := ⟨[0,1]⟩
def zgm : List SOp := [zO 5 (.assign (.const (.slice none 0 0)))]
instance : Live zgm := ⟨[0,3]⟩
def zgl : List SOp := [zO 6 (.assign (.const (.int .i64 0)))]
instance : Live zgl := ⟨[0,3,5]⟩
def zgk : List SOp := [zM 7 6,zM 8 0,zO 9 (.call ⟨.builtin .len,#[.tmp 8],#[27]⟩),zO 10 (.binOp .lss 3 (.tmp 7) (.tmp 9) 3)]
instance : Live zgk := ⟨[0,3,5,6]⟩
def zgj : List SOp := [zM 13 0,zM 14 6,zI 15 27 13 14,zF 16 91 15 1,zL 17 26 16,zL 18 26 3,zO 19 (.call ⟨.value (.func 70),#[.tmp 17,.tmp 18],#[26,26]⟩),zO 20 (.unOp .not 4 (.tmp 19))]
instance : Live zgj := ⟨[0,3,5,6]⟩
def zgi : List SOp := [zM 21 5,zM 22 0,zM 23 6,zI 24 27 22 23,zL 25 91 24,zO 26 (.buildSlice 27 1 #[(0,.tmp 25)]),zO 27 (.call ⟨.builtin .append,#[.tmp 21,.tmp 26],#[27,27]⟩),zG 5 27]
instance : Live zgi := ⟨[0,3,5,6]⟩
def zgh : List SOp := [zM 11 6,zO 12 (.binOp .add 3 (.tmp 11) (.const (.int .i64 1)) 3),zG 6 12]
instance : Live zgh := ⟨[0,3,5,6]⟩
def zgg : List SOp := [zM 28 5,zG 4 28]
instance : Live zgg := ⟨[5]⟩
def qtq : SC :=
 (.seq (.seq (.ops false zgk) (.cond (.tmp 10) .skip (.exit 0))) (.seq (.block 1 (.seq (.ops true zgj) (.cond (.tmp 20) (.ops false zgi) .skip))) (.ops false zgh)))
def t_k83 : SC :=
 (.seq (.ops false zgn) (.seq (.ops false zgm) (.seq (.seq (.ops false zgl) (.block 0 (.loop qtq))) (.seq (.ops false zgg) .ret))))
theorem it_k83 : FnIs Tryz.prog 83 29 [.tmp 4] t_k83 := ⟨Tryz.f83, _, Tryz.func83, rfl, rfl, rfl, rfl, by kernel_rfl⟩

def zo1 : List SOp := [zO 2 (.box 31 (.tmp 0)),zO 3 (.box 31 (.tmp 1)),zO 4 (.assign (.const (.bool false)))]
instance : Live zo1 := ⟨[0,1]⟩
def zo0 : List SOp := [zF 7 31 2 0,zL 8 22 7,zO 9 (.call ⟨.builtin .len,#[.tmp 8],#[22]⟩),zF 10 31 3 0,zL 11 22 10,zO 12 (.call ⟨.builtin .len,#[.tmp 11],#[22]⟩),zO 13 (.binOp .neq 3 (.tmp 9) (.tmp 12) 3),zM 14 13,⟨some 15,.fieldAddr 31 (.tmp 2) 1,some ((some 14),false)⟩,⟨some 16,.load 26 (.tmp 15),some ((some 14),false)⟩,⟨some 17,.fieldAddr 31 (.tmp 3) 1,some ((some 14),false)⟩,⟨some 18,.load 26 (.tmp 17),some ((some 14),false)⟩,⟨some 19,.call ⟨.value (.func 50),#[.tmp 16,.tmp 18],#[26,26]⟩,some ((some 14),false)⟩,⟨some 20,.unOp .not 4 (.tmp 19),some ((some 14),false)⟩,zO 21 (.pick (.tmp 14) (.const (.bool true)) (.tmp 20)),zM 22 21,⟨some 23,.fieldAddr 31 (.tmp 2) 2,some ((some 22),false)⟩,⟨some 24,.load 27 (.tmp 23),some ((some 22),false)⟩,⟨some 25,.call ⟨.builtin .len,#[.tmp 24],#[27]⟩,some ((some 22),false)⟩,⟨some 26,.fieldAddr 31 (.tmp 3) 2,some ((some 22),false)⟩,⟨some 27,.load 27 (.tmp 26),some ((some 22),false)⟩,⟨some 28,.call ⟨.builtin .len,#[.tmp 27],#[27]⟩,some ((some 22),false)⟩,⟨some 29,.binOp .neq 3 (.tmp 25) (.tmp 28) 3,some ((some 22),false)⟩,zO 30 (.pick (.tmp 22) (.const (.bool true)) (.tmp 29))]
instance : Live zo0 := ⟨[2,3]⟩
def znz : List SOp := [zO 4 (.assign (.const (.bool false)))]
instance : Live znz := ⟨[]⟩
def zny : List SOp := [zO 5 (.assign (.const (.int .i64 0)))]
instance : Live zny := ⟨[2,3]⟩
def znx : List SOp := [zM 31 5,zF 32 31 2 0,zL 33 22 32,zO 34 (.call ⟨.builtin .len,#[.tmp 33],#[22]⟩),zO 35 (.binOp .lss 3 (.tmp 31) (.tmp 34) 3)]
instance : Live znx := ⟨[2,3,5]⟩
def znw : List SOp := [zF 38 31 2 0,zL 39 22 38,zM 40 5,zI 41 22 39 40,zL 42 62 41,zF 43 31 3 0,zL 44 22 43,zM 45 5,zI 46 22 44 45,zL 47 62 46,zO 48 (.binOp .neq 62 (.tmp 42) (.tmp 47) 62)]
instance : Live znw := ⟨[2,3,5]⟩
def znv : List SOp := [zO 4 (.assign (.const (.bool false)))]
instance : Live znv := ⟨[]⟩
def znu : List SOp := [zM 36 5,zO 37 (.binOp .add 3 (.tmp 36) (.const (.int .i64 1)) 3),zG 5 37]
instance : Live znu := ⟨[2,3,5]⟩
def znt : List SOp := [zO 6 (.assign (.const (.int .i64 0)))]
instance : Live znt := ⟨[2,3]⟩
def z0p : List SOp := [zM 49 6,zF 50 31 2 2,zL 51 27 50,zO 52 (.call ⟨.builtin .len,#[.tmp 51],#[27]⟩),zO 53 (.binOp .lss 3 (.tmp 49) (.tmp 52) 3)]
instance : Live z0p := ⟨[2,3,6]⟩
def z0o : List SOp := [zF 56 31 2 2,zL 57 27 56,zM 58 6,zI 59 27 57 58,zF 60 91 59 0,zL 61 9 60,zF 62 31 3 2,zL 63 27 62,zM 64 6,zI 65 27 63 64,zF 66 91 65 0,zL 67 9 66,zO 68 (.binOp .neq 9 (.tmp 61) (.tmp 67) 9),zM 69 68,⟨some 70,.fieldAddr 31 (.tmp 2) 2,some ((some 69),false)⟩,⟨some 71,.load 27 (.tmp 70),some ((some 69),false)⟩,⟨some 72,.move (.tmp 6),some ((some 69),false)⟩,⟨some 73,.indexAddr 27 (.tmp 71) (.tmp 72),some ((some 69),false)⟩,⟨some 74,.fieldAddr 91 (.tmp 73) 1,some ((some 69),false)⟩,⟨some 75,.load 26 (.tmp 74),some ((some 69),false)⟩,⟨some 76,.fieldAddr 31 (.tmp 3) 2,some ((some 69),false)⟩,⟨some 77,.load 27 (.tmp 76),some ((some 69),false)⟩,⟨some 78,.move (.tmp 6),some ((some 69),false)⟩,⟨some 79,.indexAddr 27 (.tmp 77) (.tmp 78),some ((some 69),false)⟩,⟨some 80,.fieldAddr 91 (.tmp 79) 1,some ((some 69),false)⟩,⟨some 81,.load 26 (.tmp 80),some ((some 69),false)⟩,⟨some 82,.call ⟨.value (.func 50),#[.tmp 75,.tmp 81],#[26,26]⟩,some ((some 69),false)⟩,⟨some 83,.unOp .not 4 (.tmp 82),some ((some 69),false)⟩,zO 84 (.pick (.tmp 69) (.const (.bool true)) (.tmp 83))]
instance : Live z0o := ⟨[2,3,6]⟩
def z0n : List SOp := [zO 4 (.assign (.const (.bool false)))]
instance : Live z0n := ⟨[]⟩
def z0m : List SOp := [zM 54 6,zO 55 (.binOp .add 3 (.tmp 54) (.const (.int .i64 1)) 3),zG 6 55]
instance : Live z0m := ⟨[2,3,6]⟩
def z0l : List SOp := [zO 4 (.assign (.const (.bool true)))]
instance : Live z0l := ⟨[]⟩
def qud : SC :=
 (.seq (.seq (.ops false znx) (.cond (.tmp 35) .skip (.exit 0))) (.seq (.block 1 (.seq (.ops true znw) (.cond (.tmp 48) (.seq (.ops false znv) .ret) .skip))) (.ops false znu)))
def quc : SC :=
 (.seq (.seq (.ops false z0p) (.cond (.tmp 53) .skip (.exit 2))) (.seq (.block 3 (.seq (.ops true z0o) (.cond (.tmp 84) (.seq (.ops false z0n) .ret) .skip))) (.ops false z0m)))
def t_k15 : SC :=
 (.seq (.ops false zo1) (.seq (.seq (.ops false zo0) (.cond (.tmp 30) (.seq (.ops false znz) .ret) .skip)) (.seq (.seq (.ops false zny) (.block 0 (.loop qud))) (.seq (.seq (.ops false znt) (.block 2 (.loop quc))) (.seq (.ops false z0l) .ret)))))
theorem it_k15 : FnIs Tryz.prog 15 85 [.tmp 4] t_k15 := ⟨Tryz.f15, _, Tryz.func15, rfl, rfl, rfl, rfl, by kernel_rfl⟩

theorem ev_k71 (l : List Ent) (hl : l.length ≤ 10000000) : Ev (En Tryz.prog rfl).P 71 [.sl 4 (q0a l), .str ⟨#[]⟩, .int .i64 (-1)] (.ret (q0h (q3g l))) := by
 refine Ev.of_body it_k71 (by simp) (Run.start ?_)
 unfold t_k71
 have e1 := q0o l
 have hS := qc8
 (have hF := @e1; refine q01 (k:=?_); clear hF)
 refine Run.wk (Wk.own_nil 7 47 2 rfl rfl) ?_
 refine Run.while (σ := Nat) (fun i => ⟨tms [(0, .sl 4 (q0a l)), (1, .str ⟨#[]⟩), (2, .int .i64 (-1)), (6, .ptr 6 0), (7, .os 47 i), (8, .int .i64 (i : Int))], mms [(6, .cells [.nil, .nil]), (47, .arr i 2 (q07 ((l.take i).map Ent.dot)))]⟩)
  (fun i => i ≤ l.length) (fun i => l.length - i) 0 (have hW := (aI @q09 @q06); q0g) (Nat.zero_le _) ?_
 intro i hi
 unfold qtv
 by_cases hlt : i < l.length
 ·obtain ⟨e, he⟩ : ∃ e, l[i]? = some e := ⟨l[i], by simp [hlt]⟩
  have g1 := q16 he
  have hst : (l.take (i + 1)).map Ent.dot = (l.take i).map Ent.dot ++ [(e.rep, e.num)] := by rw [List.take_add_one, he, List.map_append]; rfl
  have hlen : ((l.take i).map Ent.dot).length ≤ l.length := by rw [List.length_map, List.length_take]; omega
  generalize (l.take i).map Ent.dot = ds at *
  have e2 := q0w ds
  have hs0 : ((⟨#[]⟩ : ByteArray) = ⟨#[]⟩) = True := by simp
  (have hF := (aI (aI @e1 @e2) (aI @g1 (aI @hs0 @decide_true))); refine q01 (k:=?_); clear hF)
  (refine Fin.nextW (i + 1) ?_ (have hW := (aI (aI @q09 @q06) (aI @hst @q78)); q0g); (try dsimp only))
  omega
 ·rw [List.take_of_length_le (show l.length ≤ i by omega)]
  have hll : (l.map Ent.dot).length = l.length := by simp
  have c1 := ev_k121 (l.map Ent.dot) (by omega)
  (have hF := @e1; refine q01 (k:=?_); clear hF)
  refine qc9 (fun j => j == 47) [.sl 2 (q07 (l.map Ent.dot))] (he := c1) (k:=?_)
  (have hF := @e1; refine q01 (k:=?_); clear hF)
  exact Fin.all (xs := [q0h (q3g l)]) (by with_unfolding_all rfl) (by simp [q0k, q0s]) rfl
theorem ev_k81 (f : Fct) (hw : wtF f ≤ 5000000) : Ev (En Tryz.prog rfl).P 81 [q5e f] (.ret (q0h (q1j f))) := by
 refine Ev.of_body it_k81 (by simp) (Run.start ?_)
 unfold t_k81 q5e q1j
 obtain ⟨w1, w2, w3, w4, w5⟩ := q3l hw
 have hS := qc8
 have hcs := q81 f.adds f.gone.vec f.gone.cloud f.recs
 have c1 := ev_k71 f.adds (by omega)
 have hdw := q8z f.adds
 have c2 := ev_k79 [q3g f.adds, f.gone] (show 2 ≤ 1000000000 by omega) (by simp only [List.map_cons, List.map_nil, List.sum_cons, List.sum_nil]; omega)
 generalize q1e [q3g f.adds, f.gone] = q at *
 generalize q3g f.adds = d at *
 (have hF := @hcs; refine q01 (k:=?_); clear hF)
 refine q00 [.sl 4 (q0a f.adds), .str ⟨#[]⟩, .int .i64 (-1)] (he := c1) (k:=?_)
 unfold q0h
 (have hF := @hcs; refine q01 (k:=?_); clear hF)
 refine q00 [.sl 2 (q1o [d, f.gone])] (he := c2) (k:=?_)
 unfold q0h
 (have hF := @hcs; refine q01 (k:=?_); clear hF)
 exact Fin.all (xs := [q0h q]) (by with_unfolding_all rfl) (by simp [q0k, q0s]) rfl
theorem ev_k83 (l : List Rec) (p : Pst) (hl : l.length ≤ 1000000000) (hw : ∀ r ∈ l, wt r.past ≤ 10000000) (hp : wt p ≤ 10000000) :
 Ev (En Tryz.prog rfl).P 83 [.sl 3 (q08 l), q0h p] (.ret (.sl 3 (q08 (q0x l p)))) := by
 refine Ev.of_body it_k83 (by simp) (Run.start ?_)
 unfold t_k83 q0h
 have hS := qc8
 have e1 := q0j l
 (have hF := @e1; refine q01 (k:=?_); clear hF)
 refine Run.wk (Wk.own_nil 5 27 3 rfl rfl) ?_
 refine Run.while (σ := Nat) (fun i => ⟨tms [(0, .sl 3 (q08 l)), (3, .ptr 3 0), (5, .os 27 (q0x (l.take i) p).length), (6, .int .i64 (i : Int))], mms [(3, .cells [.sl 1 (q04 p.vec), .sl 3 (q0c p.cloud)]), (27, .arr (q0x (l.take i) p).length 3 (q08 (q0x (l.take i) p)))]⟩)
  (fun i => i ≤ l.length) (fun i => l.length - i) 0 (have hW := @q02; q0g) (Nat.zero_le _) ?_
 intro i hi
 unfold qtq
 by_cases hlt : i < l.length
 ·obtain ⟨r, hr⟩ : ∃ r, l[i]? = some r := ⟨l[i], by simp [hlt]⟩
  have g1 := q0t hr
  have hst := qdk (p := p) hr
  have hle := qg7 (l.take i) p
  have hle2 : (l.take i).length ≤ l.length := by rw [List.length_take]; omega
  generalize q0x (l.take i) p = out at hst hle ⊢
  have e2 := q0j out
  have hwr := hw r (List.mem_of_getElem? hr)
  have c3 := zqr r.past p (by omega) (by omega)
  (have hF := (aI @e1 (aI @e2 @g1)); refine q01 (k:=?_); clear hF)
  refine q00 [q0h r.past, q0h p] (he := c3) (k:=?_)
  by_cases hwi : q0n r.past p = true
  ·rw [if_pos hwi, List.append_nil] at hst
   rw [hwi]
   (have hF := (aI @e1 (aI @e2 @g1)); refine q01 (k:=?_); clear hF)
   (refine Fin.nextW (i + 1) ?_ (have hW := (aI @q02 @hst); q0g); (try dsimp only))
   omega
  ·rw [if_neg hwi] at hst
   rw [show q0n r.past p = false by simpa using hwi]
   (have hF := (aI @e1 (aI @e2 @g1)); refine q01 (k:=?_); clear hF)
   (refine Fin.nextW (i + 1) ?_ (have hW := (aI @q02 (aI @hst @q2v)); q0g); (try dsimp only))
   omega
 ·rw [List.take_of_length_le (show l.length ≤ i by omega)]
  (have hF := @e1; refine q01 (k:=?_); clear hF)
  exact Fin.tmp' (by simp [fz, fzc, q55, upd, tms, mms]) (q02 _)
theorem ev_k72 (r : Rec) (e : Ent) (hw : wt r.past ≤ 900000000) : Ev (En Tryz.prog rfl).P 72 [q4w r, qcn e] (.ret (.bool (qco r e))) := by
 refine Ev.of_body it_k72 (by simp) (Run.start ?_)
 unfold t_k72 q4w qcn qco
 have es := q9j r.sku
 have c1 := ev_k62 r.past e.dot hw
 generalize q1l r.past e.dot = v at c1 ⊢
 by_cases h0 : r.sku.size = 0
 ·rw [decide_eq_true h0, Bool.true_or, Bool.true_and]
  rw [eq_true h0] at es
  (have hF := @es; refine q01 (k:=?_); clear hF)
  refine q00 [q0h r.past, q47 e.dot] (he := c1) (k:=?_)
  (have hF := True.intro; refine q01 (k:=?_); clear hF)
  exact Fin.tmp' rfl rfl
 ·rw [decide_eq_false h0, Bool.false_or]
  rw [eq_false h0] at es
  by_cases h1 : r.sku = e.sku
  ·rw [decide_eq_true h1, Bool.true_and]
   have es2 := es
   rw [h1] at es2
   (have hF := (aI @es (aI @h1 @es2)); refine q01 (k:=?_); clear hF)
   refine q00 [q0h r.past, q47 e.dot] (he := c1) (k:=?_)
   (have hF := True.intro; refine q01 (k:=?_); clear hF)
   exact Fin.tmp' rfl rfl
  ·rw [decide_eq_false h1, Bool.false_and]
   (have hF := (aI @es @h1); refine q01 (k:=?_); clear hF)
   exact Fin.tmp' rfl rfl
def qfx (p : Pst) (rs : List Rec) (e : Ent) (j : Nat) : Bool := !q1l p e.dot && decide (q6a (rs.take j) e = 0)
theorem zcx (p : Pst) (rs : List Rec) (e : Ent) : qfx p rs e 0 = !q1l p e.dot := by simp [qfx, q6a]
theorem zcy {p : Pst} {rs : List Rec} {e : Ent} {j : Nat} {r : Rec} (h : rs[j]? = some r) : qfx p rs e (j + 1) = (qfx p rs e j && !qco r e) := by
 unfold qfx
 rw [qhf h]
 cases q1l p e.dot <;> cases qco r e <;> by_cases hz : q6a (rs.take j) e = 0 <;> simp [hz]
theorem zcw {l : List Ent} {p : Pst} {rs : List Rec} {i : Nat} {e : Ent} (h : l[i]? = some e) : q85 (l.take (i + 1)) p rs = q85 (l.take i) p rs ++ if qfx p rs e rs.length = true then [e] else [] := by
 unfold q85 qfx
 rw [List.take_add_one, h, List.filter_append, List.take_length]
 cases hb : (!q1l p e.dot && decide (q6a rs e = 0)) <;> simp [hb]
theorem zpn (l : List Ent) (p : Pst) (rs : List Rec) : (q85 l p rs).length ≤ l.length := List.length_filter_le _ _
theorem ev_k82 (f : Fct) (hw : wtF f ≤ 5000000) : Ev (En Tryz.prog rfl).P 82 [q5e f] (.ret (.sl 4 (q0a (q85 f.adds f.gone f.recs)))) := by
 refine Ev.of_body it_k82 (by simp) (Run.start ?_)
 unfold t_k82 q5e
 obtain ⟨w1, w2, w3, w4, w5⟩ := q3l hw
 have hS := qc8
 have hcs := q81 f.adds f.gone.vec f.gone.cloud f.recs
 have e1 := q0o f.adds
 have e2 := q0j f.recs
 (have hF := (aI @hcs (aI @e1 @e2)); refine q01 (k:=?_); clear hF)
 refine Run.wk (Wk.own_nil 3 54 4 rfl rfl) ?_
 refine Run.while (σ := Nat) (fun i => ⟨tms [(1, .ptr 1 0), (3, .os 54 (q85 (f.adds.take i) f.gone f.recs).length), (4, .int .i64 (i : Int))], mms [(1, .cells [.sl 4 (q0a f.adds), .sl 1 (q04 f.gone.vec), .sl 3 (q0c f.gone.cloud), .sl 3 (q08 f.recs)]), (54, .arr (q85 (f.adds.take i) f.gone f.recs).length 4 (q0a (q85 (f.adds.take i) f.gone f.recs)))]⟩)
  (fun i => i ≤ f.adds.length) (fun i => f.adds.length - i) 0 (have hW := (aI @q02 @q09); q0g) (Nat.zero_le _) ?_
 intro i hi
 unfold qts
 by_cases hlt : i < f.adds.length
 ·obtain ⟨e, he⟩ : ∃ e, f.adds[i]? = some e := ⟨f.adds[i], by simp [hlt]⟩
  have g1 := q16 he
  have hst := zcw (p := f.gone) (rs := f.recs) he
  have hle := zpn (f.adds.take i) f.gone f.recs
  have hle2 : (f.adds.take i).length ≤ f.adds.length := by rw [List.length_take]; omega
  generalize q85 (f.adds.take i) f.gone f.recs = out at hst hle ⊢
  have e3 := q0o out
  have c1 := ev_k62 f.gone e.dot (by omega)
  have hz := zcx f.gone f.recs e
  (have hF := (aI (aI @hcs @e1) (aI @e2 (aI @e3 @g1))); refine q01 (k:=?_); clear hF)
  refine q00 [q0h f.gone, q47 e.dot] (he := c1) (k:=?_)
  (have hF := (aI (aI @hcs @e1) (aI @e2 (aI @e3 @g1))); refine q01 (k:=?_); clear hF)
  rw [← hz]
  refine Run.while (σ := Nat) (fun j => ⟨tms [(1, .ptr 1 0), (3, .os 54 out.length), (4, .int .i64 (i : Int)), (5, .bool (qfx f.gone f.recs e j)), (6, .int .i64 (j : Int))], mms [(1, .cells [.sl 4 (q0a f.adds), .sl 1 (q04 f.gone.vec), .sl 3 (q0c f.gone.cloud), .sl 3 (q08 f.recs)]), (54, .arr out.length 4 (q0a out))]⟩)
   (fun j => j ≤ f.recs.length) (fun j => f.recs.length - j) 0 (have hW := (aI @q02 @q09); q0g) (Nat.zero_le _) ?_
  intro j hj
  unfold qtr
  by_cases hjl : j < f.recs.length
  ·obtain ⟨r, hr⟩ : ∃ r, f.recs[j]? = some r := ⟨f.recs[j], by simp [hjl]⟩
   have g2 := q0t hr
   have hwr := w5 r (List.mem_of_getElem? hr)
   have c2 := ev_k72 r e (by omega)
   have hsj := zcy (p := f.gone) (e := e) hr
   generalize qco r e = cv at c2 hsj
   generalize hb : qfx f.gone f.recs e j = b at *
   cases b
   ·simp only [Bool.false_and] at hsj
    (have hF := (aI (aI @hcs (aI @e1 @e2)) (aI @e3 (aI @g1 @g2))); refine q01 (k:=?_); clear hF)
    (refine Fin.nextW (j + 1) ?_ (have hW := (aI @q02 (aI @q09 @hsj)); q0g); (try dsimp only))
    omega
   ·simp only [Bool.true_and] at hsj
    (have hF := (aI (aI @hcs (aI @e1 @e2)) (aI @e3 (aI @g1 @g2))); refine q01 (k:=?_); clear hF)
    refine q00 [q4w r, qcn e] (he := c2) (k:=?_)
    (have hF := (aI (aI @hcs (aI @e1 @e2)) (aI @e3 (aI @g1 @g2))); refine q01 (k:=?_); clear hF)
    (refine Fin.nextW (j + 1) ?_ (have hW := (aI @q02 (aI @q09 @hsj)); q0g); (try dsimp only))
    omega
  ·have hje : j = f.recs.length := by omega
   subst hje
   generalize qfx f.gone f.recs e f.recs.length = b at *
   cases b
   ·rw [if_neg (by simp), List.append_nil] at hst
    (have hF := (aI (aI @hcs @e1) (aI @e2 (aI @e3 @g1))); refine q01 (k:=?_); clear hF)
    (refine Fin.nextW (i + 1) ?_ (have hW := (aI @q02 (aI @q09 @hst)); q0g); (try dsimp only))
    omega
   ·rw [if_pos rfl] at hst
    (have hF := (aI (aI @hcs @e1) (aI @e2 (aI @e3 @g1))); refine q01 (k:=?_); clear hF)
    (refine Fin.nextW (i + 1) ?_ (have hW := (aI (aI @q02 @q09) (aI @hst @q15)); q0g); (try dsimp only))
    omega
 ·rw [List.take_of_length_le (show f.adds.length ≤ i by omega)]
  (have hF := (aI @hcs (aI @e1 @e2)); refine q01 (k:=?_); clear hF)
  exact Fin.tmp' (by simp [fz, fzc, q55, upd, tms, mms]) (q09 _)
theorem zq6 (f : Fct) : wt (q1j f) ≤ 32 + f.adds.length + wt f.gone := by
 have h1 := q59 [q3g f.adds, f.gone]
 have h2 := q8z f.adds
 simp only [List.map_cons, List.map_nil, List.sum_cons, List.sum_nil] at h1
 unfold q1j
 omega
theorem ev_k37 (f : Fct) (hw : wtF f ≤ 4000000) : Ev (En Tryz.prog rfl).P 37 [q5e f] (.ret (q40 (stF f))) := by
 refine Ev.of_body it_k37 (by simp) (Run.start ?_)
 unfold t_k37 stF
 obtain ⟨w1, w2, w3, w4, w5⟩ := q3l hw
 have hS := qc8
 have hcs := q81 f.adds f.gone.vec f.gone.cloud f.recs
 have hhw := zq6 f
 have c1 := ev_k81 f (by omega)
 have c2 := ev_k82 f (by omega)
 have c3 := ev_k83 f.recs (q1j f) (by omega) (fun r hr => by have := w5 r hr; omega) (by omega)
 unfold q5e at c1 c2 ⊢
 generalize q0x f.recs (q1j f) = W at *
 generalize q85 f.adds f.gone f.recs = L at *
 generalize q1j f = q at *
 (have hF := @hcs; refine q01 (k:=?_); clear hF)
 refine q00 [_] (he := c1) (k:=?_)
 unfold q0h
 (have hF := @hcs; refine q01 (k:=?_); clear hF)
 refine q00 [_] (he := c2) (k:=?_)
 (have hF := @hcs; refine q01 (k:=?_); clear hF)
 refine q00 [.sl 3 (q08 f.recs), q0h q] (he := c3) (k:=?_)
 (have hF := @hcs; refine q01 (k:=?_); clear hF)
 exact Fin.all (xs := [q40 ⟨L, q, W⟩]) (by with_unfolding_all rfl) (by simp [q0k, q3f]) rfl

def zns : List SOp := [zO 1 (.box 31 (.tmp 0)),zO 2 (.assign (.const (.int .i64 0)))]
instance : Live zns := ⟨[0]⟩
def znr : List SOp := [zF 9 31 1 0,zL 10 22 9,zO 11 (.call ⟨.value (.func 53),#[.tmp 10],#[22]⟩),zO 12 (.binOp .neq 32 (.tmp 11) (.const (.int .i64 0)) 32),zM 13 12,⟨some 14,.fieldAddr 31 (.tmp 1) 1,some ((some 13),false)⟩,⟨some 15,.load 26 (.tmp 14),some ((some 13),false)⟩,⟨some 16,.call ⟨.value (.func 54),#[.tmp 15],#[26]⟩,some ((some 13),false)⟩,⟨some 17,.unOp .not 4 (.tmp 16),some ((some 13),false)⟩,zO 18 (.pick (.tmp 13) (.const (.bool true)) (.tmp 17)),zM 19 18,⟨some 20,.fieldAddr 31 (.tmp 1) 2,some ((some 19),false)⟩,⟨some 21,.load 27 (.tmp 20),some ((some 19),false)⟩,⟨some 22,.call ⟨.value (.func 55),#[.tmp 21],#[27]⟩,some ((some 19),false)⟩,⟨some 23,.binOp .neq 32 (.tmp 22) (.const (.int .i64 0)) 32,some ((some 19),false)⟩,zO 24 (.pick (.tmp 19) (.const (.bool true)) (.tmp 23))]
instance : Live znr := ⟨[1]⟩
def znq : List SOp := [zO 2 (.assign (.const (.int .i64 1)))]
instance : Live znq := ⟨[]⟩
def znp : List SOp := [zF 26 31 1 0,zL 27 22 26,zO 28 (.call ⟨.value (.func 47),#[.tmp 27],#[22]⟩),zM 25 28,zX 29 25 0,zX 30 25 1,zO 3 (.alloc 26),⟨none,.store 26 (.tmp 3) (.tmp 29),none⟩,zG 4 30]
instance : Live znp := ⟨[1]⟩
def zno : List SOp := [zL 31 26 3,zF 32 31 1 1,zL 33 26 32,zO 34 (.call ⟨.value (.func 56),#[.tmp 31,.tmp 33],#[26,26]⟩),zO 35 (.unOp .not 4 (.tmp 34))]
instance : Live zno := ⟨[1,3]⟩
def znn : List SOp := [zO 2 (.assign (.const (.int .i64 1)))]
instance : Live znn := ⟨[]⟩
def znm : List SOp := [zF 37 31 1 2,zL 38 27 37,zF 39 31 1 1,zL 40 26 39,zO 41 (.call ⟨.value (.func 57),#[.tmp 38,.tmp 40],#[27,26]⟩),zM 36 41,zX 42 36 0,zX 43 36 1,zG 5 42,zG 6 43]
instance : Live znm := ⟨[1]⟩
def znl : List SOp := [zM 44 5,zO 45 (.call ⟨.builtin .len,#[.tmp 44],#[27]⟩),zF 46 31 1 2,zL 47 27 46,zO 48 (.call ⟨.builtin .len,#[.tmp 47],#[27]⟩),zO 49 (.binOp .neq 3 (.tmp 45) (.tmp 48) 3)]
instance : Live znl := ⟨[1,5]⟩
def znk : List SOp := [zO 2 (.assign (.const (.int .i64 1)))]
instance : Live znk := ⟨[]⟩
def qxh : List SOp := [zF 51 31 1 0,zL 52 22 51,zF 53 31 1 2,zL 54 27 53,zO 55 (.call ⟨.value (.func 58),#[.tmp 52,.tmp 54],#[22,27]⟩),zM 50 55,zX 56 50 0,zX 57 50 1,zG 7 56,zG 8 57]
instance : Live qxh := ⟨[1]⟩
def qxg : List SOp := [zM 58 7,zO 59 (.call ⟨.builtin .len,#[.tmp 58],#[22]⟩),zF 60 31 1 0,zL 61 22 60,zO 62 (.call ⟨.builtin .len,#[.tmp 61],#[22]⟩),zO 63 (.binOp .neq 3 (.tmp 59) (.tmp 62) 3)]
instance : Live qxg := ⟨[1,7]⟩
def qxf : List SOp := [zO 2 (.assign (.const (.int .i64 1)))]
instance : Live qxf := ⟨[]⟩
def qxe : List SOp := [zO 2 (.assign (.const (.int .i64 0)))]
instance : Live qxe := ⟨[]⟩
def t_k18 : SC :=
 (.seq (.ops false zns) (.seq (.seq (.ops false znr) (.cond (.tmp 24) (.seq (.ops false znq) .ret) .skip)) (.seq (.seq (.ops false znp) (.seq (.ops false zno) (.cond (.tmp 35) (.seq (.ops false znn) .ret) .skip))) (.seq (.seq (.ops false znm) (.seq (.ops false znl) (.cond (.tmp 49) (.seq (.ops false znk) .ret) .skip))) (.seq (.seq (.ops false qxh) (.seq (.ops false qxg) (.cond (.tmp 63) (.seq (.ops false qxf) .ret) .skip))) (.seq (.ops false qxe) .ret))))))
theorem it_k18 : FnIs Tryz.prog 18 64 [.tmp 2] t_k18 := ⟨Tryz.f18, _, Tryz.func18, rfl, rfl, rfl, rfl, by kernel_rfl⟩

def zn6 : List SOp := [zO 1 (.box 31 (.tmp 0)),zO 2 (.assign (.const (.bool false)))]
instance : Live zn6 := ⟨[0]⟩
def zn5 : List SOp := [zF 5 31 1 0,zL 6 22 5,zO 7 (.call ⟨.value (.func 67),#[.tmp 6],#[22]⟩),zO 8 (.unOp .not 4 (.tmp 7)),zM 9 8,⟨some 10,.fieldAddr 31 (.tmp 1) 1,some ((some 9),false)⟩,⟨some 11,.load 26 (.tmp 10),some ((some 9),false)⟩,⟨some 12,.call ⟨.value (.func 68),#[.tmp 11],#[26]⟩,some ((some 9),false)⟩,⟨some 13,.unOp .not 4 (.tmp 12),some ((some 9),false)⟩,zO 14 (.pick (.tmp 9) (.const (.bool true)) (.tmp 13)),zM 15 14,⟨some 16,.fieldAddr 31 (.tmp 1) 2,some ((some 15),false)⟩,⟨some 17,.load 27 (.tmp 16),some ((some 15),false)⟩,⟨some 18,.call ⟨.value (.func 69),#[.tmp 17],#[27]⟩,some ((some 15),false)⟩,⟨some 19,.unOp .not 4 (.tmp 18),some ((some 15),false)⟩,zO 20 (.pick (.tmp 15) (.const (.bool true)) (.tmp 19))]
instance : Live zn5 := ⟨[1]⟩
def zn4 : List SOp := [zO 2 (.assign (.const (.bool false)))]
instance : Live zn4 := ⟨[]⟩
def zn3 : List SOp := [zF 21 31 1 0,zL 22 22 21,zO 23 (.call ⟨.value (.func 71),#[.tmp 22,.const (.string ⟨#[]⟩),.const (.int .i64 (-1))],#[22,9,3]⟩),zF 24 31 1 1,zL 25 26 24,zO 26 (.call ⟨.value (.func 70),#[.tmp 23,.tmp 25],#[26,26]⟩),zO 27 (.unOp .not 4 (.tmp 26))]
instance : Live zn3 := ⟨[1]⟩
def zn2 : List SOp := [zO 2 (.assign (.const (.bool false)))]
instance : Live zn2 := ⟨[]⟩
def zn1 : List SOp := [zO 3 (.assign (.const (.int .i64 0)))]
instance : Live zn1 := ⟨[1]⟩
def zn0 : List SOp := [zM 28 3,zF 29 31 1 2,zL 30 27 29,zO 31 (.call ⟨.builtin .len,#[.tmp 30],#[27]⟩),zO 32 (.binOp .lss 3 (.tmp 28) (.tmp 31) 3)]
instance : Live zn0 := ⟨[1,3]⟩
def zmz : List SOp := [zF 35 31 1 2,zL 36 27 35,zM 37 3,zI 38 27 36 37,zF 39 91 38 1,zL 40 26 39,zF 41 31 1 1,zL 42 26 41,zO 43 (.call ⟨.value (.func 70),#[.tmp 40,.tmp 42],#[26,26]⟩)]
instance : Live zmz := ⟨[1,3]⟩
def zmy : List SOp := [zO 2 (.assign (.const (.bool false)))]
instance : Live zmy := ⟨[]⟩
def qx5 : List SOp := [zO 4 (.assign (.const (.int .i64 0)))]
instance : Live qx5 := ⟨[1,3]⟩
def qx4 : List SOp := [zM 44 4,zF 45 31 1 0,zL 46 22 45,zO 47 (.call ⟨.builtin .len,#[.tmp 46],#[22]⟩),zO 48 (.binOp .lss 3 (.tmp 44) (.tmp 47) 3)]
instance : Live qx4 := ⟨[1,3,4]⟩
def qx3 : List SOp := [zF 51 31 1 2,zL 52 27 51,zM 53 3,zI 54 27 52 53,zL 55 91 54,zF 56 31 1 0,zL 57 22 56,zM 58 4,zI 59 22 57 58,zL 60 62 59,zO 61 (.call ⟨.value (.func 72),#[.tmp 55,.tmp 60],#[91,62]⟩)]
instance : Live qx3 := ⟨[1,3,4]⟩
def qx2 : List SOp := [zO 2 (.assign (.const (.bool false)))]
instance : Live qx2 := ⟨[]⟩
def qx1 : List SOp := [zM 49 4,zO 50 (.binOp .add 3 (.tmp 49) (.const (.int .i64 1)) 3),zG 4 50]
instance : Live qx1 := ⟨[1,3,4]⟩
def qx0 : List SOp := [zM 33 3,zO 34 (.binOp .add 3 (.tmp 33) (.const (.int .i64 1)) 3),zG 3 34]
instance : Live qx0 := ⟨[1,3]⟩
def qwz : List SOp := [zO 2 (.assign (.const (.bool true)))]
instance : Live qwz := ⟨[]⟩
def qua : SC :=
 (.seq (.seq (.ops false qx4) (.cond (.tmp 48) .skip (.exit 2))) (.seq (.block 3 (.seq (.ops true qx3) (.cond (.tmp 61) (.seq (.ops false qx2) .ret) .skip))) (.ops false qx1)))
def qub : SC :=
 (.seq (.seq (.ops false zn0) (.cond (.tmp 32) .skip (.exit 0))) (.seq (.block 1 (.seq (.seq (.ops true zmz) (.cond (.tmp 43) (.seq (.ops false zmy) .ret) .skip)) (.seq (.ops false qx5) (.block 2 (.loop qua))))) (.ops false qx0)))
def t_k26 : SC :=
 (.seq (.ops false zn6) (.seq (.seq (.ops false zn5) (.cond (.tmp 20) (.seq (.ops false zn4) .ret) .skip)) (.seq (.seq (.ops true zn3) (.cond (.tmp 27) (.seq (.ops false zn2) .ret) .skip)) (.seq (.seq (.ops false zn1) (.block 0 (.loop qub))) (.seq (.ops false qwz) .ret)))))
theorem it_k26 : FnIs Tryz.prog 26 62 [.tmp 2] t_k26 := ⟨Tryz.f26, _, Tryz.func26, rfl, rfl, rfl, rfl, by kernel_rfl⟩

theorem ev_k18 (s : Swt) (hw : wtS s ≤ 3000000) : Ev (En Tryz.prog rfl).P 18 [q40 s] (.ret (.int .i64 (if formS s = true then 0 else 1))) := by
 refine Ev.of_body it_k18 (by simp) (Run.start ?_)
 unfold t_k18 q40
 obtain ⟨w1, w2, w3, w4, w5⟩ := q70 hw
 have hS := qc8
 have hcs := q81 s.live s.past.vec s.past.cloud s.defer
 have e1 := q0o s.live
 have e2 := q0j s.defer
 have c1 := qgy s.live (by omega)
 have c2 := qgx s.past (by omega)
 have c3 := q2k s.defer (by omega) (fun r hr => by have := w5 r hr; omega)
 have hch := qcd (s := s)
 by_cases h1 : q6v s.live = true
 case' neg =>
  rw [if_neg h1] at c1
  rw [if_neg (fun h => h1 (hch.1 (q4a.1 h)).1)]
  (have hF := @hcs; refine q01 (k:=?_); clear hF)
  refine q00 [.sl 4 (q0a s.live)] (he := c1) (k:=?_)
  (have hF := @hcs; refine q01 (k:=?_); clear hF)
  exact Fin.tmp' rfl rfl
 rw [if_pos h1] at c1
 by_cases h2 : q18 s.past = true
 case' neg =>
  rw [show q18 s.past = false by simpa using h2] at c2
  rw [if_neg (fun h => h2 (hch.1 (q4a.1 h)).2.1)]
  (have hF := @hcs; refine q01 (k:=?_); clear hF)
  refine q00 [.sl 4 (q0a s.live)] (he := c1) (k:=?_)
  (have hF := @hcs; refine q01 (k:=?_); clear hF)
  refine q00 [q0h s.past] (he := c2) (k:=?_)
  (have hF := @hcs; refine q01 (k:=?_); clear hF)
  exact Fin.tmp' rfl rfl
 rw [h2] at c2
 by_cases h3 : q34 s.defer = true
 case' neg =>
  rw [if_neg h3] at c3
  rw [if_neg (fun h => h3 (hch.1 (q4a.1 h)).2.2.1)]
  (have hF := @hcs; refine q01 (k:=?_); clear hF)
  refine q00 [.sl 4 (q0a s.live)] (he := c1) (k:=?_)
  (have hF := @hcs; refine q01 (k:=?_); clear hF)
  refine q00 [q0h s.past] (he := c2) (k:=?_)
  (have hF := @hcs; refine q01 (k:=?_); clear hF)
  refine q00 [.sl 3 (q08 s.defer)] (he := c3) (k:=?_)
  (have hF := @hcs; refine q01 (k:=?_); clear hF)
  exact Fin.tmp' rfl rfl
 rw [if_pos h3] at c3
 have c4 := ev_k47 s.live (by omega)
 rw [if_pos h1, if_pos h1] at c4
 have hdw := q8z s.live
 have c5 := ev_k56 (q3g s.live) s.past (by omega) (by omega)
 have c6 := ev_k57 s.defer s.past (by omega) (fun r hr => by have := w5 r hr; omega) (by omega)
 have c7 := ev_k58 s.live s.defer (by omega) (by omega)
 rw [if_pos ⟨h3, h2⟩, show qtg s.defer s.past = q0x s.defer s.past from if_pos ⟨h3, h2⟩] at c6
 rw [if_pos ⟨h1, h3⟩, if_pos ⟨h1, h3⟩] at c7
 have e3 := q0j (q0x s.defer s.past)
 have e4 := q0o (q3z s.defer s.live)
 have b3 : (q0x s.defer s.past).length ≤ s.defer.length := List.length_filter_le _ _
 have b4 : (q3z s.defer s.live).length ≤ s.live.length := List.length_filter_le _ _
 generalize q3g s.live = d at *
 generalize q0x s.defer s.past = W at *
 generalize q3z s.defer s.live = L at *
 (have hF := @hcs; refine q01 (k:=?_); clear hF)
 refine q00 [.sl 4 (q0a s.live)] (he := c1) (k:=?_)
 (have hF := @hcs; refine q01 (k:=?_); clear hF)
 refine q00 [q0h s.past] (he := c2) (k:=?_)
 (have hF := @hcs; refine q01 (k:=?_); clear hF)
 refine q00 [.sl 3 (q08 s.defer)] (he := c3) (k:=?_)
 (have hF := @hcs; refine q01 (k:=?_); clear hF)
 refine q00 [.sl 4 (q0a s.live)] (he := c4) (k:=?_)
 unfold q0h
 (have hF := @hcs; refine q01 (k:=?_); clear hF)
 refine q00 [q0h d, q0h s.past] (he := c5) (k:=?_)
 by_cases h4 : q0n d s.past = true
 case' neg =>
  rw [if_neg (fun h => h4 (hch.1 (q4a.1 h)).2.2.2.1), show q0n d s.past = false by simpa using h4]
  (have hF := @hcs; refine q01 (k:=?_); clear hF)
  exact Fin.tmp' rfl rfl
 rw [h4]
 (have hF := @hcs; refine q01 (k:=?_); clear hF)
 refine q00 [.sl 3 (q08 s.defer), q0h s.past] (he := c6) (k:=?_)
 by_cases h5 : W.length = s.defer.length
 case' neg =>
  rw [if_neg (fun h => h5 (hch.1 (q4a.1 h)).2.2.2.2.1)]
  (have hF := (aI @hcs (aI @e2 @e3)); refine q01 (k:=?_); clear hF)
  all_goals first | (exfalso; omega) | exact Fin.tmp' rfl rfl
 (have hF := (aI (aI @hcs @e2) (aI @e3 @h5)); refine q01 (k:=?_); clear hF)
 refine q00 [.sl 4 (q0a s.live), .sl 3 (q08 s.defer)] (he := c7) (k:=?_)
 by_cases h6 : L.length = s.live.length
 ·rw [if_pos (q4a.2 (hch.2 ⟨h1, h2, h3, h4, h5, h6⟩))]
  (have hF := (aI (aI @hcs @e1) (aI @e4 @h6)); refine q01 (k:=?_); clear hF)
  all_goals first | (exfalso; omega) | exact Fin.tmp' rfl rfl
 ·rw [if_neg (fun h => h6 (hch.1 (q4a.1 h)).2.2.2.2.2)]
  (have hF := (aI @hcs (aI @e1 @e4)); refine q01 (k:=?_); clear hF)
  all_goals first | (exfalso; omega) | exact Fin.tmp' rfl rfl
theorem ev_k26 (s : Swt) (hw : wtS s ≤ 3000000) : Ev (En Tryz.prog rfl).P 26 [q40 s] (.ret (.bool (formS s))) := by
 refine Ev.of_body it_k26 (by simp) (Run.start ?_)
 unfold t_k26 q40
 obtain ⟨w1, w2, w3, w4, w5⟩ := q70 hw
 have hS := qc8
 have hcs := q81 s.live s.past.vec s.past.cloud s.defer
 have e1 := q0o s.live
 have e2 := q0j s.defer
 have c1 := ev_k67 s.live (by omega)
 have c2 := zqs s.past (by omega)
 have c3 := ev_k69 s.defer (by omega) (fun r hr => by have := w5 r hr; omega)
 have hch : formS s = true ↔ _ := q4a.trans (qcd (s := s))
 have hno : ∀ {p : Prop}, (formS s = true → p) → ¬ p → formS s = false := fun h hp => by
  cases hh : formS s
  ·rfl
  ·exact absurd (h hh) hp
 cases h1 : q6v s.live
 case' false =>
  rw [h1] at c1
  rw [hno (fun h => (hch.1 h).1) (by rw [h1]; decide)]
  (have hF := @hcs; refine q01 (k:=?_); clear hF)
  refine q00 [.sl 4 (q0a s.live)] (he := c1) (k:=?_)
  (have hF := @hcs; refine q01 (k:=?_); clear hF)
  exact Fin.tmp' rfl rfl
 rw [h1] at c1
 cases h2 : q18 s.past
 case' false =>
  rw [h2] at c2
  rw [hno (fun h => (hch.1 h).2.1) (by rw [h2]; decide)]
  (have hF := @hcs; refine q01 (k:=?_); clear hF)
  refine q00 [.sl 4 (q0a s.live)] (he := c1) (k:=?_)
  (have hF := @hcs; refine q01 (k:=?_); clear hF)
  refine q00 [q0h s.past] (he := c2) (k:=?_)
  (have hF := @hcs; refine q01 (k:=?_); clear hF)
  exact Fin.tmp' rfl rfl
 rw [h2] at c2
 cases h3 : q34 s.defer
 case' false =>
  rw [h3] at c3
  rw [hno (fun h => (hch.1 h).2.2.1) (by rw [h3]; decide)]
  (have hF := @hcs; refine q01 (k:=?_); clear hF)
  refine q00 [.sl 4 (q0a s.live)] (he := c1) (k:=?_)
  (have hF := @hcs; refine q01 (k:=?_); clear hF)
  refine q00 [q0h s.past] (he := c2) (k:=?_)
  (have hF := @hcs; refine q01 (k:=?_); clear hF)
  refine q00 [.sl 3 (q08 s.defer)] (he := c3) (k:=?_)
  (have hF := @hcs; refine q01 (k:=?_); clear hF)
  exact Fin.tmp' rfl rfl
 rw [h3] at c3
 have c4 := ev_k71 s.live (by omega)
 have hdw := q8z s.live
 have c5 := zqr (q3g s.live) s.past (by omega) (by omega)
 rw [qjv, zb6] at hch
 generalize q3g s.live = d at *
 (have hF := @hcs; refine q01 (k:=?_); clear hF)
 refine q00 [.sl 4 (q0a s.live)] (he := c1) (k:=?_)
 (have hF := @hcs; refine q01 (k:=?_); clear hF)
 refine q00 [q0h s.past] (he := c2) (k:=?_)
 (have hF := @hcs; refine q01 (k:=?_); clear hF)
 refine q00 [.sl 3 (q08 s.defer)] (he := c3) (k:=?_)
 (have hF := @hcs; refine q01 (k:=?_); clear hF)
 refine q00 [.sl 4 (q0a s.live), .str ⟨#[]⟩, .int .i64 (-1)] (he := c4) (k:=?_)
 (have hF := @hcs; refine q01 (k:=?_); clear hF)
 refine q00 [q0h d, q0h s.past] (he := c5) (k:=?_)
 by_cases h4 : q0n d s.past = true
 case' neg =>
  rw [hno (fun h => (hch.1 h).2.2.2.1) h4, show q0n d s.past = false by simpa using h4]
  (have hF := @hcs; refine q01 (k:=?_); clear hF)
  exact Fin.tmp' rfl rfl
 rw [h4]
 (have hF := @hcs; refine q01 (k:=?_); clear hF)
 refine Run.while (σ := Nat) (fun i => ⟨tms [(1, .ptr 1 0), (3, .int .i64 (i : Int))], mms [(1, .cells [.sl 4 (q0a s.live), .sl 1 (q04 s.past.vec), .sl 3 (q0c s.past.cloud), .sl 3 (q08 s.defer)])]⟩)
  (fun i => i ≤ s.defer.length ∧ ∀ (j : Nat) r, j < i → s.defer[j]? = some r → q0n r.past s.past = false ∧ ∀ e ∈ s.live, qco r e = false) (fun i => s.defer.length - i) 0 (have hW := (aI @q02 @q09); q0g) ⟨Nat.zero_le _, fun j r hj => absurd hj (Nat.not_lt_zero _)⟩ ?_
 rintro i ⟨hi, hI⟩
 unfold qub
 by_cases hlt : i < s.defer.length
 ·obtain ⟨r, hr⟩ : ∃ r, s.defer[i]? = some r := ⟨s.defer[i], by simp [hlt]⟩
  have g1 := q0t hr
  have hrm := List.mem_of_getElem? hr
  have hwr := w5 r hrm
  have c6 := zqr r.past s.past (by omega) (by omega)
  (have hF := (aI (aI @hcs @e1) (aI @e2 @g1)); refine q01 (k:=?_); clear hF)
  refine q00 [q0h r.past, q0h s.past] (he := c6) (k:=?_)
  cases h5 : q0n r.past s.past
  case' true =>
   rw [hno (fun h => (hch.1 h).2.2.2.2.1 r hrm) (by rw [h5]; decide)]
   (have hF := (aI (aI @hcs @e1) (aI @e2 @g1)); refine q01 (k:=?_); clear hF)
   exact Fin.tmp' rfl rfl
  (have hF := (aI (aI @hcs @e1) (aI @e2 @g1)); refine q01 (k:=?_); clear hF)
  refine Run.while (σ := Nat) (fun j => ⟨tms [(1, .ptr 1 0), (3, .int .i64 (i : Int)), (4, .int .i64 (j : Int))], mms [(1, .cells [.sl 4 (q0a s.live), .sl 1 (q04 s.past.vec), .sl 3 (q0c s.past.cloud), .sl 3 (q08 s.defer)])]⟩)
   (fun j => j ≤ s.live.length ∧ ∀ (m : Nat) e, m < j → s.live[m]? = some e → qco r e = false) (fun j => s.live.length - j) 0 (have hW := (aI @q02 @q09); q0g) ⟨Nat.zero_le _, fun m e hm => absurd hm (Nat.not_lt_zero _)⟩ ?_
  rintro j ⟨hj, hJ⟩
  unfold qua
  by_cases hjl : j < s.live.length
  ·obtain ⟨e, he⟩ : ∃ e, s.live[j]? = some e := ⟨s.live[j], by simp [hjl]⟩
   have g2 := q16 he
   have c7 := ev_k72 r e (by omega)
   (have hF := (aI (aI @hcs @e1) (aI @e2 (aI @g1 @g2))); refine q01 (k:=?_); clear hF)
   refine q00 [q4w r, qcn e] (he := c7) (k:=?_)
   cases h6 : qco r e
   ·(have hF := (aI (aI @hcs @e1) (aI @e2 (aI @g1 @g2))); refine q01 (k:=?_); clear hF)
    (refine Fin.nextW (j + 1) ?_ (have hW := (aI @q02 @q09); q0g); (try dsimp only))
    refine ⟨⟨hjl, fun m x hm hx => ?_⟩, by omega⟩
    by_cases hmj : m = j
    ·subst hmj; rw [he] at hx; cases hx; exact h6
    ·exact hJ m x (by omega) hx
   ·rw [hno (fun h => (hch.1 h).2.2.2.2.2 e (List.mem_of_getElem? he)) (fun h => h ⟨r, hrm, h6⟩)]
    (have hF := (aI (aI @hcs @e1) (aI @e2 (aI @g1 @g2))); refine q01 (k:=?_); clear hF)
    exact Fin.tmp' rfl rfl
  ·(have hF := (aI (aI @hcs @e1) (aI @e2 @g1)); refine q01 (k:=?_); clear hF)
   (refine Fin.nextW (i + 1) ?_ (have hW := (aI @q02 @q09); q0g); (try dsimp only))
   refine ⟨⟨hlt, fun m x hm hx => ?_⟩, by omega⟩
   by_cases hmj : m = i
   ·subst hmj
    rw [hr] at hx
    cases hx
    exact ⟨h5, fun e hem => by
     obtain ⟨m, hm⟩ := List.mem_iff_getElem?.1 hem
     have : m < s.live.length := (List.getElem?_eq_some_iff.1 hm).1
     exact hJ m e (by omega) hm⟩
   ·exact hI m x (by omega) hx
 ·have hall : ∀ r ∈ s.defer, q0n r.past s.past = false ∧ ∀ e ∈ s.live, qco r e = false := fun r hr => by
   obtain ⟨m, hm⟩ := List.mem_iff_getElem?.1 hr
   have : m < s.defer.length := (List.getElem?_eq_some_iff.1 hm).1
   exact hI m r (by omega) hm
  rw [hch.2 ⟨h1, h2, h3, h4, fun r hr => (hall r hr).1, fun e he hc => by
   obtain ⟨r, hr, hcv⟩ := hc
   have := (hall r hr).2 e he
   rw [this] at hcv
   cases hcv⟩]
  (have hF := (aI @hcs (aI @e1 @e2)); refine q01 (k:=?_); clear hF)
  exact Fin.tmp' rfl rfl

def znf : List SOp := [zO 2 (.box 31 (.tmp 0)),zO 3 (.box 31 (.tmp 1)),zO 4 (.alloc 31),zO 5 (.assign (.const (.int .i64 0)))]
instance : Live znf := ⟨[0,1]⟩
def zne : List SOp := [zL 11 31 2,zO 12 (.call ⟨.value (.func 18),#[.tmp 11],#[31]⟩),zO 13 (.binOp .neq 32 (.tmp 12) (.const (.int .i64 0)) 32),zM 14 13,⟨some 15,.load 31 (.tmp 3),some ((some 14),false)⟩,⟨some 16,.call ⟨.value (.func 18),#[.tmp 15],#[31]⟩,some ((some 14),false)⟩,⟨some 17,.binOp .neq 32 (.tmp 16) (.const (.int .i64 0)) 32,some ((some 14),false)⟩,zO 18 (.pick (.tmp 14) (.const (.bool true)) (.tmp 17))]
instance : Live zne := ⟨[2,3,4]⟩
def znd : List SOp := [zO 19 (.build 31 #[]),⟨none,.store 31 (.tmp 4) (.tmp 19),none⟩,zO 5 (.assign (.const (.int .i64 1)))]
instance : Live znd := ⟨[4]⟩
def znc : List SOp := [zF 21 31 2 0,zL 22 22 21,zF 23 31 2 1,zL 24 26 23,zF 25 31 3 0,zL 26 22 25,zF 27 31 3 1,zL 28 26 27,zO 29 (.call ⟨.value (.func 65),#[.tmp 22,.tmp 24,.tmp 26,.tmp 28],#[22,26,22,26]⟩),zM 20 29,zX 30 20 0,zX 31 20 1,zG 6 30,zG 7 31]
instance : Live znc := ⟨[2,3,4]⟩
def znb : List SOp := [zM 32 7,zO 33 (.binOp .neq 32 (.tmp 32) (.const (.int .i64 0)) 32)]
instance : Live znb := ⟨[2,3,4,6,7]⟩
def zna : List SOp := [zO 34 (.build 31 #[]),zM 35 7,⟨none,.store 31 (.tmp 4) (.tmp 34),none⟩,zG 5 35]
instance : Live zna := ⟨[4,7]⟩
def zn9 : List SOp := [zF 37 31 2 2,zL 38 27 37,zF 39 31 3 2,zL 40 27 39,zO 41 (.call ⟨.value (.func 66),#[.tmp 38,.tmp 40],#[27,27]⟩),zM 36 41,zX 42 36 0,zX 43 36 1,zG 8 42,zG 9 43]
instance : Live zn9 := ⟨[2,3,4,6]⟩
def zn8 : List SOp := [zM 45 6,zM 46 8,zO 47 (.call ⟨.value (.func 58),#[.tmp 45,.tmp 46],#[22,27]⟩),zM 44 47,zX 48 44 0,zX 49 44 1,zG 6 48]
instance : Live zn8 := ⟨[2,3,4,6,8]⟩
def zn7 : List SOp := [zF 50 31 2 1,zL 51 26 50,zF 52 31 3 1,zL 53 26 52,zO 54 (.buildSlice 116 2 #[(0,.tmp 51),(1,.tmp 53)]),zO 55 (.call ⟨.value (.func 49),#[.tmp 54],#[116]⟩),zO 10 (.alloc 26),⟨none,.store 26 (.tmp 10) (.tmp 55),none⟩]
instance : Live zn7 := ⟨[2,3,4,6,8]⟩
def qx7 : List SOp := [zM 57 8,zL 58 26 10,zO 59 (.call ⟨.value (.func 57),#[.tmp 57,.tmp 58],#[27,26]⟩),zM 56 59,zX 60 56 0,zX 61 56 1,zG 8 60]
instance : Live qx7 := ⟨[4,6,8,10]⟩
def qx6 : List SOp := [zM 62 6,zL 63 26 10,zM 64 8,zO 65 (.build 31 #[(0,.tmp 62),(1,.tmp 63),(2,.tmp 64)]),zO 66 (.call ⟨.value (.func 48),#[.tmp 65],#[31]⟩),⟨none,.store 31 (.tmp 4) (.tmp 66),none⟩,zO 5 (.assign (.const (.int .i64 0)))]
instance : Live qx6 := ⟨[4,6,8,10]⟩
def t_k25 : SC :=
 (.seq (.ops false znf) (.seq (.seq (.ops false zne) (.cond (.tmp 18) (.seq (.ops false znd) .ret) .skip)) (.seq (.ops false znc) (.seq (.seq (.ops false znb) (.cond (.tmp 33) (.seq (.ops false zna) .ret) .skip)) (.seq (.ops false zn9) (.seq (.ops false zn8) (.seq (.ops false zn7) (.seq (.ops false qx7) (.seq (.ops false qx6) .ret)))))))))
theorem it_k25 : FnIs Tryz.prog 25 67 [.cell 4 31, .tmp 5] t_k25 := ⟨Tryz.f25, _, Tryz.func25, rfl, rfl, rfl, rfl, by kernel_rfl⟩

theorem qap {a b : Swt} (ha : FormS a) (hb : FormS b) : qcm a b = errO (q32 a b) := by
 unfold qcm
 rw [if_pos ⟨ha, hb⟩]
 have := (q91 ha hb).1
 cases h : q32 a b with
 | none => rw [if_pos (this.1 h)]; rfl
 | some M => rw [if_neg (fun hc => by have := this.2 hc; rw [h] at this; cases this)]; rfl
theorem qbj {a b : Swt} (ha : FormS a) (hb : FormS b) {M : List Ent} (hM : q32 a b = some M) : q86 a b = ⟨q3z (q51 a b) M, q1e [a.past, b.past], q0x (q51 a b) (q1e [a.past, b.past])⟩ := by
 have h0 : qcm a b = 0 := by rw [qap ha hb, hM]; rfl
 rw [q5c h0]
 unfold qbi
 rw [hM]
 rfl
theorem zbf {s : Swt} (h : ¬ FormS s) : (if formS s = true then (0 : Int) else 1) = 1 := if_neg (fun h' => h (q4a.1 h'))
theorem qqe {s : Swt} (h : FormS s) : (if formS s = true then (0 : Int) else 1) = 0 := if_pos (qbm h)
theorem qgz (a b : Swt) (ha : wtS a ≤ 2000000) (hb : wtS b ≤ 2000000) : Ev (En Tryz.prog rfl).P 25 [q40 a, q40 b] (.ret (.tup [q40 (q86 a b), .int .i64 (qcm a b)])) := by
 refine Ev.of_body it_k25 (by simp) (AW.wkEnd (Run.start ?_))
 unfold t_k25
 obtain ⟨u1, u2, u3, u4, u5⟩ := q70 ha
 obtain ⟨w1, w2, w3, w4, w5⟩ := q70 hb
 have hS := qc8
 have hca := q81 a.live a.past.vec a.past.cloud a.defer
 have hcb := q81 b.live b.past.vec b.past.cloud b.defer
 have c1 := ev_k18 a (by omega)
 have c2 := ev_k18 b (by omega)
 unfold q40 at c1 c2 ⊢
 by_cases h1 : FormS a
 case' neg =>
  rw [zbf h1] at c1
  have he : qcm a b = 1 := if_neg (fun h => h1 h.1)
  rw [qf1 (by rw [he]; decide), he]
  (have hF := (aI @hca @hcb); refine q01 (k:=?_); clear hF)
  refine q00 [_] (he := c1) (k:=?_)
  (have hF := (aI @hca @hcb); refine q01 (k:=?_); clear hF)
  exact Fin.done ⟨_, Wk.cells_nil (k := 4) rfl sub4, [q40 noS, .int .i64 1], by with_unfolding_all rfl, by simp [q0k, q3f, AVal.stb], _, q1s _, rfl⟩
 rw [qqe h1] at c1
 by_cases h2 : FormS b
 case' neg =>
  rw [zbf h2] at c2
  have he : qcm a b = 1 := if_neg (fun h => h2 h.2)
  rw [qf1 (by rw [he]; decide), he]
  (have hF := (aI @hca @hcb); refine q01 (k:=?_); clear hF)
  refine q00 [_] (he := c1) (k:=?_)
  (have hF := (aI @hca @hcb); refine q01 (k:=?_); clear hF)
  refine q00 [_] (he := c2) (k:=?_)
  (have hF := (aI @hca @hcb); refine q01 (k:=?_); clear hF)
  exact Fin.done ⟨_, Wk.cells_nil (k := 4) rfl sub4, [q40 noS, .int .i64 1], by with_unfolding_all rfl, by simp [q0k, q3f, AVal.stb], _, q1s _, rfl⟩
 rw [qqe h2] at c2
 have c3 := ev_k65 a.live b.live a.past b.past (by omega) (by omega) (by omega) (by omega) ⟨q4j h1.live, q36.2 h1.past, q4j h2.live, q36.2 h2.past⟩
 change Ev _ _ _ (.ret (.tup [.sl 4 (q0a (qft (q32 a b))), .int .i64 (errO (q32 a b))])) at c3
 have hej := qap h1 h2
 cases hM : q32 a b with
 | none =>
  rw [hM] at c3 hej
  change Ev _ _ _ (.ret (.tup [.sl 4 (q0a []), .int .i64 10])) at c3
  change qcm a b = 10 at hej
  rw [qf1 (by rw [hej]; decide), hej]
  (have hF := (aI @hca @hcb); refine q01 (k:=?_); clear hF)
  refine q00 [_] (he := c1) (k:=?_)
  (have hF := (aI @hca @hcb); refine q01 (k:=?_); clear hF)
  refine q00 [_] (he := c2) (k:=?_)
  (have hF := (aI @hca @hcb); refine q01 (k:=?_); clear hF)
  refine q00 [.sl 4 (q0a a.live), q0h a.past, .sl 4 (q0a b.live), q0h b.past] (he := c3) (k:=?_)
  (have hF := (aI @hca @hcb); refine q01 (k:=?_); clear hF)
  exact Fin.done ⟨_, Wk.cells_nil (k := 4) rfl sub4, [q40 noS, .int .i64 10], by with_unfolding_all rfl, by simp [q0k, q3f, AVal.stb], _, q1s _, rfl⟩
 | some M =>
  rw [hM] at c3 hej
  change Ev _ _ _ (.ret (.tup [.sl 4 (q0a M), .int .i64 0])) at c3
  change qcm a b = 0 at hej
  have hMf := qgn h1 h2 hM
  have hlM : M.length ≤ a.live.length + b.live.length := by
   have := zay (q1i b.past) (q1i a.past) (A := a.live) (B := b.live) (a.live.length + b.live.length)
   change (qft (q32 a b)).length ≤ _ at this
   rw [hM] at this
   exact this
  have hRf := qgr h1 h2
  have c4 := ev_k66 a.defer b.defer (by omega) (by omega) (fun r hr => by have := u5 r hr; omega) (fun r hr => by have := w5 r hr; omega)
  rw [if_pos ⟨q2s h1.defer, q2s h2.defer⟩, show zej a.defer b.defer = q51 a b from if_pos ⟨q2s h1.defer, q2s h2.defer⟩] at c4
  have hwR : q4y (q51 a b) ≤ q4y a.defer + q4y b.defer := by
   have := qct (a.defer ++ b.defer)
   rw [qhk] at this
   exact this
  have hlR := q7h (q51 a b)
  have c5 := ev_k58 M (q51 a b) (by omega) (by omega)
  rw [if_pos ⟨q4j hMf, q2s hRf⟩, if_pos ⟨q4j hMf, q2s hRf⟩] at c5
  have c6 := zqx [a.past, b.past] (show 2 ≤ 1000000000 by omega) (by simp only [List.map_cons, List.map_nil, List.sum_cons, List.sum_nil]; omega)
  have hjw := q59 [a.past, b.past]
  simp only [List.map_cons, List.map_nil, List.sum_cons, List.sum_nil] at hjw
  have hjc : q18 (q1e [a.past, b.past]) = true := q36.2 (q28 _)
  have c7 := ev_k57 (q51 a b) (q1e [a.past, b.past]) (by omega) (fun r hr => by have := qg5 hr; unfold wtK at this; omega) (by omega)
  rw [if_pos ⟨q2s hRf, hjc⟩, show qtg (q51 a b) (q1e [a.past, b.past]) = q0x (q51 a b) (q1e [a.past, b.past]) from if_pos ⟨q2s hRf, hjc⟩] at c7
  have hje := qbj h1 h2 hM
  have hjf := qbh h1 h2 hM
  rw [← q5c hej] at hjf
  have hwj := zb8 a b
  rw [← q5c hej] at hwj
  have c8 := ev_k48 (q86 a b) (by omega) hjf.past (fun r hr => (q37 hjf.defer r hr).1)
  rw [hej]
  rw [hje] at c8 ⊢
  clear hje hjf hwj hjw
  generalize q1e [a.past, b.past] = q at *
  generalize q0x (q51 a b) q = W at *
  generalize q3z (q51 a b) M = L at *
  generalize q51 a b = R at *
  (have hF := (aI @hca @hcb); refine q01 (k:=?_); clear hF)
  refine q00 [_] (he := c1) (k:=?_)
  (have hF := (aI @hca @hcb); refine q01 (k:=?_); clear hF)
  refine q00 [_] (he := c2) (k:=?_)
  (have hF := (aI @hca @hcb); refine q01 (k:=?_); clear hF)
  refine q00 [.sl 4 (q0a a.live), q0h a.past, .sl 4 (q0a b.live), q0h b.past] (he := c3) (k:=?_)
  (have hF := (aI @hca @hcb); refine q01 (k:=?_); clear hF)
  refine q00 [.sl 3 (q08 a.defer), .sl 3 (q08 b.defer)] (he := c4) (k:=?_)
  (have hF := (aI @hca @hcb); refine q01 (k:=?_); clear hF)
  refine q00 [.sl 4 (q0a M), .sl 3 (q08 R)] (he := c5) (k:=?_)
  (have hF := (aI @hca @hcb); refine q01 (k:=?_); clear hF)
  refine q00 [.sl 2 (q1o [a.past, b.past])] (he := c6) (k:=?_)
  unfold q0h
  (have hF := (aI @hca @hcb); refine q01 (k:=?_); clear hF)
  refine q00 [.sl 3 (q08 R), q0h q] (he := c7) (k:=?_)
  (have hF := (aI @hca @hcb); refine q01 (k:=?_); clear hF)
  refine q00 [q40 ⟨L, q, W⟩] (he := c8) (k:=?_)
  unfold q40
  (have hF := (aI @hca @hcb); refine q01 (k:=?_); clear hF)
  exact Fin.done ⟨_, Wk.refl _ _, [q40 ⟨L, q, W⟩, .int .i64 0], by with_unfolding_all rfl, by simp [q0k, q3f, AVal.stb], _, q1s _, rfl⟩





noncomputable def eqC {α : Type} (a b : α) : Bool := @decide (a = b) (Classical.propDecidable _)
theorem qaq {α : Type} {a b : α} (h : a = b) : eqC a b = true := by classical exact decide_eq_true h
theorem q4c {α : Type} {a b : α} (h : ¬ a = b) : eqC a b = false := by classical exact decide_eq_false h
theorem qj4 {α : Type} (a : α) : eqC a a = true := qaq rfl
theorem zr7 {x y : Ent} (h1 : x.rep = y.rep) (h2 : x.num = y.num) (h3 : x.sku = y.sku) (h4 : x.qty = y.qty) : x = y := by
 cases x; cases y
 simp only at h1 h2 h3 h4
 rw [h1, h2, h3, h4]
theorem rec_ext {x y : Rec} (h1 : x.sku = y.sku) (h2 : x.past = y.past) : x = y := by
 cases x; cases y
 simp only at h1 h2
 rw [h1, h2]
theorem zq9 {α : Type} {a b : List α} {i : Nat} {x y : α} (hx : a[i]? = some x) (hy : b[i]? = some y) (h : ¬ x = y) : ¬ a = b := fun e => by
 rw [e, hy] at hx
 exact h (Option.some.inj hx).symm
theorem ql8 (p q : Pst) : qs0 p q = eqC p q := by
 by_cases h : p = q
 ·rw [qaq h, h]; exact qb8 ⟨rfl, rfl⟩
 ·rw [q4c h]
  refine q5o fun ⟨h1, h2⟩ => h ?_
  cases p; cases q
  simp only at h1 h2
  rw [h1, h2]
theorem q6w (a b : Swt) (ha : wtS a ≤ 100000000) (hb : wtS b ≤ 100000000) : Ev (En Tryz.prog rfl).P 15 [q40 a, q40 b] (.ret (.bool (eqC a b))) := by
 refine Ev.of_body it_k15 (by simp) (Run.start ?_)
 unfold t_k15 q40
 obtain ⟨u1, u2, u3, u4, u5⟩ := q70 ha
 obtain ⟨w1, w2, w3, w4, w5⟩ := q70 hb
 have u6 := u2
 unfold wt at u6
 have hS := qc8
 have hca := q81 a.live a.past.vec a.past.cloud a.defer
 have hcb := q81 b.live b.past.vec b.past.cloud b.defer
 have e1 := q0o a.live
 have e2 := q0j a.defer
 have e3 := q0o b.live
 have e4 := q0j b.defer
 have c1 := zqv a.past b.past (by omega) (by omega)
 rw [ql8] at c1
 by_cases h1 : a.live.length = b.live.length
 case' neg =>
  rw [q4c fun h => h1 (by rw [h])]
  (have hF := (aI (aI @hca (aI @hcb @e1)) (aI @e2 (aI @e3 @e4))); refine q01 (k:=?_); clear hF)
  all_goals first | (exfalso; omega) | exact Fin.tmp' rfl rfl
 by_cases h2 : a.past = b.past
 case' neg =>
  rw [q4c h2] at c1
  rw [q4c fun h => h2 (by rw [h])]
  (have hF := (aI (aI @hca (aI @hcb @e1)) (aI (aI @e2 @e3) (aI @e4 @h1))); refine q01 (k:=?_); clear hF)
  refine q00 [q0h a.past, q0h b.past] (he := c1) (k:=?_)
  (have hF := (aI (aI @hca (aI @hcb @e1)) (aI (aI @e2 @e3) (aI @e4 @h1))); refine q01 (k:=?_); clear hF)
  exact Fin.tmp' rfl rfl
 rw [qaq h2] at c1
 by_cases h3 : a.defer.length = b.defer.length
 case' neg =>
  rw [q4c fun h => h3 (by rw [h])]
  (have hF := (aI (aI @hca (aI @hcb @e1)) (aI (aI @e2 @e3) (aI @e4 @h1))); refine q01 (k:=?_); clear hF)
  refine q00 [q0h a.past, q0h b.past] (he := c1) (k:=?_)
  (have hF := (aI (aI @hca (aI @hcb @e1)) (aI (aI @e2 @e3) (aI @e4 @h1))); refine q01 (k:=?_); clear hF)
  all_goals first | (exfalso; omega) | exact Fin.tmp' rfl rfl
 (have hF := (aI (aI @hca (aI @hcb @e1)) (aI (aI @e2 @e3) (aI @e4 @h1))); refine q01 (k:=?_); clear hF)
 refine q00 [q0h a.past, q0h b.past] (he := c1) (k:=?_)
 (have hF := (aI (aI (aI @hca @hcb) (aI @e1 @e2)) (aI (aI @e3 @e4) (aI @h1 @h3))); refine q01 (k:=?_); clear hF)
 refine Run.while (σ := Nat) (fun i => ⟨tms [(2, .ptr 2 0), (3, .ptr 3 0), (5, .int .i64 (i : Int))], mms [(2, .cells [.sl 4 (q0a a.live), .sl 1 (q04 a.past.vec), .sl 3 (q0c a.past.cloud), .sl 3 (q08 a.defer)]), (3, .cells [.sl 4 (q0a b.live), .sl 1 (q04 b.past.vec), .sl 3 (q0c b.past.cloud), .sl 3 (q08 b.defer)])]⟩)
  (fun i => i ≤ b.live.length ∧ ∀ j, j < i → a.live[j]? = b.live[j]?) (fun i => b.live.length - i) 0 (have hW := (aI @q02 @q09); q0g) ⟨Nat.zero_le _, fun j hj => absurd hj (Nat.not_lt_zero _)⟩ ?_
 rintro i ⟨hi, hp⟩
 unfold qud
 by_cases hlt : i < b.live.length
 ·obtain ⟨x, hx⟩ : ∃ x, a.live[i]? = some x := ⟨a.live[i]'(by omega), by simp [show i < a.live.length by omega]⟩
  obtain ⟨y, hy⟩ : ∃ y, b.live[i]? = some y := ⟨b.live[i], by simp [hlt]⟩
  have g1 := q16 hx
  have g2 := q16 hy
  by_cases he : x = y
  ·have hs := qa1 hp (hx.trans ((congrArg some he).trans hy.symm))
   subst he
   (have hF := (aI (aI (aI @hca @hcb) (aI @e1 (aI @e2 @e3))) (aI (aI @e4 @h1) (aI @h3 (aI @g1 @g2)))); refine q01 (k:=?_); clear hF)
   (refine Fin.nextW (i + 1) ?_ (have hW := (aI @q02 @q09); q0g); (try dsimp only))
   exact ⟨⟨hlt, hs⟩, by omega⟩
  ·rw [q4c (fun h => zq9 hx hy he (by rw [h]))]
   by_cases r1 : x.rep = y.rep
   ·by_cases r2 : x.num = y.num
    ·by_cases r3 : x.sku = y.sku
     ·have r4 : ¬ x.qty = y.qty := fun h => he (zr7 r1 r2 r3 h)
      (have hF := (aI (aI (aI @hca (aI @hcb @e1)) (aI (aI @e2 @e3) (aI @e4 @h1))) (aI (aI @h3 (aI @g1 @g2)) (aI (aI @r1 @r2) (aI @r3 @r4)))); refine q01 (k:=?_); clear hF)
      exact Fin.tmp' rfl rfl
     ·(have hF := (aI (aI (aI @hca (aI @hcb @e1)) (aI @e2 (aI @e3 @e4))) (aI (aI @h1 (aI @h3 @g1)) (aI (aI @g2 @r1) (aI @r2 @r3)))); refine q01 (k:=?_); clear hF)
      exact Fin.tmp' rfl rfl
    ·(have hF := (aI (aI (aI @hca (aI @hcb @e1)) (aI @e2 (aI @e3 @e4))) (aI (aI @h1 (aI @h3 @g1)) (aI @g2 (aI @r1 @r2)))); refine q01 (k:=?_); clear hF)
     exact Fin.tmp' rfl rfl
   ·(have hF := (aI (aI (aI @hca @hcb) (aI @e1 (aI @e2 @e3))) (aI (aI @e4 (aI @h1 @h3)) (aI @g1 (aI @g2 @r1)))); refine q01 (k:=?_); clear hF)
    exact Fin.tmp' rfl rfl
 ·have hle : a.live = b.live := q58 (by omega) fun j hj => hp j (by omega)
  (have hF := (aI (aI @hca (aI @hcb @e1)) (aI (aI @e2 @e3) (aI @e4 @h1))); refine q01 (k:=?_); clear hF)
  clear hi hlt hp
  refine Run.while (σ := Nat) (fun i => ⟨tms [(2, .ptr 2 0), (3, .ptr 3 0), (6, .int .i64 (i : Int))], mms [(2, .cells [.sl 4 (q0a a.live), .sl 1 (q04 a.past.vec), .sl 3 (q0c a.past.cloud), .sl 3 (q08 a.defer)]), (3, .cells [.sl 4 (q0a b.live), .sl 1 (q04 b.past.vec), .sl 3 (q0c b.past.cloud), .sl 3 (q08 b.defer)])]⟩)
   (fun i => i ≤ b.defer.length ∧ ∀ j, j < i → a.defer[j]? = b.defer[j]?) (fun i => b.defer.length - i) 0 (have hW := (aI @q02 @q09); q0g) ⟨Nat.zero_le _, fun j hj => absurd hj (Nat.not_lt_zero _)⟩ ?_
  rintro i ⟨hi, hp⟩
  unfold quc
  by_cases hlt : i < b.defer.length
  ·obtain ⟨x, hx⟩ : ∃ x, a.defer[i]? = some x := ⟨a.defer[i]'(by omega), by simp [show i < a.defer.length by omega]⟩
   obtain ⟨y, hy⟩ : ∃ y, b.defer[i]? = some y := ⟨b.defer[i], by simp [hlt]⟩
   have g1 := q0t hx
   have g2 := q0t hy
   have hwr := u5 x (List.mem_of_getElem? hx)
   unfold wt at hwr
   have c2 := zqv x.past y.past (by omega) (by omega)
   rw [ql8] at c2
   by_cases r1 : x.sku = y.sku
   ·by_cases r2 : x.past = y.past
    ·rw [qaq r2] at c2
     have hs := qa1 hp (hx.trans ((congrArg some (rec_ext r1 r2)).trans hy.symm))
     (have hF := (aI (aI (aI @hca @hcb) (aI @e1 (aI @e2 @e3))) (aI (aI @e4 (aI @h1 @h3)) (aI @g1 (aI @g2 @r1)))); refine q01 (k:=?_); clear hF)
     refine q00 [q0h x.past, q0h y.past] (he := c2) (k:=?_)
     (have hF := (aI (aI (aI @hca @hcb) (aI @e1 (aI @e2 @e3))) (aI (aI @e4 (aI @h1 @h3)) (aI @g1 (aI @g2 @r1)))); refine q01 (k:=?_); clear hF)
     (refine Fin.nextW (i + 1) ?_ (have hW := (aI @q02 @q09); q0g); (try dsimp only))
     exact ⟨⟨hlt, hs⟩, by omega⟩
    ·rw [q4c r2] at c2
     rw [q4c (fun h => zq9 hx hy (fun h => r2 (by rw [h])) (by rw [h]))]
     (have hF := (aI (aI (aI @hca @hcb) (aI @e1 (aI @e2 @e3))) (aI (aI @e4 (aI @h1 @h3)) (aI @g1 (aI @g2 @r1)))); refine q01 (k:=?_); clear hF)
     refine q00 [q0h x.past, q0h y.past] (he := c2) (k:=?_)
     (have hF := (aI (aI (aI @hca @hcb) (aI @e1 (aI @e2 @e3))) (aI (aI @e4 (aI @h1 @h3)) (aI @g1 (aI @g2 @r1)))); refine q01 (k:=?_); clear hF)
     exact Fin.tmp' rfl rfl
   ·rw [q4c (fun h => zq9 hx hy (fun h => r1 (by rw [h])) (by rw [h]))]
    (have hF := (aI (aI (aI @hca @hcb) (aI @e1 (aI @e2 @e3))) (aI (aI @e4 (aI @h1 @h3)) (aI @g1 (aI @g2 @r1)))); refine q01 (k:=?_); clear hF)
    exact Fin.tmp' rfl rfl
  ·rw [qaq (qrt hle h2 (q58 (by omega) fun j hj => hp j (by omega)))]
   (have hF := (aI (aI (aI @hca @hcb) (aI @e1 @e2)) (aI (aI @e3 @e4) (aI @h1 @h3))); refine q01 (k:=?_); clear hF)
   exact Fin.tmp' rfl rfl

def zhi : List SOp := [zO 4 (.assign (.const (.slice none 0 0))),zO 5 (.assign (.const (.bool false)))]
instance : Live zhi := ⟨[0,1]⟩
def zhh : List SOp := [zO 6 (.assign (.const (.slice none 0 0)))]
instance : Live zhh := ⟨[0,1]⟩
def zhg : List SOp := [zO 7 (.assign (.const (.int .i64 0))),zO 8 (.assign (.const (.int .i64 0)))]
instance : Live zhg := ⟨[0,1,6]⟩
def zhf : List SOp := [zM 9 7,zM 10 0,zO 11 (.call ⟨.builtin .len,#[.tmp 10],#[22]⟩),zO 12 (.binOp .lss 3 (.tmp 9) (.tmp 11) 3),zM 13 12,⟨some 14,.move (.tmp 8),some ((some 13),false)⟩,⟨some 15,.move (.tmp 1),some ((some 13),false)⟩,⟨some 16,.call ⟨.builtin .len,#[.tmp 15],#[22]⟩,some ((some 13),false)⟩,⟨some 17,.binOp .lss 3 (.tmp 14) (.tmp 16) 3,some ((some 13),false)⟩,zO 18 (.pick (.tmp 13) (.const (.bool true)) (.tmp 17))]
instance : Live zhf := ⟨[0,1,6,7,8]⟩
def zhe : List SOp := [zM 40 8,zM 41 1,zO 42 (.call ⟨.builtin .len,#[.tmp 41],#[22]⟩),zO 43 (.binOp .eql 3 (.tmp 40) (.tmp 42) 3),zM 44 43,⟨some 45,.move (.tmp 7),some ((some 44),false)⟩,⟨some 46,.move (.tmp 0),some ((some 44),false)⟩,⟨some 47,.call ⟨.builtin .len,#[.tmp 46],#[22]⟩,some ((some 44),false)⟩,⟨some 48,.binOp .lss 3 (.tmp 45) (.tmp 47) 3,some ((some 44),false)⟩,⟨some 49,.move (.tmp 48),some ((some 44),false)⟩,⟨some 50,.move (.tmp 0),some ((some 49),true)⟩,⟨some 51,.move (.tmp 7),some ((some 49),true)⟩,⟨some 52,.indexAddr 22 (.tmp 50) (.tmp 51),some ((some 49),true)⟩,⟨some 53,.fieldAddr 62 (.tmp 52) 0,some ((some 49),true)⟩,⟨some 54,.load 41 (.tmp 53),some ((some 49),true)⟩,⟨some 55,.move (.tmp 1),some ((some 49),true)⟩,⟨some 56,.move (.tmp 8),some ((some 49),true)⟩,⟨some 57,.indexAddr 22 (.tmp 55) (.tmp 56),some ((some 49),true)⟩,⟨some 58,.fieldAddr 62 (.tmp 57) 0,some ((some 49),true)⟩,⟨some 59,.load 41 (.tmp 58),some ((some 49),true)⟩,⟨some 60,.call ⟨.value (.func 116),#[.tmp 54,.tmp 59],#[41,41]⟩,some ((some 49),true)⟩,⟨some 61,.pick (.tmp 49) (.tmp 60) (.const (.bool false)),some ((some 44),false)⟩,zO 62 (.pick (.tmp 44) (.const (.bool true)) (.tmp 61)),zG 39 62]
instance : Live zhe := ⟨[0,1,6,7,8]⟩
def zhd : List SOp := [zM 63 6,zM 64 0,zM 65 7,zI 66 22 64 65,zL 67 62 66,zO 68 (.buildSlice 22 1 #[(0,.tmp 67)]),zO 69 (.call ⟨.builtin .append,#[.tmp 63,.tmp 68],#[22,22]⟩),zG 6 69]
instance : Live zhd := ⟨[0,1,6,7,8]⟩
def zhc : List SOp := [zM 70 7,zO 71 (.binOp .add 3 (.tmp 70) (.const (.int .i64 1)) 3),zG 7 71]
instance : Live zhc := ⟨[0,1,6,7,8]⟩
def zhb : List SOp := [zM 73 7,zM 74 0,zO 75 (.call ⟨.builtin .len,#[.tmp 74],#[22]⟩),zO 76 (.binOp .eql 3 (.tmp 73) (.tmp 75) 3),zM 77 76,⟨some 78,.move (.tmp 1),some ((some 77),false)⟩,⟨some 79,.move (.tmp 8),some ((some 77),false)⟩,⟨some 80,.indexAddr 22 (.tmp 78) (.tmp 79),some ((some 77),false)⟩,⟨some 81,.fieldAddr 62 (.tmp 80) 0,some ((some 77),false)⟩,⟨some 82,.load 41 (.tmp 81),some ((some 77),false)⟩,⟨some 83,.move (.tmp 0),some ((some 77),false)⟩,⟨some 84,.move (.tmp 7),some ((some 77),false)⟩,⟨some 85,.indexAddr 22 (.tmp 83) (.tmp 84),some ((some 77),false)⟩,⟨some 86,.fieldAddr 62 (.tmp 85) 0,some ((some 77),false)⟩,⟨some 87,.load 41 (.tmp 86),some ((some 77),false)⟩,⟨some 88,.call ⟨.value (.func 116),#[.tmp 82,.tmp 87],#[41,41]⟩,some ((some 77),false)⟩,zO 89 (.pick (.tmp 77) (.const (.bool true)) (.tmp 88)),zG 72 89]
instance : Live zhb := ⟨[0,1,6,7,8]⟩
def zha : List SOp := [zM 90 6,zM 91 1,zM 92 8,zI 93 22 91 92,zL 94 62 93,zO 95 (.buildSlice 22 1 #[(0,.tmp 94)]),zO 96 (.call ⟨.builtin .append,#[.tmp 90,.tmp 95],#[22,22]⟩),zG 6 96]
instance : Live zha := ⟨[0,1,6,7,8]⟩
def qvs : List SOp := [zM 97 8,zO 98 (.binOp .add 3 (.tmp 97) (.const (.int .i64 1)) 3),zG 8 98]
instance : Live qvs := ⟨[0,1,6,7,8]⟩
def qvr : List SOp := [zM 19 0,zM 20 7,zI 21 22 19 20,zL 22 62 21,zM 23 1,zM 24 8,zI 25 22 23 24,zL 26 62 25,zO 27 (.binOp .neq 62 (.tmp 22) (.tmp 26) 62)]
instance : Live qvr := ⟨[0,1,6,7,8]⟩
def qvq : List SOp := [zO 4 (.assign (.const (.slice none 0 0))),zO 5 (.assign (.const (.bool false)))]
instance : Live qvq := ⟨[]⟩
def qvp : List SOp := [zM 28 6,zM 29 0,zM 30 7,zI 31 22 29 30,zL 32 62 31,zO 33 (.buildSlice 22 1 #[(0,.tmp 32)]),zO 34 (.call ⟨.builtin .append,#[.tmp 28,.tmp 33],#[22,22]⟩),zG 6 34]
instance : Live qvp := ⟨[0,1,6,7,8]⟩
def qvo : List SOp := [zM 35 7,zO 36 (.binOp .add 3 (.tmp 35) (.const (.int .i64 1)) 3),zG 7 36]
instance : Live qvo := ⟨[0,1,6,7,8]⟩
def qvn : List SOp := [zM 37 8,zO 38 (.binOp .add 3 (.tmp 37) (.const (.int .i64 1)) 3),zG 8 38]
instance : Live qvn := ⟨[0,1,6,7,8]⟩
def qvm : List SOp := [zM 99 6,zG 4 99,zO 5 (.assign (.const (.bool true)))]
instance : Live qvm := ⟨[6]⟩
def qtu : SC :=
 (.seq (.seq (.ops false zhf) (.cond (.tmp 18) .skip (.exit 0))) (.block 1 (.block 2 (.seq (.ops true zhe) (.cond (.tmp 39) (.seq (.ops false zhd) (.ops false zhc)) (.seq (.ops true zhb) (.cond (.tmp 72) (.seq (.ops false zha) (.ops false qvs)) (.seq (.seq (.ops true qvr) (.cond (.tmp 27) (.seq (.ops false qvq) .ret) .skip)) (.seq (.ops false qvp) (.seq (.ops false qvo) (.ops false qvn)))))))))))
def t_k78 : SC :=
 (.seq (.ops false zhi) (.seq (.ops false zhh) (.seq (.ops false zhg) (.seq (.block 0 (.loop qtu)) (.seq (.ops false qvm) .ret)))))
theorem it_k78 : FnIs Tryz.prog 78 100 [.tmp 4, .tmp 5] t_k78 := ⟨Tryz.f78, _, Tryz.func78, rfl, rfl, rfl, rfl, by kernel_rfl⟩

def zh7 : List SOp := [zO 4 (.assign (.const (.slice none 0 0)))]
instance : Live zh7 := ⟨[0,1]⟩
def zh6 : List SOp := [zO 5 (.assign (.const (.slice none 0 0)))]
instance : Live zh6 := ⟨[0,1]⟩
def zh5 : List SOp := [zO 6 (.assign (.const (.int .i64 0))),zO 7 (.assign (.const (.int .i64 0)))]
instance : Live zh5 := ⟨[0,1,5]⟩
def zh4 : List SOp := [zM 9 6,zM 10 0,zO 11 (.call ⟨.builtin .len,#[.tmp 10],#[27]⟩),zO 12 (.binOp .lss 3 (.tmp 9) (.tmp 11) 3),zM 13 12,⟨some 14,.move (.tmp 7),some ((some 13),false)⟩,⟨some 15,.move (.tmp 1),some ((some 13),false)⟩,⟨some 16,.call ⟨.builtin .len,#[.tmp 15],#[27]⟩,some ((some 13),false)⟩,⟨some 17,.binOp .lss 3 (.tmp 14) (.tmp 16) 3,some ((some 13),false)⟩,zO 18 (.pick (.tmp 13) (.const (.bool true)) (.tmp 17))]
instance : Live zh4 := ⟨[0,1,5,6,7]⟩
def zh3 : List SOp := [zO 8 (.assign (.const (.int .i64 0)))]
instance : Live zh3 := ⟨[0,1,5,6,7]⟩
def zh2 : List SOp := [zM 19 7,zM 20 1,zO 21 (.call ⟨.builtin .len,#[.tmp 20],#[27]⟩),zO 22 (.binOp .eql 3 (.tmp 19) (.tmp 21) 3)]
instance : Live zh2 := ⟨[0,1,5,6,7]⟩
def zh1 : List SOp := [zO 8 (.assign (.const (.int .i64 (-1))))]
instance : Live zh1 := ⟨[0,1,5,6,7]⟩
def zh0 : List SOp := [zM 23 6,zM 24 0,zO 25 (.call ⟨.builtin .len,#[.tmp 24],#[27]⟩),zO 26 (.binOp .eql 3 (.tmp 23) (.tmp 25) 3)]
instance : Live zh0 := ⟨[0,1,5,6,7]⟩
def zgz : List SOp := [zO 8 (.assign (.const (.int .i64 1)))]
instance : Live zgz := ⟨[0,1,5,6,7]⟩
def qvl : List SOp := [zM 27 0,zM 28 6,zI 29 27 27 28,zL 30 91 29,zM 31 1,zM 32 7,zI 33 27 31 32,zL 34 91 33,zO 35 (.call ⟨.value (.func 130),#[.tmp 30,.tmp 34],#[91,91]⟩),zG 8 35]
instance : Live qvl := ⟨[0,1,5,6,7]⟩
def qvk : List SOp := [zM 36 8,zO 37 (.binOp .leq 3 (.tmp 36) (.const (.int .i64 0)) 3)]
instance : Live qvk := ⟨[0,1,5,6,7,8]⟩
def qvj : List SOp := [zM 38 5,zM 39 0,zM 40 6,zI 41 27 39 40,zL 42 91 41,zO 43 (.buildSlice 27 1 #[(0,.tmp 42)]),zO 44 (.call ⟨.builtin .append,#[.tmp 38,.tmp 43],#[27,27]⟩),zG 5 44]
instance : Live qvj := ⟨[0,1,5,6,7,8]⟩
def qvi : List SOp := [zM 45 6,zO 46 (.binOp .add 3 (.tmp 45) (.const (.int .i64 1)) 3),zG 6 46]
instance : Live qvi := ⟨[0,1,5,6,7,8]⟩
def qvh : List SOp := [zM 47 5,zM 48 1,zM 49 7,zI 50 27 48 49,zL 51 91 50,zO 52 (.buildSlice 27 1 #[(0,.tmp 51)]),zO 53 (.call ⟨.builtin .append,#[.tmp 47,.tmp 52],#[27,27]⟩),zG 5 53]
instance : Live qvh := ⟨[0,1,5,6,7,8]⟩
def qvg : List SOp := [zM 54 8,zO 55 (.binOp .geq 3 (.tmp 54) (.const (.int .i64 0)) 3)]
instance : Live qvg := ⟨[0,1,5,6,7,8]⟩
def qvf : List SOp := [zM 56 7,zO 57 (.binOp .add 3 (.tmp 56) (.const (.int .i64 1)) 3),zG 7 57]
instance : Live qvf := ⟨[0,1,5,6,7]⟩
def qve : List SOp := [zM 58 5,zG 4 58]
instance : Live qve := ⟨[5]⟩
def qtt : SC :=
 (.seq (.seq (.ops false zh4) (.cond (.tmp 18) .skip (.exit 0))) (.block 1 (.seq (.ops false zh3) (.seq (.seq (.ops false zh2) (.cond (.tmp 22) (.ops false zh1) (.seq (.ops false zh0) (.cond (.tmp 26) (.ops false zgz) (.ops true qvl))))) (.seq (.seq (.ops false qvk) (.cond (.tmp 37) (.seq (.ops false qvj) (.ops false qvi)) (.ops false qvh))) (.seq (.ops false qvg) (.cond (.tmp 55) (.ops false qvf) .skip)))))))
def t_k80 : SC :=
 (.seq (.ops false zh7) (.seq (.ops false zh6) (.seq (.ops false zh5) (.seq (.block 0 (.loop qtt)) (.seq (.ops false qve) .ret)))))
theorem it_k80 : FnIs Tryz.prog 80 59 [.tmp 4] t_k80 := ⟨Tryz.f80, _, Tryz.func80, rfl, rfl, rfl, rfl, by kernel_rfl⟩

def z54 : List SOp := [zO 2 (.box 91 (.tmp 0)),zO 3 (.box 91 (.tmp 1)),zO 4 (.assign (.const (.int .i64 0)))]
instance : Live z54 := ⟨[0,1]⟩
def z52 : List SOp := [zF 5 91 2 0,zL 6 9 5,zF 7 91 3 0,zL 8 9 7,zO 9 (.binOp .lss 9 (.tmp 6) (.tmp 8) 9)]
instance : Live z52 := ⟨[2,3]⟩
def z51 : List SOp := [zO 4 (.assign (.const (.int .i64 (-1))))]
instance : Live z51 := ⟨[]⟩
def z4z : List SOp := [zF 10 91 2 0,zL 11 9 10,zF 12 91 3 0,zL 13 9 12,zO 14 (.binOp .gtr 9 (.tmp 11) (.tmp 13) 9)]
instance : Live z4z := ⟨[2,3]⟩
def z4y : List SOp := [zO 4 (.assign (.const (.int .i64 1)))]
instance : Live z4y := ⟨[]⟩
def z4x : List SOp := [zF 15 91 2 1,zL 16 26 15,zF 17 91 3 1,zL 18 26 17,zO 19 (.call ⟨.value (.func 119),#[.tmp 16,.tmp 18],#[26,26]⟩),zG 4 19]
instance : Live z4x := ⟨[2,3]⟩
def t_k130 : SC :=
 (.seq (.ops false z54) (.seq (.seq (.ops false z52) (.cond (.tmp 9) (.seq (.ops false z51) .ret) .skip)) (.seq (.seq (.ops false z4z) (.cond (.tmp 14) (.seq (.ops false z4y) .ret) .skip)) (.seq (.ops false z4x) .ret))))
theorem it_k130 : FnIs Tryz.prog 130 20 [.tmp 4] t_k130 := ⟨Tryz.f130, _, Tryz.func130, rfl, rfl, rfl, rfl, by kernel_rfl⟩

theorem ev_k130 (a b : Rec) (ha : wt a.past ≤ 30000000) (hb : wt b.past ≤ 30000000) : Ev (En Tryz.prog rfl).P 130 [q4w a, q4w b] (.ret (.int .i64 (q3x a b))) := by
 refine Ev.of_body it_k130 (by simp) (Run.start ?_)
 unfold t_k130 q4w q3x
 have c2 := zr5 a.past b.past ha hb
 have h1 := qqy a.sku b.sku
 have hr : q8p a.sku b.sku = -1 ∨ q8p a.sku b.sku = 0 ∨ q8p a.sku b.sku = 1 := qbf _ _
 have h0 : (a.sku = b.sku) = (q8p a.sku b.sku = 0) := propext q4x.symm
 generalize q8p a.sku b.sku = v at *
 rcases hr with rfl | rfl | rfl
 ·rw [if_neg (by decide)]
  rw [show decide ((-1 : Int) < 0) = true by decide] at h1
  (have hF := @h1; refine q01 (k:=?_); clear hF)
  exact Fin.tmp' rfl rfl
 ·rw [if_pos rfl]
  rw [show decide ((0 : Int) < 0) = false by decide] at h1
  rw [show ((0 : Int) = 0) = True by simp] at h0
  (have hF := (aI (aI @h1 (aI @h0 @Bool.not_true)) (aI @Bool.or_true (aI @Bool.false_or @decide_true))); refine q01 (k:=?_); clear hF)
  refine q00 [q0h a.past, q0h b.past] (he := c2) (k:=?_)
  (have hF := True.intro; refine q01 (k:=?_); clear hF)
  exact Fin.tmp' rfl rfl
 ·rw [if_neg (by decide)]
  rw [show decide ((1 : Int) < 0) = false by decide] at h1
  rw [show ((1 : Int) = 0) = False by simp] at h0
  (have hF := (aI (aI @h1 @h0) (aI @Bool.not_false (aI @Bool.or_false @decide_false))); refine q01 (k:=?_); clear hF)
  exact Fin.tmp' rfl rfl
theorem ev_k78 (A B : List Ent) (hA : A.length ≤ 100000000) (hB : B.length ≤ 100000000) :
 Ev (En Tryz.prog rfl).P 78 [.sl 4 (q0a A), .sl 4 (q0a B)] (.ret (.tup [.sl 4 (q0a (qft (qbu A B))), .bool (qbu A B).isSome])) := by
 refine Ev.of_body it_k78 (by simp) (Run.start ?_)
 unfold t_k78
 have e1 := q0o A
 have e2 := q0o B
 have hS := qc8
 have hR0 : (q6z (fun _ => true) (fun _ => true) (A.length + B.length) (A.drop 0) (B.drop 0)).map ([] ++ ·) = qbu A B := by
  unfold qbu
  simp
 generalize qbu A B = R at hR0 ⊢
 (have hF := (aI @e1 @e2); refine q01 (k:=?_); clear hF)
 refine Run.wk (Wk.own_nil 6 69 4 rfl rfl) ?_
 refine Run.while (σ := MgS) (fun z => ⟨tms [(0, .sl 4 (q0a A)), (1, .sl 4 (q0a B)), (6, .os 69 z.out.length), (7, .int .i64 (z.i : Int)), (8, .int .i64 (z.j : Int))], mms [(69, .arr z.out.length 4 (q0a z.out))]⟩)
  (fun z => z.i ≤ A.length ∧ z.j ≤ B.length ∧ z.out.length ≤ z.i + z.j ∧ ∃ n, (A.length - z.i) + (B.length - z.j) ≤ n ∧ (q6z (fun _ => true) (fun _ => true) n (A.drop z.i) (B.drop z.j)).map (z.out ++ ·) = R) (fun z => (A.length - z.i) + (B.length - z.j)) ⟨0, 0, []⟩ (have hW := @q09; q0g) ⟨Nat.zero_le _, Nat.zero_le _, Nat.le_refl _, _, Nat.le_refl _, hR0⟩ ?_
 rintro ⟨i, j, out⟩ ⟨hi, hj, ho, n, hn, hf⟩
 dsimp only at *
 unfold qtu
 have e3 := q0o out
 have o1 : ∀ e : Ent, qgk true e = [e] := fun e => rfl
 by_cases hia : i < A.length
 ·obtain ⟨a, haa⟩ : ∃ a, A[i]? = some a := ⟨A[i], by simp [hia]⟩
  have g1 := q16 haa
  obtain ⟨n, rfl⟩ : ∃ m, n = m + 1 := ⟨n - 1, by omega⟩
  by_cases hjb : j < B.length
  ·obtain ⟨b, hbb⟩ : ∃ b, B[j]? = some b := ⟨B[j], by simp [hjb]⟩
   have g2 := q16 hbb
   have c5 := qsr a.dot b.dot
   have c6 := qsr b.dot a.dot
   have n1 : ¬ (i : Int) = (A.length : Int) := by omega
   have n2 : ¬ (j : Int) = (B.length : Int) := by omega
   rw [q3v haa, q3v hbb] at hf
   unfold q6z at hf
   rw [← q3v haa, ← q3v hbb] at hf
   (have hF := (aI (aI @e1 (aI @e2 @g1)) (aI @g2 (aI @n1 @n2))); refine q01 (k:=?_); clear hF)
   refine q00 [q47 a.dot, q47 b.dot] (he := c5) (k:=?_)
   cases hc : q3h a.dot b.dot
   ·rw [hc, if_neg (by decide)] at hf
    (have hF := (aI (aI @e1 (aI @e2 @g1)) (aI @g2 (aI @n1 @n2))); refine q01 (k:=?_); clear hF)
    refine q00 [q47 b.dot, q47 a.dot] (he := c6) (k:=?_)
    cases hc2 : q3h b.dot a.dot
    ·rw [hc2, if_neg (by decide)] at hf
     by_cases he : a = b
     ·subst he
      rw [if_pos ((qbt a a).2 rfl), zap] at hf
      (have hF := (aI (aI @e1 @e2) (aI @e3 (aI @g1 @g2))); refine q01 (k:=?_); clear hF)
      (refine Fin.nextW (⟨i + 1, j + 1, out ++ [a]⟩) ?_ (have hW := (aI @q09 @q15); q0g); (try dsimp only))
      exact ⟨⟨hia, hjb, by simp; omega, n, by omega, hf⟩, by omega⟩
     ·have he' : eqE a b = false := by
       cases h : eqE a b with
       | true => exact absurd ((qbt a b).1 h) he
       | false => rfl
      rw [if_neg (by rw [he']; decide)] at hf
      have hRn : R = none := hf.symm
      rw [hRn]
      have hdd : a.dot = b.dot := qt0 _ _ hc hc2
      have r1 : a.rep = b.rep := congrArg Prod.fst hdd
      have r2 : a.num = b.num := congrArg Prod.snd hdd
      by_cases r3 : a.sku = b.sku
      ·have r4 : ¬ a.qty = b.qty := fun h => he (zr7 r1 r2 r3 h)
       (have hF := (aI (aI (aI @e1 @e2) (aI @e3 @g1)) (aI (aI @g2 @r1) (aI @r2 (aI @r3 @r4)))); refine q01 (k:=?_); clear hF)
       exact Fin.two (x := .nil) (x' := .bool false) rfl rfl rfl rfl (.inr ⟨rfl, 4, rfl⟩) (.inl rfl)
      ·(have hF := (aI (aI (aI @e1 @e2) (aI @e3 @g1)) (aI (aI @g2 @r1) (aI @r2 @r3))); refine q01 (k:=?_); clear hF)
       exact Fin.two (x := .nil) (x' := .bool false) rfl rfl rfl rfl (.inr ⟨rfl, 4, rfl⟩) (.inl rfl)
    ·rw [hc2, if_pos rfl, q6e, o1] at hf
     (have hF := (aI (aI @e1 @e2) (aI @e3 (aI @g1 @g2))); refine q01 (k:=?_); clear hF)
     (refine Fin.nextW (⟨i, j + 1, out ++ [b]⟩) ?_ (have hW := (aI @q09 @q15); q0g); (try dsimp only))
     exact ⟨⟨hi, hjb, by simp; omega, n, by omega, hf⟩, by omega⟩
   ·rw [hc, if_pos rfl, q6e, o1] at hf
    (have hF := (aI (aI @e1 @e2) (aI @e3 (aI @g1 @g2))); refine q01 (k:=?_); clear hF)
    (refine Fin.nextW (⟨i + 1, j, out ++ [a]⟩) ?_ (have hW := (aI @q09 @q15); q0g); (try dsimp only))
    exact ⟨⟨hia, hj, by simp; omega, n, by omega, hf⟩, by omega⟩
  ·have hj' : j = B.length := by omega
   subst hj'
   rw [q3v haa, List.drop_length] at hf
   unfold q6z at hf
   rw [q6e, o1] at hf
   (have hF := (aI (aI @e1 @e2) (aI @e3 @g1)); refine q01 (k:=?_); clear hF)
   (refine Fin.nextW (⟨i + 1, B.length, out ++ [a]⟩) ?_ (have hW := (aI @q09 @q15); q0g); (try dsimp only))
   exact ⟨⟨hia, Nat.le_refl _, by simp; omega, n, by omega, by rw [List.drop_length]; exact hf⟩, by omega⟩
 ·have hi' : i = A.length := by omega
  subst hi'
  by_cases hjb : j < B.length
  ·obtain ⟨b, hbb⟩ : ∃ b, B[j]? = some b := ⟨B[j], by simp [hjb]⟩
   have g2 := q16 hbb
   have n2 : ¬ (j : Int) = (B.length : Int) := by omega
   obtain ⟨n, rfl⟩ : ∃ m, n = m + 1 := ⟨n - 1, by omega⟩
   rw [q3v hbb, List.drop_length] at hf
   unfold q6z at hf
   rw [q6e, o1] at hf
   (have hF := (aI (aI @e1 @e2) (aI @e3 (aI @g2 @n2))); refine q01 (k:=?_); clear hF)
   (refine Fin.nextW (⟨A.length, j + 1, out ++ [b]⟩) ?_ (have hW := (aI @q09 @q15); q0g); (try dsimp only))
   exact ⟨⟨Nat.le_refl _, hjb, by simp; omega, n, by omega, by rw [List.drop_length]; exact hf⟩, by omega⟩
  ·have hRs : R = some out := by
    rw [List.drop_length, List.drop_eq_nil_of_le (by omega)] at hf
    rw [← hf]
    cases n <;> simp [q6z]
   rw [hRs]
   (have hF := (aI @e1 (aI @e2 @e3)); refine q01 (k:=?_); clear hF)
   exact Fin.two (x := .sl 4 (q0a out)) (x' := .bool true) (by simp [fz, fzc, q55, upd, tms, mms]) (q09 _) rfl rfl (.inl rfl) (.inl rfl)
theorem q8n {α : Type} {l : List α} {i : Nat} {a : α} (h : l[i]? = some a) : l.drop i = a :: l.drop (i + 1) := by
 obtain ⟨h1, h2⟩ := List.getElem?_eq_some_iff.1 h
 rw [List.drop_eq_getElem_cons h1, h2]
structure MgR where
 i : Nat
 j : Nat
 out : List Rec
theorem ev_k80 (A B : List Rec) (hA : A.length ≤ 100000000) (hB : B.length ≤ 100000000) (hwa : ∀ r ∈ A, wt r.past ≤ 30000000) (hwb : ∀ r ∈ B, wt r.past ≤ 30000000) :
 Ev (En Tryz.prog rfl).P 80 [.sl 3 (q08 A), .sl 3 (q08 B)] (.ret (.sl 3 (q08 (qck A B)))) := by
 refine Ev.of_body it_k80 (by simp) (Run.start ?_)
 unfold t_k80
 have e1 := q0j A
 have e2 := q0j B
 have hS := qc8
 have hR0 : [] ++ qck (A.drop 0) (B.drop 0) = qck A B := by simp
 generalize qck A B = R at hR0 ⊢
 (have hF := (aI @e1 @e2); refine q01 (k:=?_); clear hF)
 refine Run.wk (Wk.own_nil 5 44 3 rfl rfl) ?_
 refine Run.while (σ := MgR) (fun z => ⟨tms [(0, .sl 3 (q08 A)), (1, .sl 3 (q08 B)), (5, .os 44 z.out.length), (6, .int .i64 (z.i : Int)), (7, .int .i64 (z.j : Int))], mms [(44, .arr z.out.length 3 (q08 z.out))]⟩)
  (fun z => z.i ≤ A.length ∧ z.j ≤ B.length ∧ z.out.length ≤ z.i + z.j ∧ z.out ++ qck (A.drop z.i) (B.drop z.j) = R) (fun z => (A.length - z.i) + (B.length - z.j)) ⟨0, 0, []⟩ (have hW := @q02; q0g) ⟨Nat.zero_le _, Nat.zero_le _, Nat.le_refl _, hR0⟩ ?_
 rintro ⟨i, j, out⟩ ⟨hi, hj, ho, hf⟩
 dsimp only at *
 unfold qtt
 have e3 := q0j out
 by_cases hia : i < A.length
 ·obtain ⟨a, haa⟩ : ∃ a, A[i]? = some a := ⟨A[i], by simp [hia]⟩
  have g1 := q0t haa
  have n1 : ¬ (i : Int) = (A.length : Int) := by omega
  by_cases hjb : j < B.length
  ·obtain ⟨b, hbb⟩ : ∃ b, B[j]? = some b := ⟨B[j], by simp [hjb]⟩
   have g2 := q0t hbb
   have n2 : ¬ (j : Int) = (B.length : Int) := by omega
   have c5 := ev_k130 a b (hwa a (List.mem_of_getElem? haa)) (hwb b (List.mem_of_getElem? hbb))
   rw [zpj haa hbb] at hf
   generalize q3x a b = c at *
   (have hF := (aI (aI @e1 (aI @e2 @g1)) (aI @g2 (aI @n1 @n2))); refine q01 (k:=?_); clear hF)
   refine q00 [q4w a, q4w b] (he := c5) (k:=?_)
   by_cases h1 : c < 0
   ·rw [if_pos h1] at hf
    have h2 : c ≤ 0 := by omega
    have h3 : ¬ 0 ≤ c := by omega
    (have hF := (aI (aI (aI @e1 @e2) (aI @e3 @g1)) (aI (aI @g2 @n1) (aI @n2 (aI @h2 @h3)))); refine q01 (k:=?_); clear hF)
    (refine Fin.nextW (⟨i + 1, j, out ++ [a]⟩) ?_ (have hW := (aI @q02 @q2v); q0g); (try dsimp only))
    exact ⟨⟨hia, hj, by simp; omega, by rw [List.append_assoc]; exact hf⟩, by omega⟩
   ·rw [if_neg h1] at hf
    by_cases h4 : c = 0
    ·rw [if_pos h4] at hf
     have h2 : c ≤ 0 := by omega
     have h3 : 0 ≤ c := by omega
     (have hF := (aI (aI (aI @e1 @e2) (aI @e3 @g1)) (aI (aI @g2 @n1) (aI @n2 (aI @h2 @h3)))); refine q01 (k:=?_); clear hF)
     (refine Fin.nextW (⟨i + 1, j + 1, out ++ [a]⟩) ?_ (have hW := (aI @q02 @q2v); q0g); (try dsimp only))
     exact ⟨⟨hia, hjb, by simp; omega, by rw [List.append_assoc]; exact hf⟩, by omega⟩
    ·rw [if_neg h4] at hf
     have h2 : ¬ c ≤ 0 := by omega
     have h3 : 0 ≤ c := by omega
     (have hF := (aI (aI (aI @e1 @e2) (aI @e3 @g1)) (aI (aI @g2 @n1) (aI @n2 (aI @h2 @h3)))); refine q01 (k:=?_); clear hF)
     (refine Fin.nextW (⟨i, j + 1, out ++ [b]⟩) ?_ (have hW := (aI @q02 @q2v); q0g); (try dsimp only))
     exact ⟨⟨hi, hjb, by simp; omega, by rw [List.append_assoc]; exact hf⟩, by omega⟩
  ·have hj' : j = B.length := by omega
   subst hj'
   rw [q8n haa, List.drop_length, qad] at hf
   (have hF := (aI (aI @e1 @e2) (aI @e3 (aI @g1 @n1))); refine q01 (k:=?_); clear hF)
   (refine Fin.nextW (⟨i + 1, B.length, out ++ [a]⟩) ?_ (have hW := (aI @q02 @q2v); q0g); (try dsimp only))
   exact ⟨⟨hia, Nat.le_refl _, by simp; omega, by rw [List.drop_length, qad, List.append_assoc]; exact hf⟩, by omega⟩
 ·have hi' : i = A.length := by omega
  subst hi'
  by_cases hjb : j < B.length
  ·obtain ⟨b, hbb⟩ : ∃ b, B[j]? = some b := ⟨B[j], by simp [hjb]⟩
   have g2 := q0t hbb
   have n2 : ¬ (j : Int) = (B.length : Int) := by omega
   rw [q8n hbb, List.drop_length, qae] at hf
   (have hF := (aI (aI @e1 @e2) (aI @e3 (aI @g2 @n2))); refine q01 (k:=?_); clear hF)
   (refine Fin.nextW (⟨A.length, j + 1, out ++ [b]⟩) ?_ (have hW := (aI @q02 @q2v); q0g); (try dsimp only))
   exact ⟨⟨Nat.le_refl _, hjb, by simp; omega, by rw [List.drop_length, qae, List.append_assoc]; exact hf⟩, by omega⟩
  ·have hRs : out = R := by
    rw [List.drop_length, List.drop_eq_nil_of_le (by omega), qae, List.append_nil] at hf
    exact hf
   rw [← hRs]
   (have hF := (aI @e1 (aI @e2 @e3)); refine q01 (k:=?_); clear hF)
   exact Fin.tmp' (by simp [fz, fzc, q55, upd, tms, mms]) (q02 _)


def zmm : List SOp := [zO 2 (.box 29 (.tmp 0)),zO 3 (.box 29 (.tmp 1)),zO 4 (.alloc 29),zO 5 (.assign (.const (.bool false)))]
instance : Live zmm := ⟨[0,1]⟩
def zml : List SOp := [zF 9 29 2 0,zL 10 22 9,zF 11 29 3 0,zL 12 22 11,zO 13 (.call ⟨.value (.func 78),#[.tmp 10,.tmp 12],#[22,22]⟩),zM 8 13,zX 14 8 0,zX 15 8 1,zG 6 14,zG 7 15]
instance : Live zml := ⟨[2,3,4]⟩
def zmk : List SOp := [zM 16 7,zO 17 (.unOp .not 4 (.tmp 16))]
instance : Live zmk := ⟨[2,3,4,6,7]⟩
def zmj : List SOp := [zO 18 (.build 29 #[]),⟨none,.store 29 (.tmp 4) (.tmp 18),none⟩,zO 5 (.assign (.const (.bool false)))]
instance : Live zmj := ⟨[4]⟩
def zmi : List SOp := [zM 19 6,zF 20 29 2 1,zL 21 26 20,zF 22 29 3 1,zL 23 26 22,zO 24 (.buildSlice 116 2 #[(0,.tmp 21),(1,.tmp 23)]),zO 25 (.call ⟨.value (.func 79),#[.tmp 24],#[116]⟩),zF 26 29 2 2,zL 27 27 26,zF 28 29 3 2,zL 29 27 28,zO 30 (.call ⟨.value (.func 80),#[.tmp 27,.tmp 29],#[27,27]⟩),zO 31 (.build 29 #[(0,.tmp 19),(1,.tmp 25),(2,.tmp 30)]),⟨none,.store 29 (.tmp 4) (.tmp 31),none⟩,zO 5 (.assign (.const (.bool true)))]
instance : Live zmi := ⟨[2,3,4,6]⟩
def t_k36 : SC :=
 (.seq (.ops false zmm) (.seq (.ops false zml) (.seq (.seq (.ops false zmk) (.cond (.tmp 17) (.seq (.ops false zmj) .ret) .skip)) (.seq (.ops true zmi) .ret))))
theorem it_k36 : FnIs Tryz.prog 36 32 [.cell 4 29, .tmp 5] t_k36 := ⟨Tryz.f36, _, Tryz.func36, rfl, rfl, rfl, rfl, by kernel_rfl⟩


def noF : Fct := ⟨[], ⟨[], []⟩, []⟩
def qcw (f g : Fct) : Fct := match qbu f.adds g.adds with | none => noF | some L => ⟨L, q1e [f.gone, g.gone], qck f.recs g.recs⟩
theorem ev_k36 (f g : Fct) (hf : wtF f ≤ 15000000) (hg : wtF g ≤ 15000000) : Ev (En Tryz.prog rfl).P 36 [q5e f, q5e g] (.ret (.tup [q5e (qcw f g), .bool (qbu f.adds g.adds).isSome])) := by
 refine Ev.of_body it_k36 (by simp) (AW.wkEnd (Run.start ?_))
 unfold t_k36 q5e qcw
 obtain ⟨u1, u2, u3, u4, u5⟩ := q3l hf
 obtain ⟨w1, w2, w3, w4, w5⟩ := q3l hg
 have hS := qc8
 have hcf := q81 f.adds f.gone.vec f.gone.cloud f.recs
 have hcg := q81 g.adds g.gone.vec g.gone.cloud g.recs
 have c1 := ev_k78 f.adds g.adds (by omega) (by omega)
 have c2 := ev_k79 [f.gone, g.gone] (show 2 ≤ 1000000000 by omega) (by simp only [List.map_cons, List.map_nil, List.sum_cons, List.sum_nil]; omega)
 have c3 := ev_k80 f.recs g.recs (by omega) (by omega) (fun r hr => by have := u5 r hr; omega) (fun r hr => by have := w5 r hr; omega)
 generalize q1e [f.gone, g.gone] = q at *
 generalize qck f.recs g.recs = R at *
 cases hE : qbu f.adds g.adds with
 | none =>
  rw [hE] at c1
  change Ev _ _ _ (.ret (.tup [.sl 4 (q0a []), .bool false])) at c1
  (have hF := (aI @hcf @hcg); refine q01 (k:=?_); clear hF)
  refine q00 [.sl 4 (q0a f.adds), .sl 4 (q0a g.adds)] (he := c1) (k:=?_)
  (have hF := (aI @hcf @hcg); refine q01 (k:=?_); clear hF)
  exact Fin.done ⟨_, Wk.cells_nil (k := 4) rfl sub4, [q5e noF, .bool false], by with_unfolding_all rfl, by simp [q0k, qav, AVal.stb], _, q1s _, rfl⟩
 | some L =>
  rw [hE] at c1
  change Ev _ _ _ (.ret (.tup [.sl 4 (q0a L), .bool true])) at c1
  (have hF := (aI @hcf @hcg); refine q01 (k:=?_); clear hF)
  refine q00 [.sl 4 (q0a f.adds), .sl 4 (q0a g.adds)] (he := c1) (k:=?_)
  (have hF := (aI @hcf @hcg); refine q01 (k:=?_); clear hF)
  refine q00 [.sl 2 (q1o [f.gone, g.gone])] (he := c2) (k:=?_)
  unfold q0h
  (have hF := (aI @hcf @hcg); refine q01 (k:=?_); clear hF)
  refine q00 [.sl 3 (q08 f.recs), .sl 3 (q08 g.recs)] (he := c3) (k:=?_)
  (have hF := (aI @hcf @hcg); refine q01 (k:=?_); clear hF)
  exact Fin.done ⟨_, Wk.refl _ _, [q5e ⟨L, q, R⟩, .bool true], by with_unfolding_all rfl, by simp [q0k, qav, AVal.stb], _, q1s _, rfl⟩
theorem zpw {a b : Swt} (h : ¬ qcm a b = 0) : q86 a b = noS := if_neg h

def zo3 : List SOp := [zO 0 (.alloc 31)]
instance : Live zo3 := ⟨[]⟩
def zo2 : List SOp := [zO 1 (.build 41 #[(0,.const (.int .i64 0)),(1,.const (.int .i64 1))]),zO 2 (.build 62 #[(0,.tmp 1),(1,.const (.string ⟨#[65]⟩)),(2,.const (.int .i64 5))]),zO 3 (.buildSlice 22 1 #[(0,.tmp 2)]),zO 4 (.buildSlice 23 1 #[(0,.const (.int .i64 1))]),zO 5 (.build 26 #[(0,.tmp 4)]),zO 6 (.build 31 #[(0,.tmp 3),(1,.tmp 5)]),⟨none,.store 31 (.tmp 0) (.tmp 6),none⟩]
instance : Live zo2 := ⟨[0]⟩
def t_k14 : SC :=
 (.seq (.ops false zo3) (.seq (.ops false zo2) .ret))
theorem it_k14 : FnIs Tryz.prog 14 7 [.cell 0 31] t_k14 := ⟨Tryz.f14, _, Tryz.func14, rfl, rfl, rfl, rfl, by kernel_rfl⟩


def a1E : Ent := ⟨0, 1, sA, 5⟩
def a1P : Pst := ⟨[1], []⟩
def a1S : Swt := ⟨[a1E], a1P, []⟩
theorem a1rows : (ofT [(0, 1)]).map q10 = [[(1, 1)], [], [], [], [], [], [], [], [], [], [], [], [], [], [], []] := by
 have h : ofT [(0, 1)] = [[(1, 1)], [], [], [], [], [], [], [], [], [], [], [], [], [], [], []] := by decide
 rw [h]
 have n0 : q10 [] = [] := q4u Can.nil
 have n1 : q10 [(1, 1)] = [(1, 1)] := (qcc (c := [(1, 1)]) (by decide) (by simp)).trans (by decide)
 simp only [List.map_cons, List.map_nil, n0, n1]
theorem a1rows2 : (q0m [a1P, ⟨[], []⟩]).map q10 = [[(1, 1)], [], [], [], [], [], [], [], [], [], [], [], [], [], [], []] := by
 have h : q0m [a1P, ⟨[], []⟩] = [[(1, 1)], [], [], [], [], [], [], [], [], [], [], [], [], [], [], []] := by decide
 rw [h]
 have n0 : q10 [] = [] := q4u Can.nil
 have n1 : q10 [(1, 1)] = [(1, 1)] := (qcc (c := [(1, 1)]) (by decide) (by simp)).trans (by decide)
 simp only [List.map_cons, List.map_nil, n0, n1]
theorem a1dots : q3g [a1E] = a1P := by
 show ofP [(0, 1)] = a1P
 unfold ofP
 rw [qel, a1rows]
 rfl
theorem a1join : q1e [a1P, ⟨[], []⟩] = a1P := by
 unfold q1e
 rw [qel, a1rows2]
 rfl
theorem qji : CanP ⟨[], []⟩ := by
 unfold CanP q1g
 rw [qel, rows0]
 rfl
theorem a1ent : q2b a1E = 0 := by unfold q2b; simp [a1E, good_A]
theorem a1form : q80 [a1E] := ⟨fun i e h => by
 match i with
 | 0 => simp at h; subst h; exact a1ent
 | i + 1 => simp at h, fun i a b h h' => by simp at h'⟩
theorem qal : q3s [] := ⟨fun i r h => by simp at h, fun i a b h => by simp at h⟩
theorem a1sub : qd1 [.sl 4 (q0a [a1E]), .sl 1 (q04 [1]), .nil, .nil] [.sl 4 (q0a [a1E]), .sl 1 (q04 [1]), .sl 3 [], .sl 3 []] := ⟨.inl rfl, .inl rfl, .inr ⟨rfl, 3, rfl⟩, .inr ⟨rfl, 3, rfl⟩, trivial⟩
theorem ev_k14 : Ev (En Tryz.prog rfl).P 14 [] (.ret (q40 a1S)) := by
 refine Ev.of_body it_k14 (by simp) (AW.wkEnd (Run.start ?_))
 unfold t_k14
 (have hF := True.intro; refine q01 (k:=?_); clear hF)
 exact Fin.done ⟨_, Wk.cells_nil (k := 0) rfl a1sub, [q40 a1S], by with_unfolding_all rfl, by simp [q0k, q3f], _, q1s _, rfl⟩
theorem q7z : Tryz.prog.cellsOf 29 = 4 := by kernel_rfl
def zrw (f : Fct) : List AVal := [.sl 4 (q0a f.adds), .sl 1 (q04 f.gone.vec), .sl 3 (q0c f.gone.cloud), .sl 3 (q08 f.recs)]
theorem op_Facts : Opens Tryz.prog 29 Fct (fun f => okP f.gone) zrw wtF :=
 (Opens.struct Tryz.underlying29 q7z (OpensF.cons (k := 1) zp5 (fun _ => rfl) qhb rfl (OpensF.cons (k := 2) qs5 (fun _ => rfl) q94 rfl (OpensF.cons (k := 1) zp2 (fun _ => rfl) qha rfl (OpensF.nil _))))).map
  (fun x => ⟨x.1, x.2.1, x.2.2.1⟩) (fun x h => h.2.1) (fun _ => rfl)
  (fun x => by
   show x.1.length + wt x.2.1 + q4y x.2.2.1 ≤ wtL (fun _ => 1) x.1 + (wt x.2.1 + ((q4y x.2.2.1 + 1) + 0)) + 1
   rw [qdd]; omega)





def zmx : List SOp := [zO 0 (.alloc 31)]
instance : Live zmx := ⟨[]⟩
def zmw : List SOp := [zO 1 (.buildSlice 23 1 #[(0,.const (.int .i64 1))]),zO 2 (.build 26 #[(0,.tmp 1)]),zO 3 (.build 31 #[(1,.tmp 2)]),⟨none,.store 31 (.tmp 0) (.tmp 3),none⟩]
instance : Live zmw := ⟨[0]⟩
def t_k34 : SC :=
 (.seq (.ops false zmx) (.seq (.ops false zmw) .ret))
theorem it_k34 : FnIs Tryz.prog 34 4 [.cell 0 31] t_k34 := ⟨Tryz.f34, _, Tryz.func34, rfl, rfl, rfl, rfl, by kernel_rfl⟩

def znj : List SOp := [zO 0 (.assign (.const (.bool false)))]
instance : Live znj := ⟨[]⟩
def zni : List SOp := [zO 6 (.call ⟨.value (.func 14),#[],#[]⟩),zO 7 (.call ⟨.value (.func 34),#[],#[]⟩),zO 8 (.call ⟨.value (.func 25),#[.tmp 6,.tmp 7],#[31,31]⟩),zM 5 8,zX 9 5 0,zX 10 5 1,zO 1 (.alloc 31),⟨none,.store 31 (.tmp 1) (.tmp 9),none⟩,zG 2 10]
instance : Live zni := ⟨[]⟩
def znh : List SOp := [zO 12 (.call ⟨.value (.func 14),#[],#[]⟩),zO 13 (.build 31 #[]),zO 14 (.call ⟨.value (.func 25),#[.tmp 12,.tmp 13],#[31,31]⟩),zM 11 14,zX 15 11 0,zX 16 11 1,zO 3 (.alloc 31),⟨none,.store 31 (.tmp 3) (.tmp 15),none⟩,zG 4 16]
instance : Live znh := ⟨[1,2]⟩
def zng : List SOp := [zM 17 2,zO 18 (.binOp .eql 32 (.tmp 17) (.const (.int .i64 0)) 32),zM 19 18,⟨some 20,.move (.tmp 4),some ((some 19),true)⟩,⟨some 21,.binOp .eql 32 (.tmp 20) (.const (.int .i64 0)) 32,some ((some 19),true)⟩,zO 22 (.pick (.tmp 19) (.tmp 21) (.const (.bool false))),zM 23 22,⟨some 24,.fieldAddr 31 (.tmp 1) 0,some ((some 23),true)⟩,⟨some 25,.load 22 (.tmp 24),some ((some 23),true)⟩,⟨some 26,.call ⟨.builtin .len,#[.tmp 25],#[22]⟩,some ((some 23),true)⟩,⟨some 27,.binOp .eql 3 (.tmp 26) (.const (.int .i64 0)) 3,some ((some 23),true)⟩,zO 28 (.pick (.tmp 23) (.tmp 27) (.const (.bool false))),zM 29 28,⟨some 30,.fieldAddr 31 (.tmp 1) 1,some ((some 29),true)⟩,⟨some 31,.fieldAddr 26 (.tmp 30) 0,some ((some 29),true)⟩,⟨some 32,.load 23 (.tmp 31),some ((some 29),true)⟩,⟨some 33,.call ⟨.builtin .len,#[.tmp 32],#[23]⟩,some ((some 29),true)⟩,⟨some 34,.binOp .eql 3 (.tmp 33) (.const (.int .i64 1)) 3,some ((some 29),true)⟩,zO 35 (.pick (.tmp 29) (.tmp 34) (.const (.bool false))),zM 36 35,⟨some 37,.fieldAddr 31 (.tmp 3) 0,some ((some 36),true)⟩,⟨some 38,.load 22 (.tmp 37),some ((some 36),true)⟩,⟨some 39,.call ⟨.builtin .len,#[.tmp 38],#[22]⟩,some ((some 36),true)⟩,⟨some 40,.binOp .eql 3 (.tmp 39) (.const (.int .i64 1)) 3,some ((some 36),true)⟩,zO 41 (.pick (.tmp 36) (.tmp 40) (.const (.bool false))),zM 42 41,⟨some 43,.fieldAddr 31 (.tmp 3) 0,some ((some 42),true)⟩,⟨some 44,.load 22 (.tmp 43),some ((some 42),true)⟩,⟨some 45,.indexAddr 22 (.tmp 44) (.const (.int .i64 0)),some ((some 42),true)⟩,⟨some 46,.fieldAddr 62 (.tmp 45) 2,some ((some 42),true)⟩,⟨some 47,.load 3 (.tmp 46),some ((some 42),true)⟩,⟨some 48,.binOp .eql 3 (.tmp 47) (.const (.int .i64 5)) 3,some ((some 42),true)⟩,zO 49 (.pick (.tmp 42) (.tmp 48) (.const (.bool false))),zG 0 49]
instance : Live zng := ⟨[1,2,3,4]⟩
def t_k24 : SC :=
 (.seq (.ops false znj) (.seq (.ops false zni) (.seq (.ops false znh) (.seq (.ops false zng) .ret))))
theorem it_k24 : FnIs Tryz.prog 24 50 [.tmp 0] t_k24 := ⟨Tryz.f24, _, Tryz.func24, rfl, rfl, rfl, rfl, by kernel_rfl⟩


theorem zb9 (a b : Swt) : wtS (q86 a b) ≤ 16 + wtS a + wtS b := by
 by_cases h : qcm a b = 0
 ·rw [q5c h]; exact zb8 a b
 ·rw [zpw h]
  exact Nat.zero_le _
theorem zdn {a b : Swt} (h : qcm a b = 0) : FormS a ∧ FormS b ∧ FormS (q86 a b) := by
 obtain ⟨h1, h2, M, hM⟩ := qqn.1 h
 exact ⟨h1, h2, by rw [q5c h]; exact qbh h1 h2 hM⟩

def qqc : Swt := ⟨[], a1P, []⟩
theorem qtb : CanP a1P := by rw [← a1join]; exact q28 _
theorem qg6 (p : Pst) : q0n (q3g []) p = true := q4h.2 fun d hd => by
 rw [q6k (by simp)] at hd
 obtain ⟨e, he, _⟩ := hd
 cases he
theorem qf7 : q80 [] := ⟨fun i e h => by simp at h, fun i a b h => by simp at h⟩
theorem qdc : FormS a1S := ⟨a1form, qtb, qal, by
 show q0n (q3g [a1E]) a1P = true
 rw [a1dots]
 exact qdg _, fun r hr => (nomatch hr), fun e _ ⟨r, hr, _⟩ => (nomatch hr)⟩
theorem qgs : FormS qqc := ⟨qf7, qtb, qal, qg6 _, fun r hr => (nomatch hr), fun e he => (nomatch he)⟩
theorem zas : FormS noS := ⟨qf7, qji, qal, qg6 _, fun r hr => (nomatch hr), fun e he => (nomatch he)⟩
theorem a1has : q1l a1P a1E.dot = true := by
 rw [← a1dots, q6k (fun e he => by simp at he; subst he; exact a1ent)]
 exact ⟨a1E, by simp, rfl⟩
theorem zph (d : Rn) : q1l ⟨[], []⟩ d = false := by
 have h : q1l ⟨[], []⟩ d = true → False := fun h => by
  have := qir h
  have := kpe_size
  omega
 cases hh : q1l ⟨[], []⟩ d
 ·rfl
 ·exact (h hh).elim
theorem zaz : q32 a1S qqc = some [] := by
 have hk : q1i a1P a1E = false := by unfold q1i; rw [a1has]; rfl
 show (q6z (q1i a1P) (q1i a1P) 0 [] []).map (qgk (q1i a1P a1E) a1E ++ ·) = some []
 rw [hk]
 rfl
theorem mrg_no : q32 a1S noS = some [a1E] := by
 have hk : q1i ⟨[], []⟩ a1E = true := by unfold q1i; rw [zph]; rfl
 show (q6z (q1i ⟨[], []⟩) (q1i a1P) 0 [] []).map (qgk (q1i ⟨[], []⟩ a1E) a1E ++ ·) = some [a1E]
 rw [hk]
 rfl
theorem join_a1 : q1e [a1P, a1P] = a1P := qbl (q28 _) qtb fun d => by rw [q4p, Bool.or_self]
theorem err_gone : qcm a1S qqc = 0 := by rw [qap qdc qgs, zaz]; rfl
theorem err_no : qcm a1S noS = 0 := by rw [qap qdc zas, mrg_no]; rfl
theorem qsg : q86 a1S qqc = ⟨[], a1P, []⟩ := by
 rw [qbj qdc qgs zaz]
 show Swt.mk (q3z (q84 []) []) (q1e [a1P, a1P]) (q0x (q84 []) _) = _
 rw [join_a1]
 rfl
theorem zpu : q86 a1S noS = ⟨[a1E], a1P, []⟩ := by
 rw [qbj qdc zas mrg_no]
 show Swt.mk (q3z (q84 []) [a1E]) (q1e [a1P, ⟨[], []⟩]) (q0x (q84 []) _) = _
 rw [a1join]
 rfl
theorem ev_k34 : Ev (En Tryz.prog rfl).P 34 [] (.ret (q40 qqc)) := by
 refine Ev.of_body it_k34 (by simp) (AW.wkEnd (Run.start ?_))
 unfold t_k34
 (have hF := True.intro; refine q01 (k:=?_); clear hF)
 exact Fin.done ⟨_, Wk.cells_nil (k := 0) rfl (show qd1 [.nil, .sl 1 (q04 [1]), .nil, .nil] [.sl 4 (q0a []), .sl 1 (q04 [1]), .sl 3 [], .sl 3 []] from ⟨.inr ⟨rfl, 4, rfl⟩, .inl rfl, .inr ⟨rfl, 3, rfl⟩, .inr ⟨rfl, 3, rfl⟩, trivial⟩), [q40 qqc], by with_unfolding_all rfl, by simp [q0k, q3f], _, q1s _, rfl⟩
theorem ev_k24 : Ev (En Tryz.prog rfl).P 24 [] (.ret (.bool true)) := by
 refine Ev.of_body it_k24 (by simp) (Run.start ?_)
 unfold t_k24
 have hS := qc8
 have c1 := qgz a1S qqc (by decide) (by decide)
 rw [qsg, err_gone] at c1
 have c2 := qgz a1S noS (by decide) (by decide)
 rw [zpu, err_no] at c2
 replace c2 : Ev (En Tryz.prog rfl).P 25 [q40 a1S, .agg [.nil, .nil, .nil, .nil]] _ := c2.wks ⟨Wkn.refl _, Wkn.agg ⟨Wkn.nil 4, Wkn.nil 1, Wkn.nil 3, Wkn.nil 3, trivial⟩, trivial⟩
 have c3 := ev_k14
 have c4 := ev_k34
 have l0 : (q0a []).length = 0 := rfl
 have l1 : (q0a [a1E]).length = 1 := rfl
 have l2 : (q04 a1P.vec).length = 1 := rfl
 have g1 : (q0a [a1E])[0]? = some (.agg [.int .i64 0, .int .i64 1, .str sA, .int .i64 5]) := rfl
 (have hF := True.intro; refine q01 (k:=?_); clear hF)
 refine q00 [] (he := c3) (k:=?_)
 (have hF := True.intro; refine q01 (k:=?_); clear hF)
 refine q00 [] (he := c4) (k:=?_)
 (have hF := True.intro; refine q01 (k:=?_); clear hF)
 refine q00 [q40 a1S, q40 qqc] (he := c1) (k:=?_)
 (have hF := True.intro; refine q01 (k:=?_); clear hF)
 refine q00 [] (he := c3) (k:=?_)
 (have hF := True.intro; refine q01 (k:=?_); clear hF)
 refine q00 [q40 a1S, .agg [.nil, .nil, .nil, .nil]] (he := c2) (k:=?_)
 unfold q40
 (have hF := (aI (aI @l0 @l1) (aI @l2 @g1)); refine q01 (k:=?_); clear hF)
 exact Fin.tmp' rfl rfl

def Of (E : List Fct) (s : Swt) (f : Fct) : Prop := ∃ G, (∀ x ∈ G, x ∈ E) ∧ Uni G f ∧ s = stF f
theorem Of.mono {E F : List Fct} {s : Swt} {f : Fct} (h : Of E s f) (hE : ∀ x ∈ E, x ∈ F) : Of F s f := let ⟨G, h1, h2, h3⟩ := h; ⟨G, fun x hx => hE x (h1 x hx), h2, h3⟩
theorem Of.form {E : List Fct} {s : Swt} {f : Fct} (h : Of E s f) : FormF f ∧ s = stF f := let ⟨G, _, h2, h3⟩ := h; ⟨h2.form, h3⟩
theorem Of.wts {E : List Fct} {s : Swt} {f : Fct} (h : Of E s f) (hE : ∀ x ∈ E, q3j x = 0) : wtF f ≤ wtE E + 16 ∧ wtS s ≤ wtE E + 64 := by
 obtain ⟨G, h1, h2, rfl⟩ := h
 exact ⟨h2.leF h1 fun x hx => q5a (hE x hx), h2.leS h1 hE⟩
theorem Of.one {E : List Fct} {f : Fct} (he : q3j f = 0) (hf : f ∈ E) : Of E (ze9 f) f :=
 ⟨[f], fun x hx => by rw [List.mem_singleton.1 hx]; exact hf, Uni.one (q5a he), evtS_st he⟩
theorem zat : FormF noF := ⟨qf7, qji, qal⟩
theorem stF_no : stF noF = noS := by
 refine qrt rfl ?_ rfl
 refine qbl (q28 _) qji fun d => ?_
 show q1l (q1j noF) d = true ↔ _
 rw [q2n zat]
 show q4n [] d ∨ q1l (⟨[], []⟩ : Pst) d = true ↔ q1l (⟨[], []⟩ : Pst) d = true
 exact ⟨fun h => h.elim (fun ⟨e, he, _⟩ => nomatch he) id, .inr⟩
theorem Uni.nil : Uni [] noF := by
 refine ⟨zat, fun e => ?_, fun d => ?_, fun r => ?_⟩
 ·constructor
  ·intro h; cases h
  ·rintro ⟨g, hg, _⟩; cases hg
 ·constructor
  ·intro h
   have h' : q1l (⟨[], []⟩ : Pst) d = true := h
   rw [zph] at h'
   cases h'
  ·rintro ⟨g, hg, _⟩; cases hg
 ·constructor
  ·intro h; cases h
  ·rintro ⟨g, hg, _⟩; cases hg
theorem Of.no (E : List Fct) : Of E noS noF := by
 refine ⟨[], fun x hx => ?_, Uni.nil, stF_no.symm⟩
 cases hx
theorem qrq {f g : Fct} (hf : FormF f) (hg : FormF g) {L : List Ent} (hL : qbu f.adds g.adds = some L) : qcw f g = q6b f g L := by
 unfold qcw q6b
 rw [hL]
 simp only
 rw [zpi hf.recs hg.recs]
theorem Of.join {E : List Fct} {s t : Swt} {f g : Fct} (h1 : Of E s f) (h2 : Of E t g) {L : List Ent} (hL : qbu f.adds g.adds = some L) :
 qcm s t = 0 ∧ q86 s t = stF (qcw f g) ∧ Of E (stF (qcw f g)) (qcw f g) := by
 obtain ⟨G, a1, a2, rfl⟩ := h1
 obtain ⟨H, b1, b2, rfl⟩ := h2
 obtain ⟨hM, hj⟩ := quj a2.form b2.form hL
 have he : qcm (stF f) (stF g) = 0 := qqn.2 ⟨qa6 a2.form, qa6 b2.form, hM⟩
 rw [qrq a2.form b2.form hL]
 exact ⟨he, by rw [q5c he, hj], G ++ H, fun x hx => (List.mem_append.1 hx).elim (a1 x) (b1 x), a2.union b2 hL, rfl⟩
theorem qf0 {a b : Swt} (h : qcm a b = 0) : FormS (q86 a b) := (zdn h).2.2

end Go.Proofs.YthejoeiecenjkaaGreat.Avm
