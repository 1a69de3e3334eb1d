/- Part 2 of the proof: lemmas. -/
import Derived.Test.YtdmfjkhbodbgoaaN1
import Derived.Test.YtdmfjkhbodbgoaaProg
import Derived.KernelRfl
set_option maxRecDepth 100000
set_option maxHeartbeats 4000000
set_option linter.unusedVariables false
set_option linter.unusedSimpArgs false
set_option linter.unusedSectionVars false
set_option linter.defProp false
namespace Go.Proofs.Ytdmfjkhbodbgoaa.Avm
section
variable {P : Program} {TE : TyE} {EQ : TypeId → Bool} {RK : Option (List Nat × (Nat → Bool))}
theorem AS.put_M (T : Tmps) (M : Mem) (d : Option Tmp) (v : AVal) : (AS.put ⟨T, M⟩ d v).M = M := by cases d <;> rfl
theorem AS.put_T (T : Tmps) (M M' : Mem) (d : Option Tmp) (v : AVal) : (AS.put ⟨T, M⟩ d v).T = (AS.put ⟨T, M'⟩ d v).T := by cases d <;> rfl
theorem AS.put_eq (T : Tmps) (M M' : Mem) (d : Option Tmp) (v : AVal) : AS.put ⟨T, M⟩ d v = ⟨(AS.put ⟨T, M'⟩ d v).T, M⟩ := by cases d <;> rfl
theorem AS.put_comm (T : Tmps) (M M1 M2 : Mem) {d e : Option Tmp} (v u : AVal) (h : ∀ x, d = some x → e ≠ some x) :
    AS.put ⟨(AS.put ⟨T, M1⟩ d v).T, M⟩ e u = AS.put ⟨(AS.put ⟨T, M2⟩ e u).T, M⟩ d v := by
  cases d with
  | none => cases e <;> rfl
  | some d =>
    cases e with
    | none => rfl
    | some e =>
      have hne : d ≠ e := fun he => h d rfl (he ▸ rfl)
      simp only [AS.put]
      rw [upd_comm T v u (Ne.symm hne)]
def okPair (rw : Bool) : Cls → Cls → Bool
  | .q, _ => true
  | _, .q => true
  | .r, .w => rw
  | .w, .r => rw
  | .r, .r => true
  | .a, .r => true
  | .r, .a => true
  | .a, .a => true
  | _, _ => false
def swapB (rw : Option (List Nat)) (ops : Array Oper) (x y : Oper) : Bool := x.apart ops y && okPair rw.isSome (clsO rw x.dst x.op) (clsO rw y.dst y.op)
theorem YA.swap {ops : Array Oper} {oi oj : Oper} (hap : swapB (RK.map (·.1)) ops oi oj = true) {n : Nat} {T : Tmps} {M Mi Mij : Mem} {vi vj : AVal} (hi : Inh n ⟨T, M⟩)
    (h1 : YA P TE EQ RK ops ⟨T, M⟩ oi vi Mi) (h2 : YA P TE EQ RK ops (AS.put ⟨T, Mi⟩ oi.dst vi) oj vj Mij) :
    ∃ Mj, YA P TE EQ RK ops ⟨T, M⟩ oj vj Mj ∧ YA P TE EQ RK ops (AS.put ⟨T, Mj⟩ oj.dst vj) oi vi Mij := by
  simp only [swapB, Bool.and_eq_true] at hap
  obtain ⟨hap, hok⟩ := hap
  obtain ⟨a1, a2, a3⟩ := Oper.apart_spec hap
  have e2 : YA P TE EQ RK ops ⟨T, Mi⟩ oj vj Mij := by
    rw [AS.put_eq T Mi NoM] at h2
    exact YA.congr (Looks.put (M' := NoM) a1).symm h2
  have back : ∀ Mj, YA P TE EQ RK ops ⟨T, Mj⟩ oi vi Mij → YA P TE EQ RK ops (AS.put ⟨T, Mj⟩ oj.dst vj) oi vi Mij := fun Mj h => by
    rw [AS.put_eq T Mj NoM]
    exact YA.congr (Looks.put (M := NoM) (M' := NoM) a3) h
  cases ci : clsO (RK.map (·.1)) oi.dst oi.op <;> cases cj : clsO (RK.map (·.1)) oj.dst oj.op <;> simp only [ci, cj, okPair, Bool.false_eq_true] at hok
  case q.q => obtain ⟨rfl, q1⟩ := h1.quiet (clsO_op ci (by simp)); exact ⟨Mij, e2, back _ (q1 _)⟩
  case q.r => obtain ⟨rfl, q1⟩ := h1.quiet (clsO_op ci (by simp)); exact ⟨Mij, e2, back _ (q1 _)⟩
  case q.a => obtain ⟨rfl, q1⟩ := h1.quiet (clsO_op ci (by simp)); exact ⟨Mij, e2, back _ (q1 _)⟩
  case q.w => obtain ⟨rfl, q1⟩ := h1.quiet (clsO_op ci (by simp)); exact ⟨Mij, e2, back _ (q1 _)⟩
  case r.q => obtain ⟨rfl, q1⟩ := e2.quiet (clsO_op cj (by simp)); exact ⟨M, q1 _, back _ h1⟩
  case a.q => obtain ⟨rfl, q1⟩ := e2.quiet (clsO_op cj (by simp)); exact ⟨M, q1 _, back _ h1⟩
  case w.q => obtain ⟨rfl, q1⟩ := e2.quiet (clsO_op cj (by simp)); exact ⟨M, q1 _, back _ h1⟩
  case r.w =>
    cases RK with
    | none => simp at hok
    | some wK =>
      obtain ⟨ws, K⟩ := wK
      obtain rfl := h1.reads ci
      exact ⟨Mij, e2, back _ (h1.rkeep ci (e2.wkeep cj))⟩
  case w.r =>
    cases RK with
    | none => simp at hok
    | some wK =>
      obtain ⟨ws, K⟩ := wK
      have hk := h1.wkeep ci
      obtain rfl := e2.reads cj
      exact ⟨M, e2.rkeep cj (fun k hK => (hk k hK).symm), back _ h1⟩
  case r.r =>
    obtain rfl := h1.reads ci
    obtain rfl := e2.reads cj
    exact ⟨Mij, e2, back _ h1⟩
  case r.a =>
    obtain rfl := h1.reads ci
    rcases e2.makes (clsO_op cj (by simp)) with ⟨rfl, q1⟩ | ⟨d, blk, b1, b2, rfl, b4⟩
    · exact ⟨Mij, e2, back _ h1⟩
    · exact ⟨_, e2, back _ (h1.frame hi ci b2 _).2⟩
  case a.r =>
    rcases h1.makes (clsO_op ci (by simp)) with ⟨rfl, q1⟩ | ⟨d, blk, b1, b2, rfl, b4⟩
    · exact ⟨Mij, e2, back _ (q1 _)⟩
    · obtain ⟨rfl, f2⟩ := e2.unframe hi cj b2 _
      exact ⟨M, f2, back _ h1⟩
  case a.a =>
    rcases h1.makes (clsO_op ci (by simp)) with ⟨rfl, q1⟩ | ⟨d, blk, b1, b2, rfl, b4⟩
    · exact ⟨Mij, e2, back _ (q1 _)⟩
    · rcases e2.makes (clsO_op cj (by simp)) with ⟨rfl, q1⟩ | ⟨e, blk', c1, c2, rfl, c4⟩
      · exact ⟨M, q1 _, back _ h1⟩
      · have hne : d ≠ e := fun he => a2 d b1 (by rw [c1, he])
        rw [upd_ne _ _ (Ne.symm hne)] at c2
        refine ⟨_, c4 M c2, back _ ?_⟩
        rw [upd_comm M _ _ (Ne.symm hne)]
        exact b4 _ (by rw [upd_ne _ _ hne]; exact b2)
theorem CallsA.wp {s : AS} {o : Oper} {Kf : Nat → Bool} {out : Out} {n : Nat} {B : Nat → Prop} {G : Gh} {a : Act} {w : World} (h : Rel n B G s a w)
    {K : Act → World → Prop} {Q : Exit → Act → World → Prop}
    (hr : match out with
      | .ret x => ∀ v' w' G', Adv G w G' w' → Rel n B G' ⟨s.T, if x.flt = true then s.M else kill Kf s.M⟩ a w' → VR (Dm (if x.flt = true then s.M else kill Kf s.M)) G' B w' x v' → K (a.put o.dst v') w'
      | .pan x => ∀ v' w' G', Adv G w G' w' → Rel n B G' ⟨s.T, if x.flt = true then s.M else kill Kf s.M⟩ a w' → VR (Dm (if x.flt = true then s.M else kill Kf s.M)) G' B w' x v' → Q (.panic [{ v := v', recovered := false }]) a w') (hc : CallsA P s o Kf out) :
    o.wp P a w K Q := by
  obtain ⟨x, args, ts, f, caps, ho, hf, hst, he⟩ := hc
  obtain ⟨fn, hfn, hnm, hbd⟩ := he.1.ok
  have hx := h.ev x
  rw [hf] at hx
  generalize hxv : a.eval x = xv at hx
  cases hx with
  | fn _ _ vs hl hh =>
    have hrun : (execOp a.eval o).run P w = .ok (.enter f (args.map a.eval ++ vs)) w := by
      unfold execOp
      rw [ho]
      have h1 : (fn.name = "runtime.NumGoroutine") = False := by simpa using hnm
      have h2 : (fn.body = none) = False := by simp only [eq_iff_iff, iff_false]; intro hn; rw [hn] at hbd; simp at hbd
      simp [resolve, hxv, Deferred.ofValue, invoke, callFunc, hfn, h1, h2]
    unfold Oper.wp
    rw [hrun]
    simp only [Oper.upon]
    obtain ⟨q1, q2⟩ := args_ok h args
    refine call_ok h Kf (args := evs s.T args.toList ++ caps) (by simp [q1, hl]) (fun i y u hy hu => ?_) hst he ?_
    · rcases Nat.lt_or_ge i (evs s.T args.toList).length with hlt | hge
      · rw [List.getElem?_append_left hlt] at hy
        rw [Array.getElem?_append_left (by rw [q1]; exact hlt)] at hu
        obtain ⟨u', hu', hr'⟩ := q2 i y hy
        rw [hu] at hu'
        exact (Option.some.inj hu') ▸ hr'
      · rw [List.getElem?_append_right hge] at hy
        rw [Array.getElem?_append_right (by rw [q1]; exact hge), q1] at hu
        exact hh _ y u hy hu
    · cases out <;> exact hr
theorem YA.sound {ops : Array Oper} (hT : TyOk P TE) (hE : ∀ t, EQ t = true → EqOk P t) {n : Nat} {B : Nat → Prop} {G : Gh} {s : AS} {a : Act} {w : World} (h : Rel n B G s a w) {o : Oper} {v : AVal} {M' : Mem}
    (hd : ∀ t, o.dst = some t → t < n) (hy : YA P TE EQ RK ops s o v M') {K : Act → World → Prop} {Q : Exit → Act → World → Prop}
    (hK : ∀ a' w' G', Adv G w G' w' → Rel n B G' (AS.put ⟨s.T, M'⟩ o.dst v) a' w' → K a' w') :
    if Region.wanted o (yielded ops a.tmps) = true then o.wp P a w K Q else K (a.put o.dst undef) w := by
  rcases hy with ⟨hw, hs⟩ | ⟨hw, rfl, rfl⟩
  · rw [if_pos (wantA_ok h hw)]
    rcases hs with ⟨ups, h1, rfl, h3, h4⟩ | ⟨Kf, hc, rfl, hk, _⟩
    · obtain ⟨r, w', v', G', e1, e2, e3, e4, e5⟩ := opA_ok hT hE h h1
      unfold Oper.wp
      rw [e1]
      rcases e2 with rfl | ⟨rfl, rfl⟩
      · exact hK _ _ G' e3 (e4.put hd e5)
      · exact hK _ _ G' e3 (e4.put hd e5)
    · refine CallsA.wp (out := .ret v) h (fun v' w' G' hA hR hV => ?_) hc
      have hM : (if v.flt = true then s.M else kill Kf s.M) = s.M := by
        rcases hk with hk | hk
        · simp [hk]
        · subst hk; simp [kill_none]
      rw [hM] at hR hV
      exact hK _ _ G' hA (hR.put hd hV)
  · rw [if_neg (by rw [wantA_ok h hw]; simp)]
    refine hK _ _ G (.refl G w) (h.put hd ?_)
    exact .tup [] #[] rfl fun n x v hx => by simp at hx
theorem wp_exists {o : Oper} {a : Act} {w : World} {K : Act → World → Prop} (h : o.wp P a w K (fun _ _ _ => False)) : ∃ a' w', K a' w' := by
  unfold Oper.wp at h
  generalize (execOp a.eval o).run P w = r at h
  cases r with
  | ok n w' =>
    cases n <;> simp only [Oper.upon] at h
    case value u => exact ⟨_, _, h⟩
    case skip => exact ⟨_, _, h⟩
    case defer d => exact ⟨_, _, h⟩
    case enter f args =>
      obtain ⟨e, w'', fr, hR, _⟩ := h []
      cases e with
      | returned v => exact ⟨_, _, hR⟩
      | panicked c => exact hR.elim
      | outgrown => obtain ⟨_, _, hf⟩ := hR; exact hf.elim
    case row row args =>
      obtain ⟨v, w'', hR, _⟩ := h default []
      exact ⟨_, _, hR⟩
  | halt x w' => cases x <;> simp only [Oper.upon] at h
theorem YA.inh {ops : Array Oper} (hT : TyOk P TE) (hE : ∀ t, EQ t = true → EqOk P t) {n : Nat} {s : AS} (h : Inh n s) {o : Oper} {v : AVal} {M' : Mem}
    (hd : ∀ t, o.dst = some t → t < n) (hy : YA P TE EQ RK ops s o v M') : Inh n (AS.put ⟨s.T, M'⟩ o.dst v) := by
  obtain ⟨B, G, a, w, h⟩ := h
  have := YA.sound (Q := fun _ _ _ => False) (K := fun a' w' => ∃ G', Rel n B G' (AS.put ⟨s.T, M'⟩ o.dst v) a' w') hT hE h hd hy (fun a' w' G' _ hR => ⟨G', hR⟩)
  split at this
  · obtain ⟨a', w', G', hR⟩ := wp_exists this
    exact ⟨B, G', a', w', hR⟩
  · obtain ⟨G', hR⟩ := this
    exact ⟨B, G', _, _, hR⟩
end
end Go.Proofs.Ytdmfjkhbodbgoaa.Avm

namespace Go.Proofs.Ytdmfjkhbodbgoaa.Avm
open Go.Proofs
def EvNew (P : Program) (f : FuncId) (args : List AVal) (cs : List AVal) : Prop :=
  Callable P f ∧ ∀ (B : Nat → Prop) (w : World) (vs : Array Value) (G : Gh), (∀ b, G.ow b = none) → vs.size = args.length →
    (∀ (i : Nat) (x : AVal) (v : Value), args[i]? = some x → vs[i]? = some v → VR (Dm NoM) G B w x v) → (∀ b, B b → b < w.heap.size) →
    Calls P f vs w (fun e w' => ∃ (G' : Gh) (b : Nat) (c : Array Value) (el : TypeId), w.heap.size ≤ b ∧ b < w'.heap.size ∧ (G'.ow b ≠ none) ∧ Adv G w G' w' ∧
      e = .returned (.pointer (some ⟨b, 0, none⟩)) ∧ w'.heap[b]? = some (.cells c el (0, 0)) ∧ c.size = cs.length ∧
      ∀ (i : Nat) (x : AVal), cs[i]? = some x → ∃ u, c[i]? = some u ∧ VR (Dm NoM) G' B w' x u)
theorem callNew_ok {P : Program} {n : Nat} {B : Nat → Prop} {G : Gh} {s : AS} {a : Act} {w : World} (h : Rel n B G s a w) {f : FuncId} {args cs : List AVal} {vs : Array Value} (hl : vs.size = args.length)
    (hv : ∀ (i : Nat) (x : AVal) (v : Value), args[i]? = some x → vs[i]? = some v → VR (Dm s.M) G B w x v) (hs : stbs (args.map (fz (fun _ => false) s.M)) = true) (he : EvNew P f (args.map (fz (fun _ => false) s.M)) cs)
    {k : Nat} (hk : s.M k = none) {R : Ending → World → Prop}
    (hr : ∀ v' w' G', Adv G w G' w' → Rel n B G' ⟨s.T, upd s.M k (some (.cells cs))⟩ a w' → VR (Dm (upd s.M k (some (.cells cs)))) G' B w' (.ptr k 0) v' → R (.returned v') w') :
    Calls P f vs w R := by
  let B' : Nat → Prop := fun b => B b ∨ G.ow b ≠ none
  let G0 : Gh := { G with ow := fun _ => none }
  have hargs : ∀ (i : Nat) (x : AVal) (v : Value), (args.map (fz (fun _ => false) s.M))[i]? = some x → vs[i]? = some v → VR (Dm NoM) G0 B' w x v := by
    intro i x v hx hvi
    have hst := stbs_get hs hx
    rw [List.getElem?_map] at hx
    cases ha : args[i]? with
    | none => simp [ha] at hx
    | some y =>
      simp only [ha, Option.map_some, Option.some.injEq] at hx
      subst hx
      refine (fz_ok (K := fun _ => false) h.mem (hv i y v ha hvi)).stable (fun b _ hn ho => ?_) hst
      have ho' : G.ow b = none := by
        simp only [Gh.without] at ho
        cases hb : G.ow b with
        | none => rfl
        | some key => simp [hb] at ho
      exact ⟨rfl, by simp only [B', not_or]; exact ⟨hn, fun hc => hc ho'⟩, rfl⟩
  have hB' : ∀ b, B' b → b < w.heap.size := fun b hb => by
    rcases hb with hb | hb
    · exact (h.fr b hb).1
    · exact h.ol b hb
  refine (he.2 B' w vs G0 (fun _ => rfl) (by simpa using hl) hargs hB').mono fun e w' ⟨G', b, c, el, hb1, hb2, hob, hA, heq, hheap, hcs, hcells⟩ => ?_
  subst heq
  have hsame : ∀ b', b' < w.heap.size → w'.heap[b']? = w.heap[b']? := fun b' hb => (hA.keep b' hb rfl).1
  let G1 : Gh := { β := upd G.β k b, hd := G.hd, ow := fun b' => if b' = b then some (.box k) else G.ow b', hd1 := G.hd1 }
  have g1 : ∀ b', b' < w.heap.size → G1.ow b' = G.ow b' := fun b' hlt => if_neg (by omega)
  have hA1 : Adv G w G1 w' := ⟨hA.os, hA.tape, hA.output, hA.size, fun b' hlt ho => ⟨hsame b' hlt, by rw [g1 b' hlt]; exact ho⟩⟩
  have hG : ∀ j e, Dm s.M j e → G1.β j = G.β j ∧ G1.hd j e = G.hd j e := fun j e hj => ⟨upd_ne _ _ (fun e' => by subst e'; exact Dm_none hk hj), rfl⟩
  have hnB : ¬ B b := fun hB => by have := (h.fr b hB).1; omega
  have hR1 : Rel n B G1 ⟨s.T, upd s.M k (some (.cells cs))⟩ a w' := by
    refine h.update hA1 k (.cells cs) (by rw [hk]; trivial) hG (fun b' key hlt _ ho _ => ⟨hsame b' hlt, by rw [g1 b' hlt]; exact ho⟩) (fun b' hne => ?_) ?_
    · by_cases e : b' = b
      · rw [e]; exact hb2
      · have : G1.ow b' = G.ow b' := if_neg e
        rw [this] at hne
        exact Nat.lt_of_lt_of_le (h.ol b' hne) hA.size
    · have hβ : G1.β k = b := upd_same _ _ _
      refine ⟨c, el, by rw [hβ]; exact if_pos rfl, by rw [hβ]; exact hnB, by rw [hβ]; exact hheap, hcs, fun i x hx => ?_⟩
      obtain ⟨u, hu, hvr⟩ := hcells i x hx
      refine ⟨u, hu, CellRel.of_VR (hvr.mono (fun _ _ h => absurd h NoM_D) (fun _ _ h => absurd h NoM_D) fun b' hlt hn ho => ?_)⟩
      simp only [B', not_or, ne_eq, Classical.not_not] at hn
      have hne : b' ≠ b := fun e => by rw [e] at ho; exact hob ho
      exact ⟨rfl, hn.1, (if_neg hne).trans hn.2⟩
  refine hr _ w' G1 hA1 hR1 ?_
  have hβ : G1.β k = b := upd_same _ _ _
  have := VR.ptr (D := Dm (upd s.M k (some (.cells cs)))) (G := G1) (B := B) (w := w') k 0 (by simp [Dm, upd_same])
  rw [hβ] at this
  exact this
end Go.Proofs.Ytdmfjkhbodbgoaa.Avm

namespace Go.Proofs.Ytdmfjkhbodbgoaa.Avm
open Go.Proofs
section
variable {P : Program} {TE : TyE} {EQ : TypeId → Bool} {RK : Option (List Nat × (Nat → Bool))}
def CallsN (P : Program) (s : AS) (o : Oper) (cs : List AVal) : Prop :=
  ∃ x args ts f caps, o.op = .call ⟨.value x, args, ts⟩ ∧ ev s.T x = .fn f caps ∧ stbs ((evs s.T args.toList ++ caps).map (fz (fun _ => false) s.M)) = true ∧ EvNew P f ((evs s.T args.toList ++ caps).map (fz (fun _ => false) s.M)) cs
def NewK (P : Program) (RK : Option (List Nat × (Nat → Bool))) (ops : Array Oper) (s : AS) (o : Oper) (v : AVal) (e : Nat) (blk : ABlk) : Prop :=
  wantA ops o s.T = some true ∧ RK = none ∧ o.dst = some e ∧ s.M e = none ∧ v = .ptr e 0 ∧ ∃ cs, blk = .cells cs ∧ CallsN P s o cs
def YN (P : Program) (TE : TyE) (EQ : TypeId → Bool) (RK : Option (List Nat × (Nat → Bool))) (ops : Array Oper) (s : AS) (o : Oper) (v : AVal) (M' : Mem) : Prop :=
  YA P TE EQ RK ops s o v M' ∨ ∃ e blk, NewK P RK ops s o v e blk ∧ M' = upd s.M e (some blk)
theorem NewK.cls {ops : Array Oper} {s : AS} {o : Oper} {v : AVal} {e : Nat} {blk : ABlk} (h : NewK P RK ops s o v e blk) : clsO (RK.map (·.1)) o.dst o.op = .r := by
  obtain ⟨_, rfl, _, _, _, cs, _, x, args, ts, f, caps, ho, _⟩ := h
  rw [ho]
  rfl
theorem NewK.congr {ops : Array Oper} {o : Oper} {T T' : Tmps} {M : Mem} {v : AVal} {e : Nat} {blk : ABlk} (h : Looks ops o T T') (hn : NewK P RK ops ⟨T, M⟩ o v e blk) : NewK P RK ops ⟨T', M⟩ o v e blk := by
  obtain ⟨h1, h2, h3, h4, h5, cs, h6, x, args, ts, f, caps, ho, hf, hs, he⟩ := hn
  have ha : evs T args.toList = evs T' args.toList := evs_congr fun y hy => h.ev (by rw [ho]; simp [Op.operands, Call.operands]; exact .inr (by simpa using hy))
  have hx : ev T x = ev T' x := h.ev (by rw [ho]; simp [Op.operands, Call.operands])
  refine ⟨by rw [← h.want]; exact h1, h2, h3, h4, h5, cs, h6, x, args, ts, f, caps, ho, ?_, ?_, ?_⟩
  · simp only at hf ⊢; rw [← hx]; exact hf
  · simp only at hs ⊢; rw [← ha]; exact hs
  · simp only at he ⊢; rw [← ha]; exact he
theorem args_upd {n : Nat} {T : Tmps} {M : Mem} (hi : Inh n ⟨T, M⟩) {d : Nat} (hd : M d = none) (b : Option ABlk) {x : Operand} {f : FuncId} {caps : List AVal} (hf : ev T x = .fn f caps) (l : List Operand) :
    (evs T l ++ caps).map (fz (fun _ => false) (upd M d b)) = (evs T l ++ caps).map (fz (fun _ => false) M) := by
  refine List.map_congr_left fun y hy => fz_upd hi.mlv hd b _ ?_
  rcases List.mem_append.1 hy with hy | hy
  · obtain ⟨z, _, rfl⟩ := List.mem_map.1 hy
    exact hi.lvs z
  · obtain ⟨_, _, _, _, hr⟩ := hi
    have hv := hr.ev x
    simp only at hv
    rw [hf] at hv
    exact VR.caps_lvs hv y hy
theorem NewK.frame {ops : Array Oper} {n : Nat} {T : Tmps} {M : Mem} {o : Oper} {v : AVal} {e : Nat} {blk : ABlk} (hi : Inh n ⟨T, M⟩) {d : Nat} (hd : M d = none) (hne : e ≠ d) (b : Option ABlk) (hn : NewK P RK ops ⟨T, M⟩ o v e blk) : NewK P RK ops ⟨T, upd M d b⟩ o v e blk := by
  obtain ⟨h1, h2, h3, h4, h5, cs, h6, x, args, ts, f, caps, ho, hf, hs, he⟩ := hn
  simp only at hf hs he h4
  have hl := args_upd hi hd b hf args.toList
  refine ⟨h1, h2, h3, ?_, h5, cs, h6, x, args, ts, f, caps, ho, hf, ?_, ?_⟩
  · simp only; rw [upd_ne _ _ hne]; exact h4
  · simp only; rw [hl]; exact hs
  · simp only; rw [hl]; exact he
theorem NewK.unframe {ops : Array Oper} {n : Nat} {T : Tmps} {M : Mem} {o : Oper} {v : AVal} {e : Nat} {blk : ABlk} (hi : Inh n ⟨T, M⟩) {d : Nat} (hd : M d = none) (hne : e ≠ d) (b : Option ABlk) (hn : NewK P RK ops ⟨T, upd M d b⟩ o v e blk) : NewK P RK ops ⟨T, M⟩ o v e blk := by
  obtain ⟨h1, h2, h3, h4, h5, cs, h6, x, args, ts, f, caps, ho, hf, hs, he⟩ := hn
  simp only at hf hs he h4
  have hl := args_upd hi hd b hf args.toList
  rw [hl] at hs he
  rw [upd_ne _ _ hne] at h4
  exact ⟨h1, h2, h3, h4, h5, cs, h6, x, args, ts, f, caps, ho, hf, hs, he⟩
theorem YN.congr {ops : Array Oper} {o : Oper} {T T' : Tmps} {M M' : Mem} {v : AVal} (h : Looks ops o T T') (hy : YN P TE EQ RK ops ⟨T, M⟩ o v M') : YN P TE EQ RK ops ⟨T', M⟩ o v M' := by
  rcases hy with hy | ⟨e, blk, hn, hM⟩
  · exact .inl (hy.congr h)
  · exact .inr ⟨e, blk, hn.congr h, hM⟩
theorem YN.swap {ops : Array Oper} {oi oj : Oper} (hap : swapB (RK.map (·.1)) ops oi oj = true) {n : Nat} {T : Tmps} {M Mi Mij : Mem} {vi vj : AVal} (hi : Inh n ⟨T, M⟩)
    (h1 : YN P TE EQ RK ops ⟨T, M⟩ oi vi Mi) (h2 : YN P TE EQ RK ops (AS.put ⟨T, Mi⟩ oi.dst vi) oj vj Mij) :
    ∃ Mj, YN P TE EQ RK ops ⟨T, M⟩ oj vj Mj ∧ YN P TE EQ RK ops (AS.put ⟨T, Mj⟩ oj.dst vj) oi vi Mij := by
  have hap0 := hap
  simp only [swapB, Bool.and_eq_true] at hap
  obtain ⟨hap, hok⟩ := hap
  obtain ⟨a1, a2, a3⟩ := Oper.apart_spec hap
  have e2 : YN P TE EQ RK ops ⟨T, Mi⟩ oj vj Mij := by
    rw [AS.put_eq T Mi NoM] at h2
    exact YN.congr (Looks.put (M' := NoM) a1).symm h2
  have back : ∀ Mj, YN P TE EQ RK ops ⟨T, Mj⟩ oi vi Mij → YN P TE EQ RK ops (AS.put ⟨T, Mj⟩ oj.dst vj) oi vi Mij := fun Mj h => by
    rw [AS.put_eq T Mj NoM]
    exact YN.congr (Looks.put (M := NoM) (M' := NoM) a3) h
  rcases h1 with h1 | ⟨e, blk, n1, rfl⟩
  · rcases e2 with e2 | ⟨e, blk, n2, rfl⟩
    · have h2' : YA P TE EQ RK ops (AS.put ⟨T, Mi⟩ oi.dst vi) oj vj Mij := by
        rw [AS.put_eq T Mi NoM]
        exact YA.congr (Looks.put (M' := NoM) a1) e2
      obtain ⟨Mj, q1, q2⟩ := YA.swap hap0 hi h1 h2'
      exact ⟨Mj, .inl q1, .inl q2⟩
    · have cj := n2.cls
      have hrk : RK = none := n2.2.1
      have hdst : oj.dst = some e := n2.2.2.1
      cases ci : clsO (RK.map (·.1)) oi.dst oi.op <;> simp only [ci, cj, okPair, Bool.false_eq_true] at hok
      case q =>
        obtain ⟨rfl, q1⟩ := h1.quiet (clsO_op ci (by simp))
        exact ⟨_, .inr ⟨e, blk, n2, rfl⟩, back _ (.inl (q1 _))⟩
      case r =>
        obtain rfl := h1.reads ci
        exact ⟨_, .inr ⟨e, blk, n2, rfl⟩, back _ (.inl (h1.frame hi ci n2.2.2.2.1 _).2)⟩
      case a =>
        rcases h1.makes (clsO_op ci (by simp)) with ⟨rfl, q1⟩ | ⟨d, b, b1, b2, rfl, b4⟩
        · exact ⟨_, .inr ⟨e, blk, n2, rfl⟩, back _ (.inl (q1 _))⟩
        · have hne : e ≠ d := fun he => a2 d b1 (by rw [hdst, he])
          have n3 := n2.unframe hi b2 hne _
          refine ⟨_, .inr ⟨e, blk, n3, rfl⟩, back _ (.inl ?_)⟩
          have := b4 (upd M e (some blk)) (by rw [upd_ne _ _ (Ne.symm hne)]; exact b2)
          simp only
          rw [upd_comm M _ _ hne]
          exact this
      case w => subst hrk; simp at hok
  · have ci := n1.cls
    have hrk : RK = none := n1.2.1
    have hdst : oi.dst = some e := n1.2.2.1
    have hfree : M e = none := n1.2.2.2.1
    rcases e2 with e2 | ⟨e', blk', n2, rfl⟩
    · cases cj : clsO (RK.map (·.1)) oj.dst oj.op <;> simp only [ci, cj, okPair, Bool.false_eq_true] at hok
      case q =>
        obtain ⟨rfl, q1⟩ := e2.quiet (clsO_op cj (by simp))
        exact ⟨M, .inl (q1 _), back _ (.inr ⟨e, blk, n1, rfl⟩)⟩
      case r =>
        obtain ⟨rfl, f2⟩ := e2.unframe hi cj hfree _
        exact ⟨M, .inl f2, back _ (.inr ⟨e, blk, n1, rfl⟩)⟩
      case a =>
        rcases e2.makes (clsO_op cj (by simp)) with ⟨rfl, q1⟩ | ⟨d, b, b1, b2, rfl, b4⟩
        · exact ⟨M, .inl (q1 _), back _ (.inr ⟨e, blk, n1, rfl⟩)⟩
        · have hne : e ≠ d := fun he => a2 e hdst (by rw [b1, he])
          simp only at b2
          rw [upd_ne _ _ (Ne.symm hne)] at b2
          refine ⟨_, .inl (b4 M b2), back _ (.inr ⟨e, blk, n1.frame hi b2 hne _, ?_⟩)⟩
          exact upd_comm M _ _ (Ne.symm hne)
      case w => subst hrk; simp at hok
    · have hdst' : oj.dst = some e' := n2.2.2.1
      have hne : e ≠ e' := fun he => a2 e hdst (by rw [hdst', he])
      have n3 := n2.unframe hi hfree (Ne.symm hne) _
      refine ⟨_, .inr ⟨e', blk', n3, rfl⟩, back _ (.inr ⟨e, blk, n1.frame hi n3.2.2.2.1 hne _, ?_⟩)⟩
      exact upd_comm M _ _ (Ne.symm hne)
theorem CallsN.wp {s : AS} {o : Oper} {cs : List AVal} {n : Nat} {B : Nat → Prop} {G : Gh} {a : Act} {w : World} (h : Rel n B G s a w) {k : Nat} (hk : s.M k = none)
    {K : Act → World → Prop} {Q : Exit → Act → World → Prop}
    (hr : ∀ v' w' G', Adv G w G' w' → Rel n B G' ⟨s.T, upd s.M k (some (.cells cs))⟩ a w' → VR (Dm (upd s.M k (some (.cells cs)))) G' B w' (.ptr k 0) v' → K (a.put o.dst v') w') (hc : CallsN P s o cs) :
    o.wp P a w K Q := by
  obtain ⟨x, args, ts, f, caps, ho, hf, hst, he⟩ := hc
  obtain ⟨fn, hfn, hnm, hbd⟩ := he.1.ok
  have hx := h.ev x
  rw [hf] at hx
  generalize hxv : a.eval x = xv at hx
  cases hx with
  | fn _ _ vs hl hh =>
    have hrun : (execOp a.eval o).run P w = .ok (.enter f (args.map a.eval ++ vs)) w := by
      unfold execOp
      rw [ho]
      have h1 : (fn.name = "runtime.NumGoroutine") = False := by simpa using hnm
      have h2 : (fn.body = none) = False := by simp only [eq_iff_iff, iff_false]; intro hn; rw [hn] at hbd; simp at hbd
      simp [resolve, hxv, Deferred.ofValue, invoke, callFunc, hfn, h1, h2]
    unfold Oper.wp
    rw [hrun]
    simp only [Oper.upon]
    obtain ⟨q1, q2⟩ := args_ok h args
    refine callNew_ok h (args := evs s.T args.toList ++ caps) (by simp [q1, hl]) (fun i y u hy hu => ?_) hst he hk hr
    rcases Nat.lt_or_ge i (evs s.T args.toList).length with hlt | hge
    · rw [List.getElem?_append_left hlt] at hy
      rw [Array.getElem?_append_left (by rw [q1]; exact hlt)] at hu
      obtain ⟨u', hu', hr'⟩ := q2 i y hy
      rw [hu] at hu'
      exact (Option.some.inj hu') ▸ hr'
    · rw [List.getElem?_append_right hge] at hy
      rw [Array.getElem?_append_right (by rw [q1]; exact hge), q1] at hu
      exact hh _ y u hy hu
theorem YN.sound {ops : Array Oper} (hT : TyOk P TE) (hE : ∀ t, EQ t = true → EqOk P t) {n : Nat} {B : Nat → Prop} {G : Gh} {s : AS} {a : Act} {w : World} (h : Rel n B G s a w) {o : Oper} {v : AVal} {M' : Mem}
    (hd : ∀ t, o.dst = some t → t < n) (hy : YN P TE EQ RK ops s o v M') {K : Act → World → Prop} {Q : Exit → Act → World → Prop}
    (hK : ∀ a' w' G', Adv G w G' w' → Rel n B G' (AS.put ⟨s.T, M'⟩ o.dst v) a' w' → K a' w') :
    if Region.wanted o (yielded ops a.tmps) = true then o.wp P a w K Q else K (a.put o.dst undef) w := by
  rcases hy with hy | ⟨e, blk, ⟨hw, _, _, hf, rfl, cs, rfl, hc⟩, rfl⟩
  · exact YA.sound hT hE h hd hy hK
  · rw [if_pos (wantA_ok h hw)]
    exact CallsN.wp h hf (fun v' w' G' hA hR hV => hK _ _ G' hA (hR.put hd hV)) hc
theorem YN.inh {ops : Array Oper} (hT : TyOk P TE) (hE : ∀ t, EQ t = true → EqOk P t) {n : Nat} {s : AS} (h : Inh n s) {o : Oper} {v : AVal} {M' : Mem}
    (hd : ∀ t, o.dst = some t → t < n) (hy : YN P TE EQ RK ops s o v M') : Inh n (AS.put ⟨s.T, M'⟩ o.dst v) := by
  obtain ⟨B, G, a, w, h⟩ := h
  have := YN.sound (Q := fun _ _ _ => False) (K := fun a' w' => ∃ G', Rel n B G' (AS.put ⟨s.T, M'⟩ o.dst v) a' w') hT hE h hd hy (fun a' w' G' _ hR => ⟨G', hR⟩)
  split at this
  · obtain ⟨a', w', G', hR⟩ := wp_exists this
    exact ⟨B, G', a', w', hR⟩
  · obtain ⟨G', hR⟩ := this
    exact ⟨B, G', _, _, hR⟩
end
end Go.Proofs.Ytdmfjkhbodbgoaa.Avm

namespace Go.Proofs.Ytdmfjkhbodbgoaa.Avm
section
variable {P : Program} {TE : TyE} {EQ : TypeId → Bool} {RK : Option (List Nat × (Nat → Bool))} {ops : Array Oper}
def opK (P : Program) (TE : TyE) (EQ : TypeId → Bool) (RK : Option (List Nat × (Nat → Bool))) (ops : Array Oper) (i : Nat) (K : AS → Prop) (s : AS) : Prop :=
  match ops[i]? with
  | none => K s
  | some o => ∃ v M', YN P TE EQ RK ops s o v M' ∧ K (AS.put ⟨s.T, M'⟩ o.dst v)
theorem opK_mono {i : Nat} {K K' : AS → Prop} {s : AS} (h : ∀ s, K s → K' s) (hh : opK P TE EQ RK ops i K s) : opK P TE EQ RK ops i K' s := by
  unfold opK at *
  split
  · rename_i ho; simp only [ho] at hh; exact h _ hh
  · rename_i o ho; simp only [ho] at hh; obtain ⟨v, M', h1, h2⟩ := hh; exact ⟨v, M', h1, h _ h2⟩
def anyA (P : Program) (TE : TyE) (EQ : TypeId → Bool) (RK : Option (List Nat × (Nat → Bool))) (ops : Array Oper) (Q : AS → Prop) : Nat → Array Bool → AS → Prop
  | 0, listed, s => Region.ready .any ops listed = [] ∧ Q s
  | fuel + 1, listed, s =>
    (Region.ready .any ops listed = [] → Q s) ∧
    ∀ i ∈ Region.ready .any ops listed, opK P TE EQ RK ops i (anyA P TE EQ RK ops Q fuel (listed.setIfInBounds i true)) s
def dstOk (n : Nat) (ops : Array Oper) : Prop := ∀ (i : Nat) (o : Oper), ops[i]? = some o → ∀ t, o.dst = some t → t < n
def aft (ops : Array Oper) (i : Nat) : Nat → Nat → Bool
  | 0, _ => false
  | n + 1, j => match ops[j]? with
    | some o => o.after.any fun e => Region.binds .any e && (e.on == i || aft ops i n e.on)
    | none => false
def closedL (ops : Array Oper) (listed : Array Bool) : Prop :=
  ∀ (j : Nat) (o : Oper), ops[j]? = some o → listed.getD j false = true → ∀ e ∈ o.after, Region.binds .any e = true → listed.getD e.on false = true
theorem aft_listed {listed : Array Bool} (hc : closedL ops listed) {i : Nat} : ∀ (n j : Nat) (o : Oper), ops[j]? = some o → (∀ e ∈ o.after, Region.binds .any e = true → listed.getD e.on false = true) → aft ops i n j = true → listed.getD i false = true
  | 0, j, o, _, _, h => by simp [aft] at h
  | n + 1, j, o, ho, ha, h => by
    simp only [aft, ho] at h
    obtain ⟨e, he, hb⟩ := Array.any_eq_true'.1 h
    simp only [Bool.and_eq_true, Bool.or_eq_true, beq_iff_eq] at hb
    have hl := ha e he hb.1
    rcases hb.2 with h1 | h1
    · rw [← h1]; exact hl
    · cases hq : ops[e.on]? with
      | none => cases n <;> simp [aft, hq] at h1
      | some q => exact aft_listed hc n e.on q hq (hc e.on q hq hl) h1
theorem closedL_set {listed : Array Bool} (hc : closedL ops listed) {j : Nat} {o : Oper} (ho : ops[j]? = some o) (ha : ∀ e ∈ o.after, Region.binds .any e = true → listed.getD e.on false = true) : closedL ops (listed.setIfInBounds j true) := by
  intro k q hq hk e he hb
  by_cases hkj : j = k
  · subst hkj
    rw [ho] at hq
    cases hq
    exact getD_set_true (ha e he hb)
  · rw [getD_set_ne false hkj] at hk
    exact getD_set_true (hc k q hq hk e he hb)
theorem anyA_first (hT : TyOk P TE) (hE : ∀ t, EQ t = true → EqOk P t) {n : Nat} (hn : dstOk n ops) {Q : AS → Prop} {i : Nat} {oi : Oper} {v : AVal} (hi : ops[i]? = some oi) :
    ∀ (fuel : Nat) (listed : Array Bool) (T : Tmps) (M M' : Mem),
      (∀ j oj, ops[j]? = some oj → j ≠ i → listed.getD j true = false → aft ops i 2 j = false → swapB (RK.map (·.1)) ops oi oj = true) → closedL ops listed →
      i ∈ Region.ready .any ops listed → Inh n ⟨T, M⟩ → YN P TE EQ RK ops ⟨T, M⟩ oi v M' →
      anyA P TE EQ RK ops Q fuel (listed.setIfInBounds i true) (AS.put ⟨T, M'⟩ oi.dst v) → anyA P TE EQ RK ops Q (fuel + 1) listed ⟨T, M⟩ := by
  intro fuel
  induction fuel with
  | zero =>
    intro listed T M M' _ hcl hr hI hy H
    refine ⟨fun h => (by rw [h] at hr; cases hr), fun j hj => ?_⟩
    by_cases hji : j = i
    · subst hji; unfold opK; simp only [hi]; exact ⟨v, M', hy, H⟩
    · have := ready_mono hj hji
      rw [H.1] at this
      cases this
  | succ fuel ih =>
    intro listed T M M' hfree hcl hr hI hy H
    refine ⟨fun h => (by rw [h] at hr; cases hr), fun j hj => ?_⟩
    by_cases hji : j = i
    · subst hji; unfold opK; simp only [hi]; exact ⟨v, M', hy, H⟩
    · have h1 := H.2 j (ready_mono hj hji)
      obtain ⟨hjun, oj, hoj, hall⟩ := mem_ready.1 hj
      have hnot : aft ops i 2 j = false := by
        cases hq : aft ops i 2 j with
        | false => rfl
        | true =>
          have h1 := aft_listed hcl 2 j oj hoj hall hq
          have h0 := (mem_ready.1 hr).1
          rcases Nat.lt_or_ge i listed.size with h' | h'
          · simp [h'] at h0 h1; rw [h0] at h1; cases h1
          · simp [Array.getElem?_eq_none h'] at h1
      have hsw := hfree j oj hoj hji hjun hnot
      unfold opK at h1 ⊢
      simp only [hoj] at h1 ⊢
      obtain ⟨vj, Mij, hyj, hK⟩ := h1
      obtain ⟨Mj, s1, s2⟩ := YN.swap hsw hI hy hyj
      refine ⟨vj, Mj, s1, ?_⟩
      have hI' := YN.inh hT hE hI (hn j oj hoj) s1
      have hfree' : ∀ k ok, ops[k]? = some ok → k ≠ i → (listed.setIfInBounds j true).getD k true = false →
          aft ops i 2 k = false → swapB (RK.map (·.1)) ops oi ok = true := fun k ok hk hki hun hno => by
        refine hfree k ok hk hki ?_ hno
        by_cases hjk : j = k
        · subst hjk; exact hjun
        · rw [getD_set_ne true hjk] at hun; exact hun
      have hap : ∀ x, oi.dst = some x → oj.dst ≠ some x := by
        simp only [swapB, Bool.and_eq_true] at hsw
        exact (Oper.apart_spec hsw.1).2.1
      rw [AS.put_eq T Mj NoM] at hI' s2 ⊢
      refine ih (listed.setIfInBounds j true) _ _ Mij hfree' (closedL_set hcl hoj hall) (ready_mono hr (Ne.symm hji)) hI' s2 ?_
      rw [Array.setIfInBounds_comm _ _ hji]
      rw [AS.put_eq T M' NoM] at hK
      rw [AS.put_comm T Mij NoM NoM v vj hap] at hK
      exact hK
def lexA (P : Program) (TE : TyE) (EQ : TypeId → Bool) (RK : Option (List Nat × (Nat → Bool))) (ops : Array Oper) (Q : AS → Prop) : List Oper → AS → Prop
  | [], s => Q s
  | o :: rest, s => ∃ v M', YN P TE EQ RK ops s o v M' ∧ lexA P TE EQ RK ops Q rest (AS.put ⟨s.T, M'⟩ o.dst v)
def freeA (rw : Option (List Nat)) (ops : Array Oper) (listed : Array Bool) (i : Nat) : Bool :=
  match ops[i]? with
  | none => false
  | some oi => (List.range ops.size).all fun j => j == i || listed.getD j true || match ops[j]? with
      | some oj => aft ops i 2 j || swapB rw ops oi oj
      | none => true
theorem freeA_spec {i : Nat} {oi : Oper} {listed : Array Bool} (hi : ops[i]? = some oi) (h : freeA (RK.map (·.1)) ops listed i = true) (j : Nat) (oj : Oper)
    (hj : ops[j]? = some oj) (hne : j ≠ i) (hun : listed.getD j true = false) (hno : aft ops i 2 j = false) :
    swapB (RK.map (·.1)) ops oi oj = true := by
  simp only [freeA, hi, List.all_eq_true, List.mem_range] at h
  have h1 := h j (Array.getElem?_eq_some_iff.1 hj).1
  simpa only [hj, Bool.or_eq_true, beq_iff_eq, hne, false_or, hun, Bool.false_eq_true, hno] using h1
def lexFromA (rw : Option (List Nat)) (ops : Array Oper) : Nat → Nat → Array Bool → Bool
  | 0, _, listed => (Region.ready .any ops listed).isEmpty
  | fuel + 1, k, listed => (Region.ready .any ops listed).contains k && freeA rw ops listed k && lexFromA rw ops fuel (k + 1) (listed.setIfInBounds k true)
def lexBA (rw : Option (List Nat)) (ops : Array Oper) : Bool := lexFromA rw ops ops.size 0 (Array.replicate ops.size false)
theorem anyA_lex (hT : TyOk P TE) (hE : ∀ t, EQ t = true → EqOk P t) {n : Nat} (hn : dstOk n ops) {Q : AS → Prop} : ∀ (l : List Oper) (k : Nat) (listed : Array Bool) (s : AS), (∀ j, l[j]? = ops[k + j]?) →
    lexFromA (RK.map (·.1)) ops l.length k listed = true → closedL ops listed → Inh n s → lexA P TE EQ RK ops Q l s → anyA P TE EQ RK ops Q l.length listed s
  | [], _, _, _, _, hB, _, _, h => ⟨by simpa [lexFromA] using hB, h⟩
  | o :: l, k, listed, s, hl, hB, hcl, hI, h => by
    have h0 : ops[k]? = some o := by simpa using (hl 0).symm
    simp only [List.length_cons, lexFromA, Bool.and_eq_true] at hB
    obtain ⟨⟨hr, hf⟩, hB'⟩ := hB
    obtain ⟨v, M', hy, hK⟩ := h
    exact anyA_first hT hE hn h0 l.length listed s.T s.M M' (freeA_spec h0 hf) hcl (by simpa using hr) hI hy
      (anyA_lex hT hE hn l (k + 1) _ _ (fun j => by have := hl (j + 1); simpa [Nat.add_assoc, Nat.add_comm 1 j] using this) hB' (closedL_set hcl h0 (by
        have hm : k ∈ Region.ready .any ops listed := by simpa using hr
        obtain ⟨_, o', ho', ha⟩ := mem_ready.1 hm
        rw [h0] at ho'
        cases ho'
        exact ha)) (YN.inh hT hE hI (hn k o h0) hy) hK)
theorem wpAny_of_anyA (hT : TyOk P TE) (hE : ∀ t, EQ t = true → EqOk P t) {n : Nat} (hn : dstOk n ops) {Q : AS → Prop} {Q' : Exit → Act → World → Prop} {B : Nat → Prop} {G0 : Gh} {w0 : World}
    (hQ : ∀ s a w G, Adv G0 w0 G w → Rel n B G s a w → Q s → Q' .normal a w) : ∀ (fuel : Nat) (listed : Array Bool) (s : AS) (a : Act) (w : World) (G : Gh), Adv G0 w0 G w → Rel n B G s a w →
    anyA P TE EQ RK ops Q fuel listed s → wpAny P .any ops Q' fuel listed a w
  | 0, _, s, a, w, G, hA, hR, h => ⟨h.1, hQ s a w G hA hR h.2⟩
  | fuel + 1, listed, s, a, w, G, hA, hR, h => by
    refine ⟨fun h0 => hQ s a w G hA hR (h.1 h0), fun i hi => ?_⟩
    have h1 := h.2 i hi
    unfold opK at h1
    unfold wpOp
    cases ho : ops[i]? with
    | none => simp only [ho] at h1 ⊢; exact wpAny_of_anyA hT hE hn hQ fuel _ s a w G hA hR h1
    | some o =>
      simp only [ho] at h1 ⊢
      obtain ⟨v, M', hy, hK⟩ := h1
      have := YN.sound (Q := Q') (K := wpAny P .any ops Q' fuel (listed.setIfInBounds i true)) hT hE hR (hn i o ho) hy (fun a' w' G' hA' hR' => wpAny_of_anyA hT hE hn hQ fuel _ _ a' w' G' (hA.trans hA') hR' hK)
      split at this
      · rename_i hw; rw [if_pos hw]; exact .inl this
      · rename_i hw; rw [if_neg hw]; exact this
theorem region_draw_ok (hm : P.follows .mixedOrders = true) (hT : TyOk P TE) (hE : ∀ t, EQ t = true → EqOk P t) {n : Nat} (hn : dstOk n ops) (hB : lexBA (RK.map (·.1)) ops = true) {Q : AS → Prop} {Q' : Exit → Act → World → Prop} {B : Nat → Prop} {G : Gh}
    {s : AS} {a : Act} {w : World} {id : Nat} (hR : Rel n B G s a w) (hQ : ∀ s a' w' G', Adv G w G' w' → Rel n B G' s a' w' → Q s → Q' .normal a' w') (h : lexA P TE EQ RK ops Q ops.toList s) :
    (Code.region id ops true).wp P Q' a w := by
  refine wp_region_any hm ?_
  have h1 := anyA_lex hT hE hn ops.toList 0 (Array.replicate ops.size false) s (by simp) (by simpa [lexBA] using hB) (fun j o _ hj => by
    simp only [Array.getD_eq_getD_getElem?, Array.getElem?_replicate] at hj
    split at hj <;> simp at hj) ⟨B, G, a, w, hR⟩ h
  have := wpAny_of_anyA (Q' := Q') hT hE hn (B := B) (G0 := G) (w0 := w) (fun s a' w' G' hA hR' hq => hQ s a' w' G' hA hR' hq) _ _ s a { w with drawn := w.drawn + 1 } G (Adv.drawn G w _) (hR.drawn _) h1
  simpa using this
end
end Go.Proofs.Ytdmfjkhbodbgoaa.Avm

namespace Go.Proofs.Ytdmfjkhbodbgoaa.Avm
structure Env where
  P : Program
  TE : TyE
  EQ : TypeId → Bool
  hm : P.follows .mixedOrders = true
  hT : TyOk P TE
  hE : ∀ t, EQ t = true → EqOk P t
structure SOp where
  dst : Option Tmp
  op : Op
  g : Option (Option Tmp × Bool)
inductive SC where
  | skip
  | ops (draw : Bool) (l : List SOp)
  | opsW (ws : List Nat) (l : List SOp)
  | seq (x y : SC)
  | cond (c : Operand) (x y : SC)
  | block (id : Nat) (x : SC)
  | loop (x : SC)
  | exit (id : Nat)
  | ret
def slimOp (ops : Array Oper) (o : Oper) : SOp := ⟨o.dst, o.op, match o.guard with | none => none | some (j, b) => some ((ops[j]?).bind (·.dst), b)⟩
def dstB (n : Nat) (ops : Array Oper) : Bool := ops.toList.all fun o => match o.dst with | some t => decide (t < n) | none => true
theorem dstB_ok {n : Nat} {ops : Array Oper} (h : dstB n ops = true) : dstOk n ops := by
  intro i o ho t ht
  have := List.all_eq_true.1 h o (by rw [← Array.getElem?_toList] at ho; exact List.mem_of_getElem? ho)
  simpa [ht] using this
def takenOf (ops : Array Oper) : List Nat :=
  ops.toList.filterMap fun (p : Oper) => match p.op with
    | .call ⟨.builtin .append, args, _⟩ => match (args[0]? : Option Operand) with
      | some (.tmp t) => some t
      | _ => none
    | _ => none
def slim (n : Nat) : Code → Option SC
  | .skip => some .skip
  | .region _ ops draw =>
    if dstB n ops && (!draw || lexBA none ops) then some (.ops draw (ops.toList.map (slimOp ops)))
    else if dstB n ops && lexBA (some (takenOf ops)) ops then some (.opsW (takenOf ops) (ops.toList.map (slimOp ops))) else none
  | .seq x y => match slim n x, slim n y with | some x, some y => some (.seq x y) | _, _ => none
  | .cond c x y => match slim n x, slim n y with | some x, some y => some (.cond c x y) | _, _ => none
  | .block id x => match slim n x with | some x => some (.block id x) | none => none
  | .loop x => match slim n x with | some x => some (.loop x) | none => none
  | .exit id => some (.exit id)
  | .ret => some .ret
  | _ => none
inductive Ex where
  | normal
  | exit (id : Nat)
  | ret
  | pan (v : AVal)
def Post (n : Nat) (B : Nat → Prop) (G : Gh) (w : World) (Q : Ex → AS → Prop) (Q' : Exit → Act → World → Prop) : Prop :=
  ∀ e s a' w' G', Adv G w G' w' → Rel n B G' s a' w' → Q e s →
    match e with
    | .normal => Q' .normal a' w'
    | .exit id => Q' (.exit id) a' w'
    | .ret => Q' .ret a' w'
    | .pan x => ∀ v', VR (Dm s.M) G' B w' x v' → Q' (.panic [{ v := v', recovered := false }]) a' w'
theorem Post.adv {n : Nat} {B : Nat → Prop} {G G1 : Gh} {w w1 : World} {Q : Ex → AS → Prop} {Q' : Exit → Act → World → Prop} (h : Post n B G w Q Q') (hA : Adv G w G1 w1) : Post n B G1 w1 Q Q' :=
  fun e s a' w' G' hA' hR hq => h e s a' w' G' (hA.trans hA') hR hq
def AW (E : Env) (n : Nat) (x : SC) (Q : Ex → AS → Prop) (s : AS) : Prop :=
  ∀ c, slim n c = some x → ∀ B G a w, Rel n B G s a w → ∀ Q', Post n B G w Q Q' → c.wp E.P Q' a w
def Wk (n : Nat) (s s' : AS) : Prop := ∀ B G a w, Rel n B G s a w → ∃ G', Rel n B G' s' a w ∧ Adv G w G' w
theorem Wk.refl (n : Nat) (s : AS) : Wk n s s := fun B G a w h => ⟨G, h, .refl G w⟩
theorem Wk.trans {n : Nat} {s s1 s2 : AS} (h : Wk n s s1) (h' : Wk n s1 s2) : Wk n s s2 := fun B G a w hR =>
  let ⟨G1, h1, a1⟩ := h B G a w hR
  let ⟨G2, h2, a2⟩ := h' B G1 a w h1
  ⟨G2, h2, a1.trans a2⟩
section
variable {E : Env} {n : Nat} {Q : Ex → AS → Prop} {s : AS}
theorem AW.wk {x : SC} {s' : AS} (hw : Wk n s s') (h : AW E n x Q s') : AW E n x Q s := fun c hc B G a w hR Q' hP =>
  let ⟨G1, h1, a1⟩ := hw B G a w hR
  h c hc B G1 a w h1 Q' (hP.adv a1)
theorem AW.mono {x : SC} {Q1 : Ex → AS → Prop} (h : AW E n x Q1 s) (hq : ∀ e s, Q1 e s → Q e s) : AW E n x Q s := fun c hc B G a w hR Q' hP =>
  h c hc B G a w hR Q' fun e s a' w' G' hA hR hq1 => hP e s a' w' G' hA hR (hq e s hq1)
theorem AW.skip (h : Q .normal s) : AW E n .skip Q s := by
  intro c hc B G a w hR Q' hP
  cases c <;> simp only [slim, reduceCtorEq] at hc
  case skip => exact wp_skip (hP _ _ _ _ _ (.refl G w) hR h)
  all_goals first | (simp at hc; done) | (split at hc <;> simp at hc; done) | skip
theorem AW.ret (h : Q .ret s) : AW E n .ret Q s := by
  intro c hc B G a w hR Q' hP
  cases c <;> simp only [slim, reduceCtorEq] at hc
  case ret => exact wp_ret (hP _ _ _ _ _ (.refl G w) hR h)
  all_goals first | (simp at hc; done) | (split at hc <;> simp at hc; done) | skip
theorem AW.exit {id : Nat} (h : Q (.exit id) s) : AW E n (.exit id) Q s := by
  intro c hc B G a w hR Q' hP
  cases c <;> simp only [slim, reduceCtorEq] at hc
  case exit id' =>
    simp only [Option.some.injEq, SC.exit.injEq] at hc
    subst hc
    exact wp_exit (hP _ _ _ _ _ (.refl G w) hR h)
  all_goals first | (simp at hc; done) | (split at hc <;> simp at hc; done) | skip
def Ex.then (next : AS → Prop) (Q : Ex → AS → Prop) : Ex → AS → Prop
  | .normal, s => next s
  | e, s => Q e s
theorem AW.seq {x y : SC} (h : AW E n x (Ex.then (AW E n y Q) Q) s) : AW E n (.seq x y) Q s := by
  intro c hc B G a w hR Q' hP
  cases c <;> simp only [slim, reduceCtorEq] at hc
  case seq cx cy =>
    split at hc
    case h_2 => simp at hc
    rename_i x' y' hx hy
    simp only [Option.some.injEq, SC.seq.injEq] at hc
    obtain ⟨rfl, rfl⟩ := hc
    refine wp_seq (h cx hx B G a w hR _ fun e s1 a' w' G' hA hR' hq => ?_)
    cases e with
    | normal => exact hq cy hy B G' a' w' hR' Q' (hP.adv hA)
    | exit id => exact hP _ _ _ _ _ hA hR' hq
    | ret => exact hP _ _ _ _ _ hA hR' hq
    | pan v => exact hP _ _ _ _ _ hA hR' hq
  all_goals first | (simp at hc; done) | (split at hc <;> simp at hc; done) | skip
theorem AW.cond {o : Operand} {x y : SC} {b : Bool} (hb : ev s.T o = .bool b) (ht : b = true → AW E n x Q s) (hf : b = false → AW E n y Q s) : AW E n (.cond o x y) Q s := by
  intro c hc B G a w hR Q' hP
  cases c <;> simp only [slim, reduceCtorEq] at hc
  case cond co cx cy =>
    split at hc
    case h_2 => simp at hc
    rename_i x' y' hx hy
    simp only [Option.some.injEq, SC.cond.injEq] at hc
    obtain ⟨rfl, rfl, rfl⟩ := hc
    have hv := hR.ev co
    rw [hb] at hv
    have hv' : a.eval co = .bool b := by generalize a.eval co = cv at hv; cases hv; rfl
    exact wp_cond_split hv' (fun h1 => ht h1 cx hx B G a w hR Q' hP) (fun h1 => hf h1 cy hy B G a w hR Q' hP)
  all_goals first | (simp at hc; done) | (split at hc <;> simp at hc; done) | skip
def Ex.inBlock (id : Nat) (Q : Ex → AS → Prop) : Ex → AS → Prop
  | .exit id', s => if id' = id then Q .normal s else Q (.exit id') s
  | e, s => Q e s
theorem AW.block {id : Nat} {x : SC} (h : AW E n x (Ex.inBlock id Q) s) : AW E n (.block id x) Q s := by
  intro c hc B G a w hR Q' hP
  cases c <;> simp only [slim, reduceCtorEq] at hc
  case block id' cx =>
    split at hc
    case h_2 => simp at hc
    rename_i x' hx
    simp only [Option.some.injEq, SC.block.injEq] at hc
    obtain ⟨rfl, rfl⟩ := hc
    refine wp_block (h cx hx B G a w hR _ fun e s1 a' w' G' hA hR' hq => ?_)
    cases e with
    | normal => exact hP .normal _ _ _ _ hA hR' hq
    | exit id =>
      simp only [Ex.inBlock, Exit.inBlock] at hq ⊢
      split
      · rename_i he; rw [if_pos he] at hq; exact hP .normal _ _ _ _ hA hR' hq
      · rename_i he; rw [if_neg he] at hq; exact hP (.exit id) _ _ _ _ hA hR' hq
    | ret => exact hP .ret _ _ _ _ hA hR' hq
    | pan v => exact hP (.pan v) _ _ _ _ hA hR' hq
  all_goals first | (simp at hc; done) | (split at hc <;> simp at hc; done) | skip
theorem AW.loop {x : SC} (I : Nat → AS → Prop) {m0 : Nat} (h0 : I m0 s)
    (round : ∀ m s, I m s → AW E n x (Ex.then (fun s' => ∃ m' s'', m' < m ∧ Wk n s' s'' ∧ I m' s'') Q) s) : AW E n (.loop x) Q s := by
  intro c hc B G a w hR Q' hP
  cases c <;> simp only [slim, reduceCtorEq] at hc
  case loop cx =>
    split at hc
    case h_2 => simp at hc
    rename_i x' hx
    simp only [Option.some.injEq, SC.loop.injEq] at hc
    subst hc
    let J : Nat → Act → World → Prop := fun m a' w' => ∃ s' G', Adv G w G' w' ∧ Rel n B G' s' a' w' ∧ I m s'
    intro b k cs
    have key : ∀ m a' w', J m a' w' → ∃ e a'' w'', Q' e a'' w'' ∧ Arrives E.P (lone (b.at a' (.code cx :: .inLoop cx :: k)) cs w') b k cs e a'' w'' := by
      intro m
      induction m using Nat.strongRecOn with
      | _ m ih =>
        intro a' w' ⟨s', G', hA, hR', hI⟩
        obtain ⟨e, a1, w1, hq, harr⟩ := round m s' hI cx hx B G' a' w' hR' (Exit.then (fun a1 w1 => ∃ m', m' < m ∧ J m' a1 w1) Q') (fun e s1 a1 w1 G1 hA1 hR1 hq => by
          cases e with
          | normal =>
            obtain ⟨m', s2, hlt, hwk, hI2⟩ := hq
            obtain ⟨G2, hR2, hA2⟩ := hwk B G1 a1 w1 hR1
            exact ⟨m', hlt, s2, G2, (hA.trans hA1).trans hA2, hR2, hI2⟩
          | exit id => exact hP (.exit id) _ _ _ _ (hA.trans hA1) hR1 hq
          | ret => exact hP .ret _ _ _ _ (hA.trans hA1) hR1 hq
          | pan v => exact hP (.pan v) _ _ _ _ (hA.trans hA1) hR1 hq) b (.inLoop cx :: k) cs
        cases e with
        | normal =>
          obtain ⟨m', hlt, hJ⟩ := hq
          obtain ⟨e2, a2, w2, hq2, harr2⟩ := ih m' hlt a1 w1 hJ
          exact ⟨e2, a2, w2, hq2, .of_steps (Steps.trans harr (.one step_inLoop)) harr2⟩
        | exit id => exact ⟨_, a1, w1, hq, .pass (x := .inLoop cx) rfl (fun _ _ => .inl (by simp)) harr⟩
        | goto l => exact ⟨_, a1, w1, hq, .pass (x := .inLoop cx) rfl (fun _ _ => .inl (by simp)) harr⟩
        | ret => exact ⟨_, a1, w1, hq, .pass (x := .inLoop cx) rfl (fun _ _ => .inl (by simp)) harr⟩
        | panic ch => exact ⟨_, a1, w1, hq, .pass (x := .inLoop cx) rfl (fun _ _ => .inl (by simp)) harr⟩
        | outgrown => exact ⟨_, a1, w1, hq, .pass (x := .inLoop cx) rfl (fun _ _ => .inl (by simp)) harr⟩
    obtain ⟨e, a', w', hq, harr⟩ := key m0 a w ⟨s, G, .refl G w, hR, h0⟩
    exact ⟨e, a', w', hq, .of_steps (.one step_loop) harr⟩
  all_goals first | (simp at hc; done) | (split at hc <;> simp at hc; done) | skip
end
end Go.Proofs.Ytdmfjkhbodbgoaa.Avm

namespace Go.Proofs.Ytdmfjkhbodbgoaa.Avm
def opS (TE : TyE) (EQ : TypeId → Bool) (s : AS) (dst : Option Tmp) (op : Op) : AR := opA TE EQ s ⟨dst, op, 0, "", #[], none⟩
theorem opS_eq (TE : TyE) (EQ : TypeId → Bool) (s : AS) (o : Oper) : opA TE EQ s o = opS TE EQ s o.dst o.op := by
  obtain ⟨dst, op, type, pos, after, guard⟩ := o
  rfl
def wantS (o : SOp) (T : Tmps) (yes no : Prop) : Prop :=
  match o.g with
  | none => yes
  | some (none, _) => no
  | some (some t, b) => match T t with
    | .bool c => (c = b → yes) ∧ (c = !b → no)
    | .tup _ => no
    | _ => False
def callP (P : Program) (draw : Bool) (RK : Option (List Nat × (Nat → Bool))) (s : AS) (x : Operand) (args : Array Operand) (Kv Kp : AVal → Mem → Prop) : Prop :=
  ∃ f caps Kf out, ev s.T x = .fn f caps ∧ stbs ((evs s.T args.toList ++ caps).map (fz Kf s.M)) = true ∧ Ev P f ((evs s.T args.toList ++ caps).map (fz Kf s.M)) out ∧
    match out with
    | .ret v => ((draw = true → v.flt = true ∨ Kf = fun _ => false) ∧ (RK.isSome = true → Kf = fun _ => false)) ∧ Kv v (if v.flt = true then s.M else kill Kf s.M)
    | .pan v => draw = false ∧ Kp v (if v.flt = true then s.M else kill Kf s.M)
def callO (P : Program) (draw : Bool) (s : AS) (x : Operand) (args : Array Operand) (Kv : AVal → Mem → Prop) : Prop :=
  draw = false ∧ ∃ f p k e sz xs args' back r ys, ev s.T x = .fn f [] ∧ (evs s.T args.toList)[p]? = some (.os k e) ∧ s.M k = some (.arr e sz xs) ∧ stbs xs = true ∧
    ((evs s.T args.toList).map (fz (fun _ => false) s.M)).set p .undef = args' ∧ stbs args' = true ∧ r.stb = true ∧ stbs ys = true ∧ EvOwn P f args' p sz xs back r ys ∧
    Kv (if back = true then .os k (e + 1) else r) (upd s.M k (some (.arr (backE back e) sz ys)))
def callS (P : Program) (draw : Bool) (RK : Option (List Nat × (Nat → Bool))) (s : AS) (x : Operand) (args : Array Operand) (Kv Kp : AVal → Mem → Prop) : Prop :=
  callP P draw RK s x args Kv Kp ∨ callO P draw s x args Kv
def callK (K : AS → Prop) (T : Tmps) (dst : Option Tmp) (v : AVal) (M' : Mem) : Prop := K (AS.put ⟨T, M'⟩ dst v)
def callQ (Q : Ex → AS → Prop) (T : Tmps) (v : AVal) (M' : Mem) : Prop := Q (.pan v) ⟨T, M'⟩
def stepM (E : Env) (draw : Bool) (RK : Option (List Nat × (Nat → Bool))) (o : SOp) (s : AS) (Q : Ex → AS → Prop) (K : AS → Prop) : Prop :=
  match o.op with
  | .call ⟨.value x, args, _⟩ => callS E.P draw RK s x args (callK K s.T o.dst) (callQ Q s.T)
  | .panic x => match ev s.T x with
    | .iface t v => draw = false ∧ Q (.pan (.iface t v)) s
    | _ => False
  | op => match opS E.TE E.EQ s o.dst op with
    | some (v, ups) => ((draw = true → clsO (RK.map (·.1)) o.dst op = .r → ups = []) ∧ rkOk RK o.dst op s.T = true) ∧ K (AS.put ⟨s.T, ap s.M ups⟩ o.dst v)
    | none => False
def Hook (P : Program) (s : AS) (op : Op) (posts : AVal → Mem → Prop) : Prop :=
  ∀ (n : Nat) (B : Nat → Prop) (G : Gh) (a : Act) (w : World), Rel n B G s a w → ∀ o : Oper, o.op = op → ∀ (K : Act → World → Prop) (Q : Exit → Act → World → Prop),
    (∀ v v' M' w' G', posts v M' → Adv G w G' w' → Rel n B G' ⟨s.T, M'⟩ a w' → VR (Dm M') G' B w' v v' → K (a.put o.dst v') w') → o.wp P a w K Q
def newS (E : Env) (RK : Option (List Nat × (Nat → Bool))) (o : SOp) (s : AS) (K : AS → Prop) : Prop :=
  RK = none ∧ ∃ x args ts f caps cs d, o.op = .call ⟨.value x, args, ts⟩ ∧ ev s.T x = .fn f caps ∧ stbs ((evs s.T args.toList ++ caps).map (fz (fun _ => false) s.M)) = true ∧
    EvNew E.P f ((evs s.T args.toList ++ caps).map (fz (fun _ => false) s.M)) cs ∧ o.dst = some d ∧ s.M d = none ∧ K (AS.put ⟨s.T, upd s.M d (some (.cells cs))⟩ o.dst (.ptr d 0))
def stepS (E : Env) (draw : Bool) (RK : Option (List Nat × (Nat → Bool))) (o : SOp) (s : AS) (Q : Ex → AS → Prop) (K : AS → Prop) : Prop :=
  stepM E draw RK o s Q K ∨ (draw = false ∧ ∃ posts, Hook E.P s o.op posts ∧ ∀ v M', posts v M' → K (AS.put ⟨s.T, M'⟩ o.dst v)) ∨ newS E RK o s K
def awpOps (E : Env) (draw : Bool) (RK : Option (List Nat × (Nat → Bool))) (Q : Ex → AS → Prop) : List SOp → AS → Prop
  | [], s => Q .normal s
  | o :: r, s => wantS o s.T (stepS E draw RK o s Q (awpOps E draw RK Q r)) (awpOps E draw RK Q r (AS.put s o.dst (.tup [])))
section
variable {E : Env} {n : Nat} {Q : Ex → AS → Prop} {s : AS}
theorem pick_bool (p : Prop) [Decidable p] (a b : Bool) : (if p then AVal.bool a else AVal.bool b) = AVal.bool (if p then a else b) := by split <;> rfl
theorem pick_int (p : Prop) [Decidable p] (k : IntKind) (a b : Int) : (if p then AVal.int k a else AVal.int k b) = AVal.int k (if p then a else b) := by split <;> rfl
theorem stepS_cases {draw : Bool} {RK : Option (List Nat × (Nat → Bool))} {o : SOp} {K : AS → Prop} (h : stepS E draw RK o s Q K) :
    (∃ x args ts, o.op = .call ⟨.value x, args, ts⟩ ∧ callS E.P draw RK s x args (callK K s.T o.dst) (callQ Q s.T)) ∨
    (∃ v ups, opS E.TE E.EQ s o.dst o.op = some (v, ups) ∧ ((draw = true → clsO (RK.map (·.1)) o.dst o.op = .r → ups = []) ∧ rkOk RK o.dst o.op s.T = true) ∧ K (AS.put ⟨s.T, ap s.M ups⟩ o.dst v)) ∨
    (∃ x t v, o.op = .panic x ∧ ev s.T x = .iface t v ∧ draw = false ∧ Q (.pan (.iface t v)) s) ∨
    (draw = false ∧ ∃ posts, Hook E.P s o.op posts ∧ ∀ v M', posts v M' → K (AS.put ⟨s.T, M'⟩ o.dst v)) ∨ newS E RK o s K := by
  rcases h with h | h | h
  case inr.inl => exact .inr (.inr (.inr (.inl h)))
  case inr.inr => exact .inr (.inr (.inr (.inr h)))
  unfold stepM at h
  split at h
  · rename_i x args ts ho
    exact .inl ⟨x, args, ts, ho, h⟩
  · rename_i x ho
    split at h
    · rename_i t v hv
      exact .inr (.inr (.inl ⟨x, t, v, ho, hv, h.1, h.2⟩))
    · exact h.elim
  · split at h
    · rename_i v ups hv
      exact .inr (.inl ⟨v, ups, hv, h.1, h.2⟩)
    · exact h.elim
theorem wantS_wantA {ops : Array Oper} {o : Oper} {T : Tmps} {yes no : Prop} (h : wantS (slimOp ops o) T yes no) : (wantA ops o T = some true ∧ yes) ∨ (wantA ops o T = some false ∧ no) := by
  unfold wantS at h
  unfold wantA
  cases hg : o.guard with
  | none => simp only [slimOp, hg] at h ⊢; exact .inl ⟨by trivial, h⟩
  | some jb =>
    obtain ⟨j, b⟩ := jb
    simp only [slimOp, hg] at h ⊢
    cases ht : (ops[j]?).bind (·.dst) with
    | none => simp only [ht] at h ⊢; exact .inr ⟨by trivial, h⟩
    | some t =>
      simp only [ht] at h ⊢
      cases hT : T t <;> simp only [hT] at h ⊢
      case bool c =>
        by_cases hc : c = b
        · exact .inl ⟨by simp [hc], h.1 hc⟩
        · exact .inr ⟨by simp [hc], h.2 (by cases c <;> cases b <;> simp_all)⟩
      case tup cs => exact .inr ⟨by trivial, h⟩
theorem awpOps_lex {RK : Option (List Nat × (Nat → Bool))} {ops : Array Oper} : ∀ (l : List Oper) (s : AS), awpOps E true RK Q (l.map (slimOp ops)) s → lexA E.P E.TE E.EQ RK ops (Q .normal) l s
  | [], s, h => h
  | o :: l, s, h => by
    simp only [List.map_cons, awpOps] at h
    rcases wantS_wantA h with ⟨hw, hy⟩ | ⟨hw, hno⟩
    · rcases stepS_cases hy with ⟨x, args, ts, ho, ⟨f, caps, Kf, out, h1, h2, h3, h4⟩ | ⟨hdr, f, p, k, e, sz, xs, args', back, r, ys, h1, h2, h3, h4, h5, h6, h7, h8, h9, h10⟩⟩ | ⟨v, ups, h1, h2, h3⟩ | ⟨x, t, v, ho, hv, hd, hq⟩ | ⟨hd, posts, hk1, hk2⟩ | ⟨hrk, x, args, ts, f, caps, cs, d, ho, h1, h2, h3, hds, hfr, h4⟩
      · cases out with
        | pan v => exact absurd h4.1 (by simp)
        | ret v =>
          obtain ⟨h4, h5⟩ := h4
          obtain ⟨h4, h4'⟩ := h4
          have h4 := h4 rfl
          have hM : (if v.flt = true then s.M else kill Kf s.M) = s.M := by
            rcases h4 with hk | hk
            · simp [hk]
            · subst hk; simp [kill_none]
          rw [hM] at h5
          exact ⟨v, s.M, .inl (.inl ⟨hw, .inr ⟨Kf, ⟨x, args, ts, f, caps, ho, h1, h2, h3⟩, rfl, h4, h4'⟩⟩), awpOps_lex l _ h5⟩
      · cases hdr
      · exact ⟨v, _, .inl (.inl ⟨hw, .inl ⟨ups, by rw [opS_eq]; exact h1, rfl, h2.1 rfl, h2.2⟩⟩), awpOps_lex l _ h3⟩
      · cases hd
      · cases hd
      · exact ⟨.ptr d 0, _, .inr ⟨d, _, ⟨hw, hrk, hds, hfr, rfl, cs, rfl, x, args, ts, f, caps, ho, h1, h2, h3⟩, rfl⟩, awpOps_lex l _ h4⟩
    · exact ⟨.tup [], s.M, .inl (.inr ⟨hw, rfl, rfl⟩), awpOps_lex l _ hno⟩
theorem awpOps_wp {ops : Array Oper} (hn : dstOk n ops) {B : Nat → Prop} {Q' : Exit → Act → World → Prop} : ∀ (l : List Oper) (k : Nat) (s : AS) (G : Gh) (a : Act) (w : World), (∀ j, l[j]? = ops[k + j]?) → Rel n B G s a w → Post n B G w Q Q' →
    awpOps E false none Q (l.map (slimOp ops)) s → wpOps E.P ops Q' (List.range' k l.length) a w
  | [], k, s, G, a, w, hl, hR, hP, h => by simp only [List.length_nil, List.range'_zero, wpOps]; exact hP .normal _ _ _ _ (.refl G w) hR h
  | o :: l, k, s, G, a, w, hl, hR, hP, h => by
    have h0 : ops[k]? = some o := by simpa using (hl 0).symm
    have hl' : ∀ j, l[j]? = ops[k + 1 + j]? := fun j => by have := hl (j + 1); simpa [Nat.add_assoc, Nat.add_comm 1 j] using this
    simp only [List.length_cons, List.range'_succ, wpOps, h0]
    simp only [List.map_cons, awpOps] at h
    rcases wantS_wantA h with ⟨hw, hy⟩ | ⟨hw, hno⟩
    · rw [if_pos (wantA_ok hR hw)]
      refine .inl ?_
      rcases stepS_cases hy with ⟨x, args, ts, ho, ⟨f, caps, Kf, out, h1, h2, h3, h4⟩ | ⟨hdr, f, p, k, e, sz, xs, args', back, r, ys, h1, h2, h3, h4, h5, h6, h7, h8, h9, h10⟩⟩ | ⟨v, ups, h1, h2, h3⟩ | ⟨x, t, v, ho, hv, hd, hq⟩ | ⟨hd, posts, hk1, hk2⟩ | ⟨hrk, x, args, ts, f, caps, cs, d, ho, h1, h2, h3, hds, hfr, h4⟩
      · refine CallsA.wp (out := out) hR ?_ ⟨x, args, ts, f, caps, ho, h1, h2, h3⟩
        cases out with
        | pan v => exact fun v' w' G' hA hR' hV => hP (.pan v) _ _ _ _ hA hR' h4.2 v' hV
        | ret v => exact fun v' w' G' hA hR' hV => awpOps_wp hn l (k + 1) _ G' _ w' hl' (hR'.put (hn k o h0) hV) (hP.adv hA) h4.2
      · have ho' : o.op = .call ⟨.value x, args, ts⟩ := ho
        obtain ⟨fn, hfn, hnm, hbd⟩ := h9.1.ok
        have hx := hR.ev x
        rw [h1] at hx
        generalize hxv : a.eval x = xv at hx
        cases hx with
        | fn _ _ vs hl0 hh =>
          have hvs : vs = #[] := Array.eq_empty_of_size_eq_zero (by simpa using hl0)
          subst hvs
          have hrun : (execOp a.eval o).run E.P w = .ok (.enter f (args.map a.eval)) w := by
            unfold execOp
            rw [ho']
            have e1 : (fn.name = "runtime.NumGoroutine") = False := by simpa using hnm
            have e2 : (fn.body = none) = False := by simp only [eq_iff_iff, iff_false]; intro hn; rw [hn] at hbd; simp at hbd
            simp [resolve, hxv, Deferred.ofValue, invoke, callFunc, hfn, e1, e2]
          unfold Oper.wp
          rw [hrun]
          simp only [Oper.upon]
          obtain ⟨q1, q2⟩ := args_ok hR args
          refine callOwn_ok hR q1 (fun i y u hy hu => ?_) h2 h3 h4 h5 h6 h7 h8 h9 (fun v' w' G' hA hR' hV => awpOps_wp hn l (_ + 1) _ G' _ w' hl' (hR'.put (hn _ o h0) hV) (hP.adv hA) h10)
          obtain ⟨u', hu', hr'⟩ := q2 i y hy
          rw [hu] at hu'
          exact (Option.some.inj hu') ▸ hr'
      · obtain ⟨r, w', v', G', e1, e2, e3, e4, e5⟩ := opA_ok E.hT E.hE hR (o := o) (by rw [opS_eq]; exact h1)
        unfold Oper.wp
        rw [e1]
        have hgo : wpOps E.P ops Q' (List.range' (k + 1) l.length) (a.put o.dst v') w' := awpOps_wp hn l (k + 1) _ G' _ w' hl' (e4.put (hn k o h0) e5) (hP.adv e3) h3
        rcases e2 with rfl | ⟨rfl, rfl⟩ <;> exact hgo
      · have hx := hR.ev x
        rw [hv] at hx
        generalize hxv : a.eval x = xv at hx
        cases hx with
        | iface _ _ u hu =>
          have hrun : (execOp a.eval o).run E.P w = .halt (.panic (.iface t u)) w := by
            have ho' : o.op = .panic x := ho
            unfold execOp
            rw [ho']
            simp [Instr.panic, hxv, goPanic]
          unfold Oper.wp
          rw [hrun]
          exact hP (.pan (.iface t v)) _ _ _ _ (.refl G w) hR hq _ (.iface t v u hu)
      · exact hk1 n B G a w hR o rfl _ _ fun v v' M' w' G' hp hA hR' hV => awpOps_wp hn l (k + 1) _ G' _ w' hl' (hR'.put (hn k o h0) hV) (hP.adv hA) (hk2 v M' hp)
      · exact CallsN.wp hR hfr (fun v' w' G' hA hR' hV => awpOps_wp hn l (k + 1) _ G' _ w' hl' (hR'.put (hn k o h0) hV) (hP.adv hA) h4) ⟨x, args, ts, f, caps, ho, h1, h2, h3⟩
    · rw [if_neg (by rw [wantA_ok hR hw]; simp)]
      refine awpOps_wp hn l (k + 1) _ G _ w hl' (hR.put (hn k o h0) ?_) hP hno
      exact .tup [] #[] rfl fun n x v hx => by simp at hx
theorem AW.ops {draw : Bool} {l : List SOp} (h : awpOps E draw none Q l s) : AW E n (.ops draw l) Q s := by
  intro c hc B G a w hR Q' hP
  cases c <;> simp only [slim, reduceCtorEq] at hc
  case region id ops d =>
    split at hc
    case isFalse => split at hc <;> simp at hc
    rename_i hb
    simp only [Bool.and_eq_true, Bool.or_eq_true, Bool.not_eq_true'] at hb
    simp only [Option.some.injEq, SC.ops.injEq] at hc
    obtain ⟨rfl, rfl⟩ := hc
    have hn := dstB_ok hb.1
    cases d with
    | false =>
      refine wp_region ?_
      have := awpOps_wp hn ops.toList 0 s G a w (by simp) hR hP h
      rw [List.range_eq_range']
      simpa using this
    | true =>
      exact region_draw_ok (RK := none) E.hm E.hT E.hE hn (by simpa using hb.2) hR (fun s1 a' w' G' hA hR' hq => hP .normal _ _ _ _ hA hR' hq) (awpOps_lex ops.toList s h)
  all_goals first | (simp at hc; done) | (split at hc <;> simp at hc; done) | skip
theorem AW.opsW (K : Nat → Bool) {ws : List Nat} {l : List SOp} (h : awpOps E true (some (ws, K)) Q l s) : AW E n (.opsW ws l) Q s := by
  intro c hc B G a w hR Q' hP
  cases c <;> simp only [slim, reduceCtorEq] at hc
  case region id ops d =>
    split at hc
    case isTrue => simp at hc
    rename_i hno
    split at hc
    case isFalse => simp at hc
    rename_i hb
    simp only [Option.some.injEq, SC.opsW.injEq] at hc
    obtain ⟨rfl, rfl⟩ := hc
    simp only [Bool.and_eq_true] at hb
    have hn := dstB_ok hb.1
    cases d with
    | false => simp [hb.1] at hno
    | true =>
      exact region_draw_ok (RK := some (takenOf ops, K)) E.hm E.hT E.hE hn hb.2 hR (fun s1 a' w' G' hA hR' hq => hP .normal _ _ _ _ hA hR' hq) (awpOps_lex ops.toList s h)
  all_goals first | (simp at hc; done) | (split at hc <;> simp at hc; done) | skip
theorem callS_ret {draw : Bool} {RK : Option (List Nat × (Nat → Bool))} {x : Operand} {args : Array Operand} {Kv Kp : AVal → Mem → Prop} (Kf : Nat → Bool) {f : FuncId} {caps l : List AVal} {v : AVal} (hf : ev s.T x = .fn f caps)
    (hl : (evs s.T args.toList ++ caps).map (fz Kf s.M) = l) (hs : stbs l = true) (he : Ev E.P f l (.ret v)) (hd : (draw = true → v.flt = true ∨ Kf = fun _ => false) ∧ (RK.isSome = true → Kf = fun _ => false))
    (h : Kv v (if v.flt = true then s.M else kill Kf s.M)) : callS E.P draw RK s x args Kv Kp :=
  .inl ⟨f, caps, Kf, .ret v, hf, by rw [hl]; exact hs, by rw [hl]; exact he, hd, h⟩
theorem callS_back {x : Operand} {args : Array Operand} {Kv Kp : AVal → Mem → Prop} (p k : Nat) {f : FuncId} {e sz : Nat} {xs args' ys : List AVal} (hf : ev s.T x = .fn f []) (hp : (evs s.T args.toList)[p]? = some (.os k e))
    (hk : s.M k = some (.arr e sz xs)) (ha : ((evs s.T args.toList).map (fz (fun _ => false) s.M)).set p .undef = args') (hst : stbs args' = true) (hxs : stbs xs = true) (hys : stbs ys = true)
    (he : EvOwn E.P f args' p sz xs true .undef ys) (h : Kv (.os k (e + 1)) (upd s.M k (some (.arr (e + 1) sz ys)))) : callS E.P false none s x args Kv Kp :=
  .inr ⟨rfl, f, p, k, e, sz, xs, args', true, .undef, ys, hf, hp, hk, hxs, ha, hst, rfl, hys, he, h⟩
theorem callS_inplace {x : Operand} {args : Array Operand} {Kv Kp : AVal → Mem → Prop} (p k : Nat) {f : FuncId} {e sz : Nat} {xs args' ys : List AVal} {r : AVal} (hf : ev s.T x = .fn f []) (hp : (evs s.T args.toList)[p]? = some (.os k e))
    (hk : s.M k = some (.arr e sz xs)) (ha : ((evs s.T args.toList).map (fz (fun _ => false) s.M)).set p .undef = args') (hst : stbs args' = true) (hxs : stbs xs = true) (hys : stbs ys = true) (hr : r.stb = true)
    (he : EvOwn E.P f args' p sz xs false r ys) (h : Kv r (upd s.M k (some (.arr e sz ys)))) : callS E.P false none s x args Kv Kp :=
  .inr ⟨rfl, f, p, k, e, sz, xs, args', false, r, ys, hf, hp, hk, hxs, ha, hst, hr, hys, he, h⟩
theorem callS_pure {draw : Bool} {RK : Option (List Nat × (Nat → Bool))} {x : Operand} {args : Array Operand} {Kv Kp : AVal → Mem → Prop} {f : FuncId} {caps l : List AVal} {v : AVal} (hf : ev s.T x = .fn f caps)
    (hl : (evs s.T args.toList ++ caps).map (fz (fun _ => false) s.M) = l) (hs : stbs l = true) (he : Ev E.P f l (.ret v))
    (h : Kv v s.M) : callS E.P draw RK s x args Kv Kp :=
  callS_ret (fun _ => false) hf hl hs he ⟨fun _ => .inr rfl, fun _ => rfl⟩ (by rw [kill_none]; split <;> exact h)
end
end Go.Proofs.Ytdmfjkhbodbgoaa.Avm

namespace Go.Proofs.Ytdmfjkhbodbgoaa.Avm
def allK : Nat → Bool := fun _ => true
theorem without_all (G : Gh) (b : Nat) : (G.without allK).ow b = none := by
  simp only [Gh.without, allK]
  cases G.ow b <;> simp
def resOne (TE : TyE) (s : AS) : ResultVar → Option AVal
  | .tmp t => some (fz allK s.M (s.T t))
  | .cell a t =>
    match TE t, s.T a with
    | some i, .ptr k off =>
      match s.M k with
      | some (.cells cs) =>
        if i.td.isAgg = true then (if off + i.size ≤ cs.length then some (.agg (((cs.drop off).take i.size).map (fzc allK s.M))) else none)
        else (match cs[off]? with | some x => some (fzc allK s.M x) | none => none)
      | _ => none
    | _, _ => none
def resAll (TE : TyE) (s : AS) : List ResultVar → Option (List AVal)
  | [] => some []
  | r :: rs => match resOne TE s r, resAll TE s rs with | some x, some xs => some (x :: xs) | _, _ => none
def outOf : List AVal → AVal
  | [x] => x
  | xs => .tup xs
def sub1 (x y : AVal) : Prop := x = y ∨ (x = .nil ∧ ∃ sz, y = .sl sz [])
def subs : List AVal → List AVal → Prop
  | [], [] => True
  | x :: l, y :: m => sub1 x y ∧ subs l m
  | _, _ => False
theorem subs_refl : ∀ l : List AVal, subs l l
  | [] => trivial
  | x :: l => ⟨.inl rfl, subs_refl l⟩
theorem subs_len : ∀ {l m : List AVal}, subs l m → l.length = m.length
  | [], [], _ => rfl
  | x :: l, y :: m, h => by simp [subs_len h.2]
  | [], _ :: _, h => h.elim
  | _ :: _, [], h => h.elim
theorem subs_get : ∀ {l m : List AVal}, subs l m → ∀ {i : Nat} {y : AVal}, m[i]? = some y → ∃ x, l[i]? = some x ∧ sub1 x y
  | x :: l, y :: m, h, 0, z, hz => by simp at hz; subst hz; exact ⟨x, rfl, h.1⟩
  | x :: l, y :: m, h, i + 1, z, hz => by simpa using subs_get h.2 (by simpa using hz)
  | [], [], _, i, z, hz => by simp at hz
  | [], _ :: _, h, _, _, _ => h.elim
  | _ :: _, [], h, _, _, _ => h.elim
theorem sub1_stb {x y : AVal} (h : sub1 x y) (hs : x.stb = true) : y.stb = true := by
  rcases h with rfl | ⟨rfl, sz, rfl⟩
  · exact hs
  · rfl
theorem subs_stb : ∀ {l m : List AVal}, subs l m → stbs l = true → stbs m = true
  | [], [], _, h => h
  | x :: l, y :: m, h, hs => by
    simp only [stbs, Bool.and_eq_true] at hs ⊢
    exact ⟨sub1_stb h.1 hs.1, subs_stb h.2 hs.2⟩
  | [], _ :: _, h, _ => h.elim
  | _ :: _, [], h, _ => h.elim
theorem sub1_VR {D : Nat → Nat → Prop} {G : Gh} {B : Nat → Prop} {w : World} {x y : AVal} {v : Value} (h : sub1 x y) (hv : VR D G B w x v) : VR D G B w y v := by
  rcases h with rfl | ⟨rfl, sz, rfl⟩
  · exact hv
  · cases hv; exact .slnil sz
def FnQ (TE : TyE) (rs : List ResultVar) (out : Out) : Ex → AS → Prop
  | .normal, s => ∃ xs, resAll TE s rs = some xs ∧ stbs xs = true ∧ ∃ ys, subs xs ys ∧ out = .ret (outOf ys)
  | .ret, s => ∃ xs, resAll TE s rs = some xs ∧ stbs xs = true ∧ ∃ ys, subs xs ys ∧ out = .ret (outOf ys)
  | .pan x, s => (fz allK s.M x).stb = true ∧ out = .pan (fz allK s.M x)
  | .exit _, _ => False
section
variable {P : Program} {TE : TyE}
theorem resOne_ok (hT : TyOk P TE) {n : Nat} {B : Nat → Prop} {G : Gh} {s : AS} {a : Act} {w : World} (h : Rel n B G s a w) {r : ResultVar} {x : AVal} (hr : resOne TE s r = some x) :
    ∃ v, (match r with | .tmp t => pure (a.tmps.getD t undef) | .cell c t => do loadVar t (← asAddr (a.tmps.getD c undef)) : Sem Value).run P w = .ok v w ∧ VR (Dm s.M) (G.without allK) B w x v := by
  cases r with
  | tmp t =>
    simp only [resOne, Option.some.injEq] at hr
    subst hr
    exact ⟨a.tmps.getD t undef, rfl, fz_ok h.mem (h.temps t)⟩
  | cell c t =>
    simp only [resOne] at hr
    have hx := h.temps c
    cases hi : TE t with
    | none => simp [hi] at hr
    | some i =>
      cases hc : s.T c <;> simp only [hi, hc, reduceCtorEq] at hr
      rename_i k off
      rw [hc] at hx
      dsimp only
      generalize a.tmps.getD c undef = av at hx ⊢
      cases hx with
      | ptr _ _ hD =>
        cases hm : s.M k with
        | none => simp [hm] at hr
        | some blk =>
          cases blk <;> simp only [hm, reduceCtorEq] at hr
          rename_i cs
          obtain ⟨cc, el, b1, b2, b3, b4, b5⟩ := h.mem k _ hm
          cases ha : i.td.isAgg
          · simp only [ha, Bool.false_eq_true, if_false] at hr
            cases hy : cs[off]? with
            | none => simp [hy] at hr
            | some y =>
              simp only [hy, Option.some.injEq] at hr
              subst hr
              obtain ⟨u, hu, hru⟩ := b5 off y hy
              have := run_loadVar' hT hi (G.β k) off (fun _ => u) w (fun j hj => by
                have : j = 0 := by simpa [ha] using hj
                subst this
                rw [cell_at b3]
                simpa using hu)
              simp only [ha, Bool.false_eq_true, if_false] at this
              exact ⟨u, by simp [asAddr, this], fzc_cell h.mem rfl hru⟩
          · simp only [ha, if_true] at hr
            split at hr
            case isFalse => simp at hr
            rename_i hle
            simp only [Option.some.injEq] at hr
            subst hr
            have hrun := run_loadVar' hT hi (G.β k) off (fun j => cc.getD (off + j) undef) w (fun j hj => by
              simp only [ha, if_true] at hj
              have hlt : off + j < cs.length := by omega
              obtain ⟨u, hu, hr⟩ := b5 (off + j) cs[off + j] (List.getElem?_eq_getElem hlt)
              rw [cell_at b3, hu]
              simp [hu])
            simp only [ha, if_true] at hrun
            refine ⟨.agg ((List.range i.size).map fun j => cc.getD (off + j) undef).toArray, by simp [asAddr, hrun], .agg _ _ (by simp; omega) fun m x v hx hv => ?_⟩
            have hmn : m < i.size := by
              rcases Nat.lt_or_ge m i.size with h' | h'
              · exact h'
              · rw [List.getElem?_eq_none (by simp; omega)] at hx; cases hx
            simp only [List.getElem?_map, List.getElem?_take, hmn, if_true, List.getElem?_drop] at hx
            cases hq : cs[off + m]? with
            | none => simp [hq] at hx
            | some y =>
              simp only [hq, Option.map_some, Option.some.injEq] at hx
              subst hx
              obtain ⟨u, hu, hru⟩ := b5 _ _ hq
              have : v = u := by
                have e : ((List.range i.size).map fun j => cc.getD (off + j) undef)[m]? = some u := by simp [hmn, hu]
                rw [List.getElem?_toArray, e] at hv
                exact (Option.some.inj hv).symm
              rw [this]
              exact fzc_cell h.mem rfl hru
theorem resAll_ok (hT : TyOk P TE) {n : Nat} {B : Nat → Prop} {G : Gh} {s : AS} {a : Act} {w : World} (h : Rel n B G s a w) : ∀ {rs : List ResultVar} {xs : List AVal}, resAll TE s rs = some xs →
    ∃ vs : List Value, (rs.mapM (fun r => match r with | .tmp t => pure (a.tmps.getD t undef) | .cell c t => do loadVar t (← asAddr (a.tmps.getD c undef)) : ResultVar → Sem Value)).run P w = .ok vs w ∧ vs.length = xs.length ∧
      ∀ (i : Nat) (x : AVal) (v : Value), xs[i]? = some x → vs[i]? = some v → VR (Dm s.M) (G.without allK) B w x v
  | [], xs, hr => by
    simp only [resAll, Option.some.injEq] at hr
    subst hr
    exact ⟨[], by simp, rfl, fun i x v hx => by simp at hx⟩
  | r :: rs, xs, hr => by
    simp only [resAll] at hr
    cases h1 : resOne TE s r with
    | none => simp [h1] at hr
    | some x =>
      cases h2 : resAll TE s rs with
      | none => simp [h1, h2] at hr
      | some ys =>
        simp only [h1, h2, Option.some.injEq] at hr
        subst hr
        obtain ⟨v, e1, e2⟩ := resOne_ok hT h h1
        obtain ⟨vs, f1, f2, f3⟩ := resAll_ok hT h h2
        refine ⟨v :: vs, ?_, by simp [f2], fun i y u hy hu => ?_⟩
        · rw [List.mapM_cons]
          simp only [Sem.run_bind, e1, Result.andThen, f1, Sem.run_pure]
        · cases i with
          | zero =>
            simp only [List.getElem?_cons_zero, Option.some.injEq] at hy hu
            subst hy; subst hu
            exact e2
          | succ i => exact f3 i y u (by simpa using hy) (by simpa using hu)
theorem results_ok (hT : TyOk P TE) {n : Nat} {B : Nat → Prop} {G : Gh} {s : AS} {a : Act} {w : World} (h : Rel n B G s a w) {fn : Func} {xs ys : List AVal} (hr : resAll TE s fn.results.toList = some xs) (hsub : subs xs ys) :
    ∃ v, (results fn a.tmps).run P w = .ok v w ∧ VR (Dm s.M) (G.without allK) B w (outOf ys) v := by
  obtain ⟨vs, e1, e2, e3⟩ := resAll_ok hT h hr
  have e3' : ∀ (i : Nat) (y : AVal) (v : Value), ys[i]? = some y → vs[i]? = some v → VR (Dm s.M) (G.without allK) B w y v := fun i y v hy hv => by
    obtain ⟨x, hx, hs⟩ := subs_get hsub hy
    exact sub1_VR hs (e3 i x v hx hv)
  rw [subs_len hsub] at e2
  replace e3 := e3'
  have hm : (fn.results.mapM (fun r => match r with | .tmp t => pure (a.tmps.getD t undef) | .cell c t => do loadVar t (← asAddr (a.tmps.getD c undef)) : ResultVar → Sem Value)).run P w = .ok vs.toArray w := by
    rw [Array.mapM_eq_mapM_toList]
    simp only [Sem.run_map, e1, Result.andThen]
  refine ⟨if h : vs.toArray.size = 1 then vs.toArray[0] else .tuple vs.toArray, ?_, ?_⟩
  · unfold results
    simp only [Sem.run_bind]
    refine Eq.trans (congrArg (fun r => Result.andThen r _) hm) ?_
    simp [Result.andThen]
  · clear e3' hr hsub e1 hm
    match ys, vs, e2 with
    | [], [], _ => exact .tup [] _ rfl fun n x v hx => by simp at hx
    | [x], [v], _ => exact e3 0 x v rfl rfl
    | x :: y :: l, v :: u :: l', e2 =>
      simp only [List.size_toArray, List.length_cons, Nat.reduceEqDiff, Nat.add_eq_zero_iff, Nat.succ_ne_self, and_false, dite_false, outOf]
      exact .tup _ _ (by simp; simpa using e2) fun n x v hx hv => e3 n x v hx (by simpa using hv)
end
def initT (args : List AVal) : Tmps := fun t => (args[t]?).getD .undef
def FnIs (P : Program) (f : FuncId) (n : Nat) (rs : List ResultVar) (sc : SC) : Prop :=
  ∃ fn c, P.funcs[f]? = some fn ∧ (fn.name == "runtime.NumGoroutine") = false ∧ fn.body = some c ∧ fn.ntmps = n ∧ fn.results.toList = rs ∧ slim n c = some sc
theorem Ev.of_body {E : Env} {f : FuncId} {n : Nat} {rs : List ResultVar} {sc : SC} (hf : FnIs E.P f n rs sc) {args : List AVal} {out : Out} (hl : args.length ≤ n)
    (h : AW E n sc (FnQ E.TE rs out) ⟨initT args, NoM⟩) : Ev E.P f args out := by
  obtain ⟨fn, c, h1, h2, h3, rfl, rfl, h6⟩ := hf
  refine ⟨⟨fn, h1, h2, by simp [h3]⟩, fun B w vs G hG hsz hv hB => ?_⟩
  refine calls_of_wp h1 h3 ?_
  have hR : Rel fn.ntmps B G ⟨initT args, NoM⟩ { tmps := vs ++ Array.replicate (fn.ntmps - vs.size) undef, defers := [] } w := by
    refine ⟨by simp; omega, rfl, fun t => ?_, fun k blk hk => by simp [NoM] at hk, fun b hb => ⟨hB b hb, hG b⟩, fun b hb => absurd (hG b) hb⟩
    simp only [initT]
    cases ht : args[t]? with
    | none => exact .undef _
    | some x =>
      have hlt : t < vs.size := by
        rw [hsz]
        rcases Nat.lt_or_ge t args.length with h' | h'
        · exact h'
        · rw [List.getElem?_eq_none h'] at ht; cases ht
      have : (vs ++ Array.replicate (fn.ntmps - vs.size) undef).getD t undef = vs[t] := by
        rw [Array.getD_eq_getD_getElem?, Array.getElem?_append_left hlt]
        simp [hlt]
      simp only [Option.getD_some, this]
      exact hv t x _ ht (by simp [hlt])
  refine h c h6 B G _ w hR _ fun e s a' w' G' hA hR' hq => ?_
  have hA' : Adv G w (G'.without allK) w' := ⟨hA.os, hA.tape, hA.output, hA.size, fun b hb ho => ⟨(hA.keep b hb ho).1, without_all G' b⟩⟩
  have hfin : ∀ {x : AVal} {v : Value}, x.stb = true → VR (Dm s.M) (G'.without allK) B w' x v → VR (Dm NoM) (G'.without allK) B w' x v := fun hs hx =>
    hx.stable (fun b _ hn _ => ⟨rfl, hn, without_all G' b⟩) hs
  have hret : ∀ xs ys, resAll E.TE s fn.results.toList = some xs → stbs xs = true → subs xs ys → ∃ v, (results fn a'.tmps).run E.P w' = .ok v w' ∧ VR (Dm NoM) (G'.without allK) B w' (outOf ys) v := by
    intro xs ys hx hs hsub
    obtain ⟨v, e1, e2⟩ := results_ok E.hT hR' hx hsub
    refine ⟨v, e1, hfin ?_ e2⟩
    have hs := subs_stb hsub hs
    clear e2 hsub hx
    match ys, hs with
    | [], _ => rfl
    | [x], hs => simp only [stbs, Bool.and_true] at hs; exact hs
    | x :: y :: l, hs => exact hs
  cases e with
  | normal =>
    obtain ⟨xs, hx, hs, ys, hsub, rfl⟩ := hq
    obtain ⟨v, e1, e2⟩ := hret xs ys hx hs hsub
    exact ⟨hR'.defers, v, e1, G'.without allK, v, without_all G', hA', rfl, e2⟩
  | ret =>
    obtain ⟨xs, hx, hs, ys, hsub, rfl⟩ := hq
    obtain ⟨v, e1, e2⟩ := hret xs ys hx hs hsub
    exact ⟨hR'.defers, v, e1, G'.without allK, v, without_all G', hA', rfl, e2⟩
  | exit id => exact hq.elim
  | pan x =>
    intro v' hV
    obtain ⟨hs, rfl⟩ := hq
    exact ⟨hR'.defers, G'.without allK, v', without_all G', hA', rfl, hfin hs (fz_ok hR'.mem hV)⟩
end Go.Proofs.Ytdmfjkhbodbgoaa.Avm

namespace Go.Proofs.Ytdmfjkhbodbgoaa.Avm
def tyI (P : Program) (t : TypeId) : Option TyI :=
  match P.underlying t, P.info? t with
  | some d, some inf => match inf.zero with
    | some z => some ⟨TD.of d, inf.size, inf.bytes, z⟩
    | none => none
  | _, _ => none
def tyOf (l : List (Nat × TyI)) : TyE := fun t => (l.find? fun p => p.1 == t).map (·.2)
theorem tyOk_of {P : Program} {l : List (Nat × TyI)} (h : l.map (fun p => tyI P p.1) = l.map (fun p => some p.2)) (hz : l.all (fun p => p.2.zero.cells.size == p.2.size) = true) : TyOk P (tyOf l) := by
  intro t i ht
  simp only [tyOf, Option.map_eq_some_iff] at ht
  obtain ⟨p, hp, rfl⟩ := ht
  have hm := List.mem_of_find?_eq_some hp
  have he : p.1 = t := by simpa using List.find?_some hp
  have h1 : tyI P p.1 = some p.2 := by
    obtain ⟨n, hn, rfl⟩ := List.getElem_of_mem hm
    have := congrArg (fun l => l[n]?) h
    simpa [hn] using this
  have h2 := List.all_eq_true.1 hz p hm
  subst he
  unfold tyI at h1
  cases hu : P.underlying p.1 with
  | none => simp [hu] at h1
  | some d =>
    cases hq : P.info? p.1 with
    | none => simp [hu, hq] at h1
    | some inf =>
      cases hr : inf.zero with
      | none => simp [hu, hq, hr] at h1
      | some z =>
        simp only [hu, hq, hr, Option.some.injEq] at h1
        rw [← h1] at h2 ⊢
        exact ⟨d, inf, rfl, rfl, rfl, rfl, rfl, hr, by simpa using h2⟩
def eqChk (P : Program) (t : TypeId) : Bool := !P.stoodInHeld t && !P.eqGuardType P.depth t && (P.fieldsOf t).toList.all fun f => f.name != "_"
theorem eqOk_of {P : Program} {l : List Nat} (h : l.all (eqChk P) = true) : ∀ t, l.contains t = true → EqOk P t := by
  intro t ht
  have := List.all_eq_true.1 h t (by simpa using ht)
  simp only [eqChk, Bool.and_eq_true, Bool.not_eq_true'] at this
  refine ⟨this.1.1, this.1.2, fun f hf hn => ?_⟩
  have := List.all_eq_true.1 this.2 f hf
  simp [hn] at this
theorem Wk.temps {n : Nat} {T T' : Tmps} {M : Mem} (h : ∀ t, T' t = T t ∨ T' t = .undef) : Wk n ⟨T, M⟩ ⟨T', M⟩ := fun B G a w hR =>
  ⟨G, ⟨hR.size, hR.defers, fun t => by
    show VR (Dm M) G B w (T' t) (a.tmps.getD t undef)
    rcases h t with e | e <;> rw [e]
    · exact hR.temps t
    · exact .undef _, hR.mem, hR.fr, hR.ol⟩, .refl G w⟩
def keepT (l : List Nat) (T : Tmps) : Tmps := fun t => if l.contains t = true then T t else .undef
theorem Wk.keepT {n : Nat} {T : Tmps} {M : Mem} (l : List Nat) : Wk n ⟨T, M⟩ ⟨Avm.keepT l T, M⟩ := Wk.temps fun t => by
  unfold Avm.keepT
  split
  · exact .inl rfl
  · exact .inr rfl
def ofL (l : List (Nat × AVal)) : Tmps := fun t => match l.find? (fun p => p.1 == t) with | some p => p.2 | none => .undef
theorem Wk.ofL {n : Nat} {T : Tmps} {M : Mem} (l : List (Nat × AVal)) (h : ∀ p ∈ l, T p.1 = p.2) : Wk n ⟨T, M⟩ ⟨Avm.ofL l, M⟩ := Wk.temps fun t => by
  unfold Avm.ofL
  cases hf : l.find? (fun p => p.1 == t) with
  | none => exact .inr rfl
  | some p =>
    have h1 := h p (List.mem_of_find?_eq_some hf)
    have h2 : p.1 = t := by simpa using List.find?_some hf
    exact .inl (by rw [← h2]; exact h1.symm)
def AVal.no (K : Nat → Bool) (x : AVal) : Bool :=
  match x with
  | .ptr k _ => !K k
  | .os k _ => !K k
  | .eptr k _ _ _ _ => !K k
  | x => x.stb
theorem VR.drop {K : Nat → Bool} {M : Mem} {G : Gh} {B : Nat → Prop} {w : World} {x : AVal} {v : Value} (h : VR (Dm M) G B w x v) (hn : x.no K = true) :
    VR (Dm fun k => if K k = true then none else M k) (G.without K) B w x v := by
  have hD : ∀ k e, K k = false → Dm M k e → Dm (fun k => if K k = true then none else M k) k e := fun k e hk hd => by
    simpa [Dm, hk] using hd
  cases x <;> simp only [AVal.no, Bool.not_eq_true'] at hn
  case ptr k off => cases h with | ptr _ _ hd => exact .ptr k off (hD _ _ hn hd)
  case os k e => cases h with | os _ _ hd v hv => exact .os k e (hD _ _ hn hd) v hv
  case eptr k e sz i off => cases h with | eptr _ _ _ _ _ b o len cap hd hh => exact .eptr k e sz i off b o len cap (hD _ _ hn hd) hh
  all_goals exact h.stable (fun b _ hb ho => ⟨rfl, hb, without_none ho⟩) hn
def AVal.noC (K : Nat → Bool) : AVal → Bool
  | .own _ xs => (flat xs).all fun y => y.no K
  | .hole => true
  | .ref _ => false
  | x => x.no K
theorem CellRel.drop {K : Nat → Bool} {M : Mem} {G : Gh} {B : Nat → Prop} {w : World} {k i : Nat} {x : AVal} {v : Value} (hk : K k = false) (h : CellRel (Dm M) G B w k i x v)
    (hn : x.noC K = true) :
    CellRel (Dm fun k => if K k = true then none else M k) (G.without K) B w k i x v := by
  have hkey : ∀ b, G.ow b = some (.cell k i) → (G.without K).ow b = some (.cell k i) := fun b hb => by simp [Gh.without, hb, OKey.of, hk]
  cases x <;> first | exact VR.drop h hn | exact trivial | (simp [AVal.noC] at hn; done) | skip
  case own sz xs =>
    rcases h with h | ⟨b, o, cap, c, el, h1, h2, h3, h4, h5, h6, h7, h7', h8⟩
    · exact .inl h
    · exact .inr ⟨b, o, cap, c, el, h1, h2, hkey b h3, h4, h5, h6, h7, h7', fun n y hy => let ⟨u, hu, hr⟩ := h8 n y hy; ⟨u, hu, hr.drop (List.all_eq_true.1 hn y (List.mem_of_getElem? hy))⟩⟩
def ABlk.no (K : Nat → Bool) : ABlk → Bool
  | .cells cs => cs.all fun x => x.noC K
  | .arr _ _ xs => (flat xs).all fun y => y.no K
  | .dead => true
theorem Wk.drop {n : Nat} {T : Tmps} {M M' : Mem} (K : Nat → Bool) (hT : ∀ t, (T t).no K = true) (hM : ∀ k blk, K k = false → M k = some blk → blk.no K = true) (hM' : M' = fun k => if K k = true then none else M k) : Wk n ⟨T, M⟩ ⟨T, M'⟩ := by
  subst hM'
  intro B G a w hR
  refine ⟨G.without K, ⟨hR.size, hR.defers, fun t => (hR.temps t).drop (hT t), fun k blk hk => ?_, fun b hb => ⟨(hR.fr b hb).1, without_none (hR.fr b hb).2⟩, fun b hb => hR.ol b fun hn => hb (without_none hn)⟩,
    ⟨⟨rfl, Nat.le_refl _⟩, rfl, rfl, Nat.le_refl _, fun b _ ho => ⟨rfl, without_none ho⟩⟩⟩
  by_cases hK : K k = true
  · simp [hK] at hk
  · have hK' : K k = false := by simpa using hK
    simp only [hK', Bool.false_eq_true, if_false] at hk
    have hb := hM k blk hK' hk
    have h0 := hR.mem k blk hk
    cases blk with
    | cells cs =>
      obtain ⟨c, el, b1, b2, b3, b4, b5⟩ := h0
      refine ⟨c, el, by simp [Gh.without, b1, OKey.of, hK'], b2, b3, b4, fun i x hx => ?_⟩
      obtain ⟨u, hu, hr⟩ := b5 i x hx
      exact ⟨u, hu, hr.drop hK' (List.all_eq_true.1 hb x (List.mem_of_getElem? hx))⟩
    | arr e sz xs =>
      rcases h0 with h | ⟨b, o, cap, c, el, h1, h2, h3, h4, h5, h6, h7, h7', h8⟩
      · exact .inl h
      · exact .inr ⟨b, o, cap, c, el, h1, h2, by simp [Gh.without, h3, OKey.of, hK'], h4, h5, h6, h7, h7', fun n y hy => let ⟨u, hu, hr⟩ := h8 n y hy; ⟨u, hu, hr.drop (List.all_eq_true.1 hb y (List.mem_of_getElem? hy))⟩⟩
    | dead => trivial
end Go.Proofs.Ytdmfjkhbodbgoaa.Avm

namespace Go.Proofs.Ytdmfjkhbodbgoaa.Avm
def Ex.andThen (next : (Ex → AS → Prop) → AS → Prop) (Q : Ex → AS → Prop) : Ex → AS → Prop
  | .normal, s => next Q s
  | e, s => Q e s
def awc (E : Env) (n : Nat) : SC → (Ex → AS → Prop) → AS → Prop
  | .skip, Q, s => Q .normal s
  | .ret, Q, s => Q .ret s
  | .exit id, Q, s => Q (.exit id) s
  | .seq x y, Q, s => awc E n x (Ex.andThen (awc E n y) Q) s
  | .cond c x y, Q, s => match ev s.T c with
    | .bool b => (b = true → awc E n x Q s) ∧ (b = false → awc E n y Q s)
    | _ => False
  | .block id x, Q, s => awc E n x (Ex.inBlock id Q) s
  | .ops d l, Q, s => awpOps E d none Q l s
  | .opsW ws l, Q, s => AW E n (.opsW ws l) Q s
  | .loop x, Q, s => AW E n (.loop x) Q s
theorem AW.awc {E : Env} {n : Nat} : ∀ {x : SC} {Q : Ex → AS → Prop} {s : AS}, awc E n x Q s → AW E n x Q s
  | .skip, Q, s, h => AW.skip h
  | .ret, Q, s, h => AW.ret h
  | .exit id, Q, s, h => AW.exit h
  | .seq x y, Q, s, h => AW.seq (AW.mono (AW.awc (x := x) h) fun e s h => by
      cases e <;> first | exact AW.awc (x := y) h | exact h)
  | .cond c x y, Q, s, h => by
    simp only [Avm.awc] at h
    cases hc : ev s.T c <;> simp only [hc] at h
    exact AW.cond hc (fun hb => AW.awc (h.1 hb)) (fun hb => AW.awc (h.2 hb))
  | .block id x, Q, s, h => AW.block (AW.awc (x := x) h)
  | .ops d l, Q, s, h => AW.ops h
  | .opsW ws l, Q, s, h => h
  | .loop x, Q, s, h => h
theorem Ev.of_awc {E : Env} {f : FuncId} {n : Nat} {rs : List ResultVar} {sc : SC} (hf : FnIs E.P f n rs sc) {args : List AVal} {out : Out} (hl : args.length ≤ n)
    (h : Avm.awc E n sc (FnQ E.TE rs out) ⟨initT args, NoM⟩) : Ev E.P f args out := Ev.of_body hf hl (AW.awc h)
end Go.Proofs.Ytdmfjkhbodbgoaa.Avm

namespace Go.Proofs.Ytdmfjkhbodbgoaa.Avm
def FnB (p sz : Nat) (t : Tmp) (ys : List AVal) : Ex → AS → Prop
  | .normal, s => ∃ e, s.T t = .os p e ∧ s.M p = some (.arr e sz ys) ∧ stbs ys = true
  | .ret, s => ∃ e, s.T t = .os p e ∧ s.M p = some (.arr e sz ys) ∧ stbs ys = true
  | _, _ => False
def initO (args : List AVal) (p sz : Nat) (xs : List AVal) : AS := ⟨upd (initT args) p (.os p 0), upd NoM p (some (.arr 0 sz xs))⟩
theorem EvOwn.of_body {E : Env} {f : FuncId} {n : Nat} {t : Tmp} {sc : SC} (hf : FnIs E.P f n [.tmp t] sc) {args : List AVal} {p sz : Nat} {xs ys : List AVal} (hl : args.length ≤ n)
    (h : AW E n sc (FnB p sz t ys) (initO args p sz xs)) : EvOwn E.P f args p sz xs true .undef ys := by
  obtain ⟨fn, c, h1, h2, h3, rfl, h5, h6⟩ := hf
  refine ⟨⟨fn, h1, h2, by simp [h3]⟩, fun B w vs G hG hsz hv hvp hB hol => ?_⟩
  obtain ⟨vp, hvp, hown⟩ := hvp
  have hpl : p < vs.size := by
    rcases Nat.lt_or_ge p vs.size with h' | h'
    · exact h'
    · rw [Array.getElem?_eq_none h'] at hvp; cases hvp
  refine calls_of_wp h1 h3 ?_
  let G0 : Gh := G.setHd p 0 vp hown.one G.ow
  have hD : Dm (upd NoM p (some (.arr 0 sz xs))) p 0 := by simp [Dm, upd_same]
  have hmono : ∀ {x : AVal} {u : Value}, VR (Dm NoM) G B w x u → VR (Dm (upd NoM p (some (.arr 0 sz xs)))) G0 B w x u := fun hr =>
    VR.mono (D := Dm NoM) (G := G) (G' := G0) (w := w) (w' := w) (B := B) (fun _ _ h => absurd h NoM_D) (fun _ _ h => absurd h NoM_D) (fun b _ hn ho => ⟨rfl, hn, ho⟩) hr
  have hR : Rel fn.ntmps B G0 (initO args p sz xs) { tmps := vs ++ Array.replicate (fn.ntmps - vs.size) undef, defers := [] } w := by
    have hget : ∀ t, t < vs.size → (vs ++ Array.replicate (fn.ntmps - vs.size) undef).getD t undef = vs.getD t undef := fun t ht => by
      rw [Array.getD_eq_getD_getElem?, Array.getElem?_append_left ht, Array.getD_eq_getD_getElem?]
    refine ⟨by simp; omega, rfl, fun t => ?_, fun k blk hk => ?_, hB, hol⟩
    · simp only [initO]
      by_cases htp : t = p
      · subst htp
        rw [upd_same]
        refine .os _ 0 hD _ ?_
        rw [hget _ hpl, Array.getD_eq_getD_getElem?, hvp]
        exact setHd_hd.symm
      · rw [upd_ne _ _ htp]
        simp only [initT]
        cases ht : args[t]? with
        | none => exact .undef _
        | some x =>
          have hlt : t < vs.size := by
            rw [hsz]
            rcases Nat.lt_or_ge t args.length with h' | h'
            · exact h'
            · rw [List.getElem?_eq_none h'] at ht; cases ht
          simp only [Option.getD_some]
          rw [hget t hlt, Array.getD_eq_getD_getElem?]
          have e : vs[t]? = some vs[t] := by simp [hlt]
          rw [e]
          exact hmono (hv t x _ htp ht e)
    · simp only [initO] at hk
      by_cases hkp : k = p
      · subst hkp
        simp only [upd_same, Option.some.injEq] at hk
        subst hk
        show OwnAt _ G0 B w (.arr k) sz xs (G0.hd k 0)
        rw [show G0.hd k 0 = vp from setHd_hd]
        exact OwnAt.trade (D := Dm NoM) (G := G) (B := B) (fun b hb ho => ⟨hb, ho⟩) (fun x _ u hr => hmono hr) hown
      · rw [upd_ne _ _ hkp] at hk
        simp [NoM] at hk
  have hA0 : Adv G w G0 w := ⟨⟨rfl, Nat.le_refl _⟩, rfl, rfl, Nat.le_refl _, fun b hb ho => ⟨rfl, ho⟩⟩
  refine h c h6 B G0 _ w hR _ fun e s a' w' G' hA hR' hq => ?_
  have hret : ∀ e, s.T t = .os p e → s.M p = some (.arr e sz ys) → stbs ys = true → a'.defers = [] ∧ ∃ v, (results fn a'.tmps).run E.P w' = .ok v w' ∧ ∃ (G1 : Gh) (v' u : Value), Ending.returned v = .returned v' ∧ (∀ b key, G1.ow b = some key → key = .arr p) ∧
      (∀ b, G1.ow b ≠ none → b < w'.heap.size) ∧ Adv G w G1 w' ∧ OwnAt (Dm NoM) G1 B w' (.arr p) sz ys u ∧ (true = true → v' = u) ∧ (true = false → vs[p]? = some u ∧ VR (Dm NoM) G1 B w' .undef v') := by
    intro e e1 e2 e3
    let G1 : Gh := { G' with ow := fun b => if G'.ow b = some (.arr p) then some (.arr p) else none }
    have hv := hR'.temps t
    rw [e1] at hv
    have hval : a'.tmps.getD t undef = G'.hd p e := by generalize a'.tmps.getD t undef = q at hv; cases hv with | os _ _ _ v hv => exact hv
    have hb : OwnAt (Dm s.M) G' B w' (.arr p) sz ys (G'.hd p e) := hR'.mem p _ e2
    refine ⟨hR'.defers, G'.hd p e, ?_, G1, G'.hd p e, G'.hd p e, rfl, fun b key hk => ?_, fun b hb' => ?_, ?_, ?_, fun _ => rfl, fun hh => by cases hh⟩
    · have hr : fn.results = #[.tmp t] := by rw [← Array.toList_inj]; simpa using h5
      unfold results
      rw [hr]
      simp only [Sem.run_bind]
      simp [← hval, Array.mapM_eq_mapM_toList]
    · simp only [G1] at hk
      split at hk
      · exact (Option.some.inj hk).symm
      · cases hk
    · refine hR'.ol b fun hn => hb' ?_
      simp [G1, hn]
    · have hA1 := hA0.trans hA
      exact ⟨hA1.os, hA1.tape, hA1.output, hA1.size, fun b hb ho => ⟨(hA1.keep b hb ho).1, by simp [G1, (hA1.keep b hb ho).2]⟩⟩
    · refine hb.trade (fun b hb ho => ⟨hb, by simp [G1, ho]⟩) (fun x hx u hr => ?_)
      exact hr.stable (fun b _ hn ho => ⟨rfl, hn, by simp [G1, ho]⟩) (stbs_flat e3 x hx)
  cases e with
  | normal => obtain ⟨e, e1, e2, e3⟩ := hq; exact hret e e1 e2 e3
  | ret => obtain ⟨e, e1, e2, e3⟩ := hq; exact hret e e1 e2 e3
  | exit id => exact hq.elim
  | pan x => exact hq.elim
theorem EvOwn.of_awc {E : Env} {f : FuncId} {n : Nat} {t : Tmp} {sc : SC} (hf : FnIs E.P f n [.tmp t] sc) {args : List AVal} {p sz : Nat} {xs ys : List AVal} (hl : args.length ≤ n)
    (h : Avm.awc E n sc (FnB p sz t ys) (initO args p sz xs)) : EvOwn E.P f args p sz xs true .undef ys := EvOwn.of_body hf hl (AW.awc h)
theorem Wk.own_nil {n : Nat} {T : Tmps} {M : Mem} (t k sz : Nat) (ht : T t = .nil) (hk : M k = none) : Wk n ⟨T, M⟩ ⟨upd T t (.os k 0), upd M k (some (.arr 0 sz []))⟩ := by
  intro B G a w hR
  obtain ⟨G', hA, hR', hh⟩ := hR.nil_arr (k := k) (e := 0) (.inl hk) sz
  refine ⟨G', ⟨hR'.size, hR'.defers, fun u => ?_, hR'.mem, hR'.fr, hR'.ol⟩, hA⟩
  show VR _ G' B w (upd T t (.os k 0) u) _
  by_cases hu : u = t
  · subst hu
    rw [upd_same]
    have hv := hR.temps u
    simp only [ht] at hv
    refine .os k 0 (by simp [Dm, upd_same]) _ ?_
    rw [hh]
    generalize a.tmps.getD u undef = q at hv
    cases hv
    rfl
  · rw [upd_ne _ _ hu]
    exact hR'.temps u
theorem Wk.sl_nil {n : Nat} {T : Tmps} {M : Mem} (t sz : Nat) (ht : T t = .nil) : Wk n ⟨T, M⟩ ⟨upd T t (.sl sz []), M⟩ := by
  intro B G a w hR
  refine ⟨G, ⟨hR.size, hR.defers, fun u => ?_, hR.mem, hR.fr, hR.ol⟩, .refl G w⟩
  show VR _ G B w (upd T t (.sl sz []) u) _
  by_cases hu : u = t
  · subst hu
    rw [upd_same]
    have hv := hR.temps u
    simp only [ht] at hv
    generalize a.tmps.getD u undef = q at hv
    cases hv
    exact .slnil sz
  · rw [upd_ne _ _ hu]
    exact hR.temps u
end Go.Proofs.Ytdmfjkhbodbgoaa.Avm

namespace Go.Proofs.Ytdmfjkhbodbgoaa.Avm
inductive Kont where
  | done
  | seq (y : SC) (k : Kont)
  | block (id : Nat) (k : Kont)
def KQ (E : Env) (n : Nat) (Q : Ex → AS → Prop) : Kont → Ex → AS → Prop
  | .done => Q
  | .seq y k => Ex.then (AW E n y (KQ E n Q k)) (KQ E n Q k)
  | .block id k => Ex.inBlock id (KQ E n Q k)
def Run (E : Env) (n : Nat) (Q : Ex → AS → Prop) (x : SC) (k : Kont) (s : AS) : Prop := AW E n x (KQ E n Q k) s
def Fin (E : Env) (n : Nat) (Q : Ex → AS → Prop) (k : Kont) (e : Ex) (s : AS) : Prop := KQ E n Q k e s
section
variable {E : Env} {n : Nat} {Q : Ex → AS → Prop} {k : Kont} {s : AS} {x y : SC}
theorem Run.start (h : Run E n Q x .done s) : AW E n x Q s := h
theorem Run.skip (h : Fin E n Q k .normal s) : Run E n Q .skip k s := AW.skip h
theorem Run.ret (h : Fin E n Q k .ret s) : Run E n Q .ret k s := AW.ret h
theorem Run.exit {id : Nat} (h : Fin E n Q k (.exit id) s) : Run E n Q (.exit id) k s := AW.exit h
theorem Run.seq (h : Run E n Q x (.seq y k) s) : Run E n Q (.seq x y) k s := AW.seq h
theorem Run.block {id : Nat} (h : Run E n Q x (.block id k) s) : Run E n Q (.block id x) k s := AW.block h
theorem Run.cond {o : Operand} (b : Bool) (hb : ev s.T o = .bool b) (ht : b = true → Run E n Q x k s) (hf : b = false → Run E n Q y k s) : Run E n Q (.cond o x y) k s := AW.cond hb ht hf
theorem Run.condT {o : Operand} (hb : ev s.T o = .bool true) (ht : Run E n Q x k s) : Run E n Q (.cond o x y) k s := AW.cond hb (fun _ => ht) (fun h => by cases h)
theorem Run.condF {o : Operand} (hb : ev s.T o = .bool false) (hf : Run E n Q y k s) : Run E n Q (.cond o x y) k s := AW.cond hb (fun h => by cases h) (fun _ => hf)
theorem Run.ops {d : Bool} {l : List SOp} (h : awpOps E d none (KQ E n Q k) l s) : Run E n Q (.ops d l) k s := AW.ops h
theorem Run.opsW (K : Nat → Bool) {ws : List Nat} {l : List SOp} (h : awpOps E true (some (ws, K)) (KQ E n Q k) l s) : Run E n Q (.opsW ws l) k s := AW.opsW K h
theorem Run.wk {s' : AS} (hw : Wk n s s') (h : Run E n Q x k s') : Run E n Q x k s := AW.wk hw h
theorem Run.loop (I : Nat → AS → Prop) {m0 : Nat} (h0 : I m0 s) (round : ∀ m s, I m s → AW E n x (Ex.then (fun s' => ∃ m' s'', m' < m ∧ Wk n s' s'' ∧ I m' s'') (KQ E n Q k)) s) : Run E n Q (.loop x) k s := AW.loop I h0 round
theorem Fin.done {e : Ex} (h : Q e s) : Fin E n Q .done e s := h
theorem Fin.seq (h : Run E n Q y k s) : Fin E n Q (.seq y k) .normal s := h
theorem Fin.seq_ret (h : Fin E n Q k .ret s) : Fin E n Q (.seq y k) .ret s := h
theorem Fin.seq_exit {id : Nat} (h : Fin E n Q k (.exit id) s) : Fin E n Q (.seq y k) (.exit id) s := h
theorem Fin.seq_pan {v : AVal} (h : Fin E n Q k (.pan v) s) : Fin E n Q (.seq y k) (.pan v) s := h
theorem Fin.block {id : Nat} (h : Fin E n Q k .normal s) : Fin E n Q (.block id k) .normal s := h
theorem Fin.block_ret {id : Nat} (h : Fin E n Q k .ret s) : Fin E n Q (.block id k) .ret s := h
theorem Fin.block_pan {id : Nat} {v : AVal} (h : Fin E n Q k (.pan v) s) : Fin E n Q (.block id k) (.pan v) s := h
theorem Fin.block_exit {id : Nat} (h : Fin E n Q k .normal s) : Fin E n Q (.block id k) (.exit id) s := by
  show (if id = id then _ else _)
  rw [if_pos rfl]; exact h
theorem Fin.block_other {id id' : Nat} (hne : (id' == id) = false) (h : Fin E n Q k (.exit id') s) : Fin E n Q (.block id k) (.exit id') s := by
  show (if id' = id then _ else _)
  rw [if_neg (by simpa using hne)]; exact h
theorem Fin.tmp {t : Tmp} {T : Tmps} {M : Mem} {x y : AVal} (h : fz allK M (T t) = x) (hs : x.stb = true) (hsub : sub1 x y) : Fin E n (FnQ E.TE [.tmp t] (.ret y)) .done .ret ⟨T, M⟩ :=
  ⟨[x], by simp [resAll, resOne, h], by simp [stbs, hs], [y], ⟨hsub, trivial⟩, rfl⟩
theorem Fin.tmp' {t : Tmp} {T : Tmps} {M : Mem} {x : AVal} (h : fz allK M (T t) = x) (hs : x.stb = true) : Fin E n (FnQ E.TE [.tmp t] (.ret x)) .done .ret ⟨T, M⟩ := Fin.tmp h hs (.inl rfl)
theorem Fin.nil {t : Tmp} {T : Tmps} {M : Mem} {sz : Nat} (h : T t = .nil) : Fin E n (FnQ E.TE [.tmp t] (.ret (.sl sz []))) .done .ret ⟨T, M⟩ := Fin.tmp (x := .nil) (by rw [h]; rfl) rfl (.inr ⟨rfl, sz, rfl⟩)
theorem Fin.two {t u : Tmp} {T : Tmps} {M : Mem} {x x' y y' : AVal} (h : fz allK M (T t) = x) (hs : x.stb = true) (h' : fz allK M (T u) = x') (hs' : x'.stb = true) (hsub : sub1 x y) (hsub' : sub1 x' y') : Fin E n (FnQ E.TE [.tmp t, .tmp u] (.ret (.tup [y, y']))) .done .ret ⟨T, M⟩ :=
  ⟨[x, x'], by simp [resAll, resOne, h, h'], by simp [stbs, hs, hs'], [y, y'], ⟨hsub, hsub', trivial⟩, rfl⟩
theorem Fin.all {rs : List ResultVar} {xs : List AVal} {y : AVal} (h : resAll E.TE s rs = some xs) (hs : stbs xs = true) (hy : y = outOf xs) : Fin E n (FnQ E.TE rs (.ret y)) .done .ret s :=
  ⟨xs, h, hs, xs, subs_refl xs, by rw [hy]⟩
end
section
variable {E : Env} {d : Bool} {RK : Option (List Nat × (Nat → Bool))} {Q : Ex → AS → Prop} {r : List SOp} {T : Tmps} {M : Mem} {s : AS} {dst : Option Tmp} {op : Op}
def plainOp : Op → Bool
  | .call ⟨.value _, _, _⟩ => false
  | .panic _ => false
  | _ => true
def dchk (d : Bool) (RK : Option (List Nat × (Nat → Bool))) (dst : Option Tmp) (op : Op) (T : Tmps) (ups : List (Nat × ABlk)) : Bool :=
  (!d || clsO (RK.map (·.1)) dst op != .r || ups.isEmpty) && rkOk RK dst op T
theorem dchk_text {dst : Option Tmp} {op : Op} {T : Tmps} {ups : List (Nat × ABlk)} : dchk false none dst op T ups = true := rfl
theorem step_of {v : AVal} {ups : List (Nat × ABlk)} (hp : plainOp op = true) (h : opS E.TE E.EQ s dst op = some (v, ups)) (hc : dchk d RK dst op s.T ups = true)
    {g : Option (Option Tmp × Bool)} {K : AS → Prop} (k : K (AS.put ⟨s.T, ap s.M ups⟩ dst v)) : stepS E d RK ⟨dst, op, g⟩ s Q K := by
  unfold dchk at hc
  simp only [Bool.and_eq_true] at hc
  have hc1 : d = true → clsO (RK.map (·.1)) dst op = .r → ups = [] := fun hd hr => by
    have := hc.1
    simpa [hd, hr] using this
  refine .inl ?_
  unfold stepM
  split
  · rename_i ho
    simp only at ho
    rw [ho] at hp
    simp [plainOp] at hp
  · rename_i ho
    simp only at ho
    rw [ho] at hp
    simp [plainOp] at hp
  · simp only [h]
    exact ⟨⟨hc1, hc.2⟩, k⟩
theorem awp_nil (h : Q .normal s) : awpOps E d RK Q [] s := h
theorem awp_nilK {n : Nat} {Q : Ex → AS → Prop} {k : Kont} (h : Fin E n Q k .normal s) : awpOps E d RK (KQ E n Q k) [] s := h
theorem awp_op {v : AVal} {ups : List (Nat × ABlk)} (hp : plainOp op = true) (h : opS E.TE E.EQ ⟨T, M⟩ dst op = some (v, ups)) (hc : dchk d RK dst op T ups = true)
    (k : awpOps E d RK Q r (AS.put ⟨T, ap M ups⟩ dst v)) : awpOps E d RK Q (⟨dst, op, none⟩ :: r) ⟨T, M⟩ := step_of hp h hc k
theorem awp_v {t : Tmp} {v : AVal} (hp : plainOp op = true) (h : opS E.TE E.EQ ⟨T, M⟩ (some t) op = some (v, [])) (hc : dchk d RK (some t) op T [] = true)
    (k : awpOps E d RK Q r ⟨upd T t v, M⟩) : awpOps E d RK Q (⟨some t, op, none⟩ :: r) ⟨T, M⟩ := step_of hp h hc k
theorem awp_k {t : Tmp} {v : AVal} {j : Nat} {b : ABlk} (hp : plainOp op = true) (h : opS E.TE E.EQ ⟨T, M⟩ (some t) op = some (v, [(j, b)])) (hc : dchk d RK (some t) op T [(j, b)] = true)
    (k : awpOps E d RK Q r ⟨upd T t v, upd M j (some b)⟩) : awpOps E d RK Q (⟨some t, op, none⟩ :: r) ⟨T, M⟩ := step_of hp h hc k
theorem awp_k2 {t : Tmp} {v : AVal} {j j' : Nat} {b b' : ABlk} (hp : plainOp op = true) (h : opS E.TE E.EQ ⟨T, M⟩ (some t) op = some (v, [(j, b), (j', b')])) (hc : dchk d RK (some t) op T [(j, b), (j', b')] = true)
    (k : awpOps E d RK Q r ⟨upd T t v, upd (upd M j (some b)) j' (some b')⟩) : awpOps E d RK Q (⟨some t, op, none⟩ :: r) ⟨T, M⟩ := step_of hp h hc k
theorem awp_s {v : AVal} {j : Nat} {b : ABlk} (hp : plainOp op = true) (h : opS E.TE E.EQ ⟨T, M⟩ none op = some (v, [(j, b)])) (hc : dchk d RK none op T [(j, b)] = true)
    (k : awpOps E d RK Q r ⟨T, upd M j (some b)⟩) : awpOps E d RK Q (⟨none, op, none⟩ :: r) ⟨T, M⟩ := step_of hp h hc k
theorem awp_s2 {v : AVal} {j j' : Nat} {b b' : ABlk} (hp : plainOp op = true) (h : opS E.TE E.EQ ⟨T, M⟩ none op = some (v, [(j, b), (j', b')])) (hc : dchk d RK none op T [(j, b), (j', b')] = true)
    (k : awpOps E d RK Q r ⟨T, upd (upd M j (some b)) j' (some b')⟩) : awpOps E d RK Q (⟨none, op, none⟩ :: r) ⟨T, M⟩ := step_of hp h hc k
theorem awp_n {v : AVal} (hp : plainOp op = true) (h : opS E.TE E.EQ ⟨T, M⟩ none op = some (v, [])) (hc : dchk d RK none op T [] = true)
    (k : awpOps E d RK Q r ⟨T, M⟩) : awpOps E d RK Q (⟨none, op, none⟩ :: r) ⟨T, M⟩ := step_of hp h hc k
theorem awp_yes {t : Tmp} {b : Bool} (hT : s.T t = .bool b) (h : awpOps E d RK Q (⟨dst, op, none⟩ :: r) s) : awpOps E d RK Q (⟨dst, op, some (some t, b)⟩ :: r) s := by
  simp only [awpOps, wantS, hT] at h ⊢
  exact ⟨fun _ => h, fun hb => absurd hb (by cases b <;> simp)⟩
theorem awp_no {t : Tmp} {b : Bool} (hT : s.T t = .bool !b) (h : awpOps E d RK Q r (AS.put s dst (.tup []))) : awpOps E d RK Q (⟨dst, op, some (some t, b)⟩ :: r) s := by
  simp only [awpOps, wantS, hT]
  exact ⟨fun hb => absurd hb (by cases b <;> simp), fun _ => h⟩
theorem awp_tup {t : Tmp} {b : Bool} {l : List AVal} (hT : s.T t = .tup l) (h : awpOps E d RK Q r (AS.put s dst (.tup []))) : awpOps E d RK Q (⟨dst, op, some (some t, b)⟩ :: r) s := by
  simp only [awpOps, wantS, hT]
  exact h
theorem awp_if {t : Tmp} {b : Bool} (c : Bool) (hT : s.T t = .bool c) (h1 : c = b → awpOps E d RK Q (⟨dst, op, none⟩ :: r) s) (h2 : c = (!b) → awpOps E d RK Q r (AS.put s dst (.tup []))) :
    awpOps E d RK Q (⟨dst, op, some (some t, b)⟩ :: r) s := by
  simp only [awpOps, wantS, hT] at h1 ⊢
  exact ⟨h1, h2⟩
theorem awp_call {t : Option Tmp} {x : Operand} {args : Array Operand} {ts : Array TypeId} (h : callS E.P d RK ⟨T, M⟩ x args (callK (awpOps E d RK Q r) T t) (callQ Q T)) :
    awpOps E d RK Q (⟨t, .call ⟨.value x, args, ts⟩, none⟩ :: r) ⟨T, M⟩ := .inl h
theorem awp_pure {t : Tmp} {x : Operand} {args : Array Operand} {ts : Array TypeId} {f : FuncId} {caps l : List AVal} {v : AVal} (hf : ev T x = .fn f caps)
    (hl : (evs T args.toList ++ caps).map (fz (fun _ => false) M) = l) (hs : stbs l = true) (he : Ev E.P f l (.ret v)) (k : awpOps E d RK Q r ⟨upd T t v, M⟩) :
    awpOps E d RK Q (⟨some t, .call ⟨.value x, args, ts⟩, none⟩ :: r) ⟨T, M⟩ := awp_call (callS_pure hf hl hs he k)
theorem awp_pure_n {x : Operand} {args : Array Operand} {ts : Array TypeId} {f : FuncId} {caps l : List AVal} {v : AVal} (hf : ev T x = .fn f caps)
    (hl : (evs T args.toList ++ caps).map (fz (fun _ => false) M) = l) (hs : stbs l = true) (he : Ev E.P f l (.ret v)) (k : awpOps E d RK Q r ⟨T, M⟩) :
    awpOps E d RK Q (⟨none, .call ⟨.value x, args, ts⟩, none⟩ :: r) ⟨T, M⟩ := awp_call (callS_pure hf hl hs he k)
theorem awp_lend {t : Tmp} {x : Operand} {args : Array Operand} {ts : Array TypeId} (K : Nat → Bool) {f : FuncId} {caps l : List AVal} {v : AVal} (hf : ev T x = .fn f caps)
    (hl : (evs T args.toList ++ caps).map (fz K M) = l) (hs : stbs l = true) (he : Ev E.P f l (.ret v)) (hv : v.flt = true) (hr : RK = none) (k : awpOps E d RK Q r ⟨upd T t v, M⟩) :
    awpOps E d RK Q (⟨some t, .call ⟨.value x, args, ts⟩, none⟩ :: r) ⟨T, M⟩ :=
  awp_call (callS_ret K hf hl hs he ⟨fun _ => .inl hv, fun h => by rw [hr] at h; cases h⟩ (by rw [if_pos hv]; exact k))
theorem awp_give {t : Tmp} {x : Operand} {args : Array Operand} {ts : Array TypeId} (K : Nat → Bool) {f : FuncId} {caps l : List AVal} {v : AVal} (hf : ev T x = .fn f caps)
    (hl : (evs T args.toList ++ caps).map (fz K M) = l) (hs : stbs l = true) (he : Ev E.P f l (.ret v)) (hv : v.flt = false) (k : awpOps E false none Q r ⟨upd T t v, kill K M⟩) :
    awpOps E false none Q (⟨some t, .call ⟨.value x, args, ts⟩, none⟩ :: r) ⟨T, M⟩ :=
  awp_call (callS_ret K hf hl hs he ⟨fun h => absurd h (by simp), fun h => absurd h (by simp)⟩ (by rw [if_neg (by rw [hv]; simp)]; exact k))
theorem awp_back {t : Tmp} {x : Operand} {args : Array Operand} {ts : Array TypeId} (p j : Nat) {f : FuncId} {e sz : Nat} {xs args' ys : List AVal} (hf : ev T x = .fn f []) (hp : (evs T args.toList)[p]? = some (.os j e))
    (hk : M j = some (.arr e sz xs)) (ha : ((evs T args.toList).map (fz (fun _ => false) M)).set p .undef = args') (hst : stbs args' = true) (hxs : stbs xs = true) (hys : stbs ys = true)
    (he : EvOwn E.P f args' p sz xs true .undef ys) (k : awpOps E false none Q r ⟨upd T t (.os j (e + 1)), upd M j (some (.arr (e + 1) sz ys))⟩) :
    awpOps E false none Q (⟨some t, .call ⟨.value x, args, ts⟩, none⟩ :: r) ⟨T, M⟩ := awp_call (callS_back p j hf hp hk ha hst hxs hys he k)
theorem awp_turn {t : Tmp} {x : Operand} {args : Array Operand} {ts : Array TypeId} (p j : Nat) {f : FuncId} {e sz : Nat} {xs args' ys : List AVal} {v : AVal} (hf : ev T x = .fn f []) (hp : (evs T args.toList)[p]? = some (.os j e))
    (hk : M j = some (.arr e sz xs)) (ha : ((evs T args.toList).map (fz (fun _ => false) M)).set p .undef = args') (hst : stbs args' = true) (hxs : stbs xs = true) (hys : stbs ys = true) (hr : v.stb = true)
    (he : EvOwn E.P f args' p sz xs false v ys) (k : awpOps E false none Q r ⟨upd T t v, upd M j (some (.arr e sz ys))⟩) :
    awpOps E false none Q (⟨some t, .call ⟨.value x, args, ts⟩, none⟩ :: r) ⟨T, M⟩ := awp_call (callS_inplace p j hf hp hk ha hst hxs hys hr he k)
theorem awp_hook {posts : AVal → Mem → Prop} (h : Hook E.P ⟨T, M⟩ op posts) (k : ∀ v M', posts v M' → awpOps E false none Q r (AS.put ⟨T, M'⟩ dst v)) : awpOps E false none Q (⟨dst, op, none⟩ :: r) ⟨T, M⟩ :=
  .inr (.inl ⟨rfl, posts, h, k⟩)
theorem awp_new {t : Tmp} {x : Operand} {args : Array Operand} {ts : Array TypeId} {f : FuncId} {caps l cs : List AVal} (hf : ev T x = .fn f caps)
    (hl : (evs T args.toList ++ caps).map (fz (fun _ => false) M) = l) (hs : stbs l = true) (he : EvNew E.P f l cs) (hM : M t = none) (k : awpOps E d none Q r ⟨upd T t (.ptr t 0), upd M t (some (.cells cs))⟩) :
    awpOps E d none Q (⟨some t, .call ⟨.value x, args, ts⟩, none⟩ :: r) ⟨T, M⟩ :=
  .inr (.inr ⟨rfl, x, args, ts, f, caps, cs, t, rfl, hf, by rw [hl]; exact hs, by rw [hl]; exact he, rfl, hM, k⟩)
theorem Hook.nil_eq {P : Program} {TE : TyE} (hT : TyOk P TE) {t u : TypeId} {x : Operand} {sz : Nat} {e : TypeId} {s1 b1 : Nat} {z : Value} (ht : TE t = some ⟨.slice e, s1, b1, z⟩) (hx : ev s.T x = .sl sz []) :
    Hook P s (.binOp .eql t x (.const (.slice none 0 0)) u) (fun v M' => M' = s.M ∧ ∃ b, v = .bool b) := by
  intro n B G a w hR o ho K Q hK
  have hv := hR.ev x
  rw [hx] at hv
  obtain ⟨b0, hrun⟩ : ∃ b, (execOp a.eval o).run P w = .ok (.value (.bool b)) w := by
    unfold execOp
    rw [ho]
    obtain ⟨d, inf, q1, q2, _⟩ := hT t _ ht
    have hs : ∃ base len cap, a.eval x = .slice base len cap := by
      generalize a.eval x = q at hv
      cases hv with
      | slnil => exact ⟨_, _, _, rfl⟩
      | slemp => exact ⟨_, _, _, rfl⟩
      | sl _ _ b off cap f _ _ _ _ _ _ => exact ⟨_, _, _, rfl⟩
    obtain ⟨base, len, cap, hs⟩ := hs
    have hd : d = .slice e := by cases d <;> simp [TD.of] at q2; rw [q2]
    subst hd
    have hc : a.eval (.const (.slice none 0 0)) = .slice none 0 0 := rfl
    have hb : ∃ r, (Op.equalIn (9999 + 1) t (.slice base len cap) (.slice none 0 0)).run P w = .ok r w := by
      cases base with
      | none => exact ⟨true, eqS q1 w _ _ _ _ _ _ _ _ (.inl ⟨rfl, rfl⟩)⟩
      | some q => exact ⟨false, eqS q1 w _ _ _ _ _ _ _ _ (.inr ⟨rfl, rfl, rfl⟩)⟩
    obtain ⟨r, hr⟩ := hb
    obtain ⟨g1, _⟩ := both_of (t := t) (ox := x) (oy := .const (.slice none 0 0)) (x' := .slice base len cap) (y' := .slice none 0 0) (fun op => by cases op <;> rfl) rfl rfl hr
    refine ⟨r, ?_⟩
    simp only [hs, hc]
    rw [Sem.run_bind, g1]
    rfl
  unfold Oper.wp
  rw [hrun]
  exact hK (.bool b0) (.bool b0) s.M w G ⟨rfl, b0, rfl⟩ (.refl G w) hR (.bool b0)
end
end Go.Proofs.Ytdmfjkhbodbgoaa.Avm

namespace Go.Proofs.Ytdmfjkhbodbgoaa.Avm
def tms : List (Nat × AVal) → Tmps
  | [] => fun _ => .undef
  | (k, v) :: r => upd (tms r) k v
theorem tms_or {T : Tmps} : ∀ {l : List (Nat × AVal)}, (∀ p ∈ l, T p.1 = p.2) → ∀ t, tms l t = T t ∨ tms l t = .undef
  | [], _, t => .inr rfl
  | (k, v) :: r, h, t => by
    simp only [tms]
    by_cases ht : t = k
    · subst ht
      rw [upd_same]
      exact .inl (h (t, v) (by simp)).symm
    · rw [upd_ne _ _ ht]
      exact tms_or (fun p hp => h p (by simp [hp])) t
theorem tms_no {K : Nat → Bool} : ∀ {l : List (Nat × AVal)}, (∀ p ∈ l, p.2.no K = true) → ∀ t, (tms l t).no K = true
  | [], _, t => rfl
  | (k, v) :: r, h, t => by
    simp only [tms]
    by_cases ht : t = k
    · subst ht
      rw [upd_same]
      exact h (t, v) (by simp)
    · rw [upd_ne _ _ ht]
      exact tms_no (fun p hp => h p (by simp [hp])) t
def allT (T : Tmps) : List (Nat × AVal) → Prop
  | [] => True
  | (k, v) :: r => T k = v ∧ allT T r
theorem allT_of {T : Tmps} : ∀ {l : List (Nat × AVal)}, allT T l → ∀ p ∈ l, T p.1 = p.2
  | [], _, p, hp => by cases hp
  | (k, v) :: r, h, p, hp => by
    rcases List.mem_cons.1 hp with rfl | hp
    · exact h.1
    · exact allT_of h.2 p hp
def allNo (K : Nat → Bool) : List (Nat × AVal) → Prop
  | [] => True
  | (_, v) :: r => v.no K = true ∧ allNo K r
theorem allNo_of {K : Nat → Bool} : ∀ {l : List (Nat × AVal)}, allNo K l → ∀ p ∈ l, p.2.no K = true
  | [], _, p, hp => by cases hp
  | (k, v) :: r, h, p, hp => by
    rcases List.mem_cons.1 hp with rfl | hp
    · exact h.1
    · exact allNo_of h.2 p hp
theorem no_of_stb {K : Nat → Bool} {x : AVal} (h : x.stb = true) : x.no K = true := by
  cases x <;> first | exact h | (simp [AVal.stb] at h)
theorem Wk.to {n : Nat} {T : Tmps} {M M' : Mem} (K : Nat → Bool) (l : List (Nat × AVal)) (h : allT T l) (hn : allNo K l) (hM : ∀ k blk, K k = false → M k = some blk → blk.no K = true)
    (hM' : M' = fun k => if K k = true then none else M k) : Wk n ⟨T, M⟩ ⟨tms l, M'⟩ :=
  (Wk.temps (tms_or (allT_of h))).trans (Wk.drop K (tms_no (allNo_of hn)) hM hM')
theorem Wk.clean {n : Nat} {T : Tmps} {M : Mem} (l : List (Nat × AVal)) (h : allT T l) (hn : allNo (fun _ => true) l) : Wk n ⟨T, M⟩ ⟨tms l, NoM⟩ :=
  Wk.to (fun _ => true) l h hn (fun k blk hk => by cases hk) (by funext k; simp [NoM])
theorem Wk.keep {n : Nat} {T : Tmps} {M : Mem} (l : List (Nat × AVal)) (h : allT T l) : Wk n ⟨T, M⟩ ⟨tms l, M⟩ := Wk.temps (tms_or (allT_of h))
def mms : List (Nat × ABlk) → Mem
  | [] => NoM
  | (k, v) :: r => upd (mms r) k (some v)
def allM (M : Mem) : List (Nat × ABlk) → Prop
  | [] => True
  | (k, v) :: r => M k = some v ∧ allM M r
def blkNo (K : Nat → Bool) : List (Nat × ABlk) → Prop
  | [] => True
  | (_, v) :: r => v.no K = true ∧ blkNo K r
def offL : List (Nat × ABlk) → Nat → Bool
  | [], _ => true
  | (j, _) :: r, k => !(k == j) && offL r k
theorem mms_off {M : Mem} : ∀ {l : List (Nat × ABlk)}, allM M l → ∀ k, mms l k = if offL l k = true then none else M k
  | [], _, k => by simp [mms, offL, NoM]
  | (j, b) :: r, h, k => by
    simp only [mms, offL]
    by_cases hk : k = j
    · subst hk
      simp [upd_same, h.1]
    · rw [upd_ne _ _ hk, mms_off h.2 k]
      simp [hk]
theorem blkNo_of {K : Nat → Bool} {M : Mem} : ∀ {l : List (Nat × ABlk)}, allM M l → blkNo K l → ∀ k blk, offL l k = false → M k = some blk → blk.no K = true
  | [], _, _, k, blk, h, _ => by simp [offL] at h
  | (j, b) :: r, hm, hn, k, blk, h, hk => by
    by_cases hkj : k = j
    · subst hkj
      rw [hm.1] at hk
      cases hk
      exact hn.1
    · refine blkNo_of hm.2 hn.2 k blk ?_ hk
      simpa [offL, hkj] using h
theorem Wk.toL {n : Nat} {T : Tmps} {M : Mem} (l : List (Nat × AVal)) (m : List (Nat × ABlk)) (h : allT T l) (hm : allM M m) (hn : allNo (offL m) l) (hb : blkNo (offL m) m) : Wk n ⟨T, M⟩ ⟨tms l, mms m⟩ :=
  Wk.to (offL m) l h hn (fun k blk hk hM => blkNo_of hm hb k blk hk hM) (funext fun k => mms_off hm k)
theorem Wk.own_cells {n : Nat} {T : Tmps} {M : Mem} {k : Nat} {cs cs' : List AVal} (hk : M k = some (.cells cs)) (hl : cs'.length = cs.length) (h : ∀ (i : Nat) (x y : AVal), cs[i]? = some x → cs'[i]? = some y → y = x ∨ (x = .nil ∧ ∃ sz, y = .own sz [])) :
    Wk n ⟨T, M⟩ ⟨T, upd M k (some (.cells cs'))⟩ := by
  intro B G a w hR
  obtain ⟨c, el, b1, b2, b3, b4, b5⟩ := hR.mem k _ hk
  have hA : Adv G w G w := .refl G w
  refine ⟨G, hR.update hA k (.cells cs') (by show Succ (M k) _; rw [hk]; trivial) (fun _ _ _ => ⟨rfl, rfl⟩) (fun b key _ _ ho _ => ⟨rfl, ho⟩) hR.ol ?_, hA⟩
  have hD : ∀ j e, Dm M j e → Dm (upd M k (some (.cells cs'))) j e := fun j e => Dm_upd (by rw [hk]; trivial)
  have hw : ∀ b, b < w.heap.size → ¬ B b → G.ow b = none → w.heap[b]? = w.heap[b]? ∧ ¬ B b ∧ G.ow b = none := fun b _ hn ho => ⟨rfl, hn, ho⟩
  refine ⟨c, el, b1, b2, b3, by rw [b4, hl], fun i y hy => ?_⟩
  have hlt : i < cs.length := by
    rw [← hl]
    rcases Nat.lt_or_ge i cs'.length with h' | h'
    · exact h'
    · rw [List.getElem?_eq_none h'] at hy; cases hy
  obtain ⟨u, hu, hr⟩ := b5 i cs[i] (by simp [hlt])
  refine ⟨u, hu, ?_⟩
  rcases h i cs[i] y (by simp [hlt]) hy with he | ⟨he, sz, rfl⟩
  · rw [he]
    generalize cs[i] = x at hr
    cases x with
    | own sz xs => exact OwnAt.mono hD (fun _ _ _ => ⟨rfl, rfl⟩) hw (fun b _ hb2 hb3 => ⟨rfl, hb2, hb3⟩) hr
    | hole => trivial
    | _ => exact VR.mono hD (fun _ _ _ => ⟨rfl, rfl⟩) hw hr
  · rw [he] at hr
    have hu' : u = .slice none 0 0 := by
      have hr' : VR (Dm M) G B w .nil u := hr
      cases hr'
      rfl
    exact .inl ⟨hu', rfl⟩
def LoopQ (n : Nat) (s2 : AS) (Q : Ex → AS → Prop) : Ex → AS → Prop := Ex.then (fun s' => Wk n s' s2) Q
section
variable {E : Env} {n : Nat} {Q : Ex → AS → Prop} {k : Kont} {s : AS} {x : SC}
theorem Fin.next {s2 : AS} {Q' : Ex → AS → Prop} (h : Wk n s s2) : Fin E n (LoopQ n s2 Q') .done .normal s := h
theorem Fin.out {s2 : AS} {id : Nat} (h : Fin E n Q k (.exit id) s) : Fin E n (LoopQ n s2 (KQ E n Q k)) .done (.exit id) s := h
theorem Fin.out_ret {s2 : AS} (h : Fin E n Q k .ret s) : Fin E n (LoopQ n s2 (KQ E n Q k)) .done .ret s := h
theorem Fin.out_pan {s2 : AS} {v : AVal} (h : Fin E n Q k (.pan v) s) : Fin E n (LoopQ n s2 (KQ E n Q k)) .done (.pan v) s := h
theorem Run.range (len : Nat) (S : Nat → AS) (h0 : Wk n s (S 0)) (round : ∀ i, i < len → Run E n (LoopQ n (S (i + 1)) (KQ E n Q k)) x .done (S i))
    (last : Run E n (Ex.then (fun _ => False) (KQ E n Q k)) x .done (S len)) : Run E n Q (.loop x) k s := by
  refine Run.wk h0 (Run.loop (fun m s => ∃ i, i ≤ len ∧ m = len - i ∧ s = S i) (m0 := len) ⟨0, Nat.zero_le _, rfl, rfl⟩ fun m s ⟨i, hi, hm, hs⟩ => ?_)
  subst hs
  by_cases hl : i < len
  · refine AW.mono (round i hl) fun e s' h => ?_
    cases e with
    | normal => exact ⟨len - (i + 1), S (i + 1), by omega, h, i + 1, hl, rfl, rfl⟩
    | _ => exact h
  · have : i = len := by omega
    subst this
    refine AW.mono last fun e s' h => ?_
    cases e with
    | normal => exact h.elim
    | _ => exact h
theorem Fin.last {id : Nat} (h : Fin E n Q k (.exit id) s) : Fin E n (Ex.then (fun _ => False) (KQ E n Q k)) .done (.exit id) s := h
end
end Go.Proofs.Ytdmfjkhbodbgoaa.Avm

namespace Go.Proofs.Ytdmfjkhbodbgoaa.Avm
theorem wrap_ok {x : Int} (h : -9223372036854775808 ≤ x ∧ x ≤ 9223372036854775807) : IntKind.i64.wrap x = x := by
  simp only [IntKind.wrap, IntKind.bits, IntKind.signed]
  simp
  omega
theorem wrap_succ {i : Nat} (h : i < 9223372036854775807) : IntKind.i64.wrap ((i : Int) + 1) = ((i + 1 : Nat) : Int) := by rw [wrap_ok (by omega)]; omega
theorem wrap_pred {i : Nat} (h : 1 ≤ i ∧ i ≤ 9223372036854775807) : IntKind.i64.wrap ((i : Int) - 1) = ((i - 1 : Nat) : Int) := by rw [wrap_ok (by omega)]; omega
theorem wrap_add {i j : Nat} (h : i + j ≤ 9223372036854775807) : IntKind.i64.wrap ((i : Int) + j) = ((i + j : Nat) : Int) := by rw [wrap_ok (by omega)]; omega
theorem wrap_half {n : Nat} (h : n ≤ 9223372036854775807) : IntKind.i64.wrap ((n : Int).tdiv 2) = ((n / 2 : Nat) : Int) := by
  have e : (n : Int).tdiv 2 = ((n / 2 : Nat) : Int) := by rw [Int.ofNat_tdiv]; rfl
  rw [e, wrap_ok (by omega)]
theorem dT {p : Prop} [Decidable p] (h : p) : decide p = true := decide_eq_true h
theorem dF {p : Prop} [Decidable p] (h : ¬ p) : decide p = false := decide_eq_false h
theorem ltT {a b : Int} (h : a < b) : (a < b) = True := eq_true h
theorem ltF {a b : Int} (h : ¬ a < b) : (a < b) = False := eq_false h
theorem leT {a b : Int} (h : a ≤ b) : (a ≤ b) = True := eq_true h
theorem leF {a b : Int} (h : ¬ a ≤ b) : (a ≤ b) = False := eq_false h
theorem ltTN {a b : Nat} (h : a < b) : (a < b) = True := eq_true h
theorem ltFN {a b : Nat} (h : ¬ a < b) : (a < b) = False := eq_false h
theorem leTN {a b : Nat} (h : a ≤ b) : (a ≤ b) = True := eq_true h
theorem leFN {a b : Nat} (h : ¬ a ≤ b) : (a ≤ b) = False := eq_false h
class Enc (α : Type) where
  enc : α → AVal
  stb : ∀ x, (enc x).stb = true
def encL {α : Type} [Enc α] (l : List α) : List AVal := l.map Enc.enc
section
variable {α : Type} [Enc α]
theorem encL_len (l : List α) : (encL l).length = l.length := by simp [encL]
theorem encL_stb (l : List α) : stbs (encL l) = true := stbs_map Enc.stb
theorem encL_nil : encL ([] : List α) = [] := rfl
theorem encL_cons (x : α) (l : List α) : encL (x :: l) = Enc.enc x :: encL l := rfl
theorem encL_append (l m : List α) : encL (l ++ m) = encL l ++ encL m := by simp [encL]
theorem encL_get {l : List α} {i : Nat} (h : i < l.length) : (encL l)[i]? = some (Enc.enc l[i]) := by simp [encL, h]
theorem encL_take (l : List α) (i : Nat) : (encL l).take i = encL (l.take i) := by simp [encL]
theorem encL_drop (l : List α) (i : Nat) : (encL l).drop i = encL (l.drop i) := by simp [encL]
theorem encL_snoc (l : List α) (x : α) : encL l ++ [Enc.enc x] = encL (l ++ [x]) := by simp [encL]
theorem encL_set (l : List α) (i : Nat) (x : α) : (encL l).set i (Enc.enc x) = encL (l.set i x) := by simp [encL, List.map_set]
end
def LoopW {σ : Type} (n : Nat) (S : σ → AS) (ok : σ → Prop) (Q : Ex → AS → Prop) : Ex → AS → Prop := Ex.then (fun s' => ∃ y, ok y ∧ Wk n s' (S y)) Q
section
variable {E : Env} {n : Nat} {Q : Ex → AS → Prop} {k : Kont} {s : AS} {x : SC} {σ : Type} {S : σ → AS} {ok : σ → Prop}
theorem Run.while (S : σ → AS) (I : σ → Prop) (m : σ → Nat) (x0 : σ) (h0 : Wk n s (S x0)) (hI : I x0)
    (round : ∀ y, I y → Run E n (LoopW n S (fun z => I z ∧ m z < m y) (KQ E n Q k)) x .done (S y)) : Run E n Q (.loop x) k s := by
  refine Run.wk h0 (Run.loop (fun c s => ∃ y, I y ∧ m y = c ∧ s = S y) (m0 := m x0) ⟨x0, hI, rfl, rfl⟩ fun c s ⟨y, hy, hm, hs⟩ => ?_)
  subst hs
  refine AW.mono (round y hy) fun e s' h => ?_
  cases e with
  | normal =>
    obtain ⟨z, ⟨h1, h2⟩, h3⟩ := h
    exact ⟨m z, S z, by omega, h3, z, h1, rfl, rfl⟩
  | _ => exact h
theorem Fin.nextW (y : σ) {Q' : Ex → AS → Prop} (hy : ok y) (h : Wk n s (S y)) : Fin E n (LoopW n S ok Q') .done .normal s := ⟨y, hy, h⟩
theorem Fin.outW {id : Nat} (h : Fin E n Q k (.exit id) s) : Fin E n (LoopW n S ok (KQ E n Q k)) .done (.exit id) s := h
theorem Fin.outW_ret (h : Fin E n Q k .ret s) : Fin E n (LoopW n S ok (KQ E n Q k)) .done .ret s := h
theorem awp_op2 {d : Bool} {RK : Option (List Nat × (Nat → Bool))} {Q : Ex → AS → Prop} {r : List SOp} {T : Tmps} {M : Mem} {dst : Option Tmp} {op : Op} {v : AVal} {ups : List (Nat × ABlk)} {s' : AS} (hp : plainOp op = true) (h : opS E.TE E.EQ ⟨T, M⟩ dst op = some (v, ups))
    (hc : dchk d RK dst op T ups = true) (hs : AS.put ⟨T, ap M ups⟩ dst v = s') (k : awpOps E d RK Q r s') : awpOps E d RK Q (⟨dst, op, none⟩ :: r) ⟨T, M⟩ := awp_op hp h hc (hs ▸ k)
end
end Go.Proofs.Ytdmfjkhbodbgoaa.Avm

namespace Go.Proofs.Ytdmfjkhbodbgoaa.Avm
theorem arr_no {K : Nat → Bool} {e sz : Nat} {xs : List AVal} (h : stbs xs = true) : (ABlk.arr e sz xs).no K = true := by
  simp only [ABlk.no, List.all_eq_true]
  intro x hx
  exact no_of_stb (stbs_flat h x hx)
theorem evs_nil' (T : Tmps) : evs T [] = [] := rfl
theorem evs_cons' (T : Tmps) (x : Operand) (l : List Operand) : evs T (x :: l) = ev T x :: evs T l := rfl
theorem evp_nil' (T : Tmps) : evp T [] = [] := rfl
theorem evp_cons' (T : Tmps) (x : Nat × Operand) (l : List (Nat × Operand)) : evp T (x :: l) = (x.1, ev T x.2) :: evp T l := rfl
theorem omap_ev_none (T : Tmps) : (none : Option Operand).map (ev T) = none := rfl
theorem omap_ev_some (T : Tmps) (x : Operand) : (some x).map (ev T) = some (ev T x) := rfl
theorem upd_app {α : Type} (f : Nat → α) (k : Nat) (v : α) (j : Nat) : upd f k v j = if j = k then v else f j := rfl
theorem tms_nil' (j : Nat) : tms [] j = .undef := rfl
theorem tms_cons' (k : Nat) (v : AVal) (r : List (Nat × AVal)) (j : Nat) : tms ((k, v) :: r) j = if j = k then v else tms r j := rfl
theorem mms_nil' (j : Nat) : mms [] j = none := rfl
theorem mms_cons' (k : Nat) (v : ABlk) (r : List (Nat × ABlk)) (j : Nat) : mms ((k, v) :: r) j = if j = k then some v else mms r j := rfl
theorem NoM' (j : Nat) : NoM j = none := rfl
theorem initT' (l : List AVal) (j : Nat) : initT l j = (l[j]?).getD .undef := rfl
theorem ev_tmp' (T : Tmps) (t : Nat) : ev T (.tmp t) = T t := rfl
section
variable {T : Tmps} {M : Mem} {t : Tmp} {v : AVal} {j j' : Nat} {b b' : ABlk}
theorem put_v : AS.put ⟨T, ap M []⟩ (some t) v = ⟨upd T t v, M⟩ := rfl
theorem put_k : AS.put ⟨T, ap M [(j, b)]⟩ (some t) v = ⟨upd T t v, upd M j (some b)⟩ := rfl
theorem put_k2 : AS.put ⟨T, ap M [(j, b), (j', b')]⟩ (some t) v = ⟨upd T t v, upd (upd M j (some b)) j' (some b')⟩ := rfl
theorem put_n : AS.put ⟨T, ap M []⟩ none v = ⟨T, M⟩ := rfl
theorem put_s : AS.put ⟨T, ap M [(j, b)]⟩ none v = ⟨T, upd M j (some b)⟩ := rfl
theorem put_s2 : AS.put ⟨T, ap M [(j, b), (j', b')]⟩ none v = ⟨T, upd (upd M j (some b)) j' (some b')⟩ := rfl
end
class Live (l : List SOp) where
  L : List Nat
class Rd (l : List SOp) where
  K : Nat → Bool
def rstr (L : List Nat) (T : Tmps) : List (Nat × AVal) := L.map fun k => (k, T k)
theorem rstr_nil (T : Tmps) : rstr [] T = [] := rfl
theorem rstr_cons (k : Nat) (L : List Nat) (T : Tmps) : rstr (k :: L) T = (k, T k) :: rstr L T := rfl
theorem rstr_all (T : Tmps) : ∀ L : List Nat, allT T (rstr L T)
  | [] => trivial
  | k :: L => ⟨rfl, rstr_all T L⟩
theorem upd_upd {α : Type} (f : Nat → α) (k : Nat) (v u : α) : upd (upd f k v) k u = upd f k u := by
  funext j
  simp only [upd]
  split <;> rfl
section
variable {E : Env} {n : Nat} {Q : Ex → AS → Prop} {k : Kont} {d : Bool} {T : Tmps} {T' : List (Nat × AVal)} {M M' : Mem}
theorem Run.opsL0 {l l2 : List SOp} (e : l = l2) (L : List Nat) (hT : rstr L T = T') (hM : M = M') (g : awpOps E d none (KQ E n Q k) l2 ⟨tms T', M'⟩) : Run E n Q (.ops d l) k ⟨T, M⟩ := by
  subst hT; subst hM; subst e
  exact Run.wk (Wk.keep (rstr L T) (rstr_all T L)) (Run.ops g)
theorem Run.opsWL0 (K : Nat → Bool) {ws : List Nat} {l l2 : List SOp} (e : l = l2) (L : List Nat) (hT : rstr L T = T') (hM : M = M') (g : awpOps E true (some (ws, K)) (KQ E n Q k) l2 ⟨tms T', M'⟩) : Run E n Q (.opsW ws l) k ⟨T, M⟩ := by
  subst hT; subst hM; subst e
  exact Run.wk (Wk.keep (rstr L T) (rstr_all T L)) (Run.opsW K g)
theorem Run.opsL {l : List SOp} [h : Live l] {o : SOp} {r : List SOp} (hl : l = o :: r) (hT : rstr (Live.L l) T = T') (hM : M = M') (g : awpOps E d none (KQ E n Q k) (o :: r) ⟨tms T', M'⟩) : Run E n Q (.ops d l) k ⟨T, M⟩ := Run.opsL0 hl h.L hT hM g
theorem Run.opsWL (K : Nat → Bool) {ws : List Nat} {l : List SOp} [h : Live l] {o : SOp} {r : List SOp} (hl : l = o :: r) (hT : rstr (Live.L l) T = T') (hM : M = M') (g : awpOps E true (some (ws, K)) (KQ E n Q k) (o :: r) ⟨tms T', M'⟩) : Run E n Q (.opsW ws l) k ⟨T, M⟩ := Run.opsWL0 K hl h.L hT hM g
end
end Go.Proofs.Ytdmfjkhbodbgoaa.Avm

namespace Go.Proofs.Ytdmfjkhbodbgoaa.Avm
def Hyp (p A : Prop) : Prop := p → A
theorem Hyp.of {p A : Prop} (h : p → A) : Hyp p A := h
def GuardG (x : AVal) (b : Bool) (yes no : Prop) : Prop :=
  match x with
  | .bool c => (c = b → yes) ∧ (c = !b → no)
  | .tup _ => no
  | _ => False
section
variable {E : Env} {d : Bool} {RK : Option (List Nat × (Nat → Bool))} {Q : Ex → AS → Prop} {r : List SOp} {T : Tmps} {M : Mem} {s' : AS} {dst : Option Tmp} {op : Op} {A B : Prop}
theorem awp_g {t u : Tmp} {b : Bool} {x : AVal} (hT : T t = x) (h : GuardG x b (awpOps E d RK Q (⟨some u, op, none⟩ :: r) ⟨T, M⟩) (awpOps E d RK Q r ⟨upd T u (.tup []), M⟩)) :
    awpOps E d RK Q (⟨some u, op, some (some t, b)⟩ :: r) ⟨T, M⟩ := by
  simp only [awpOps, wantS, hT]
  unfold GuardG at h
  cases x <;> first | exact h.elim | exact h
theorem awp_g0 {t : Tmp} {b : Bool} {x : AVal} (hT : T t = x) (h : GuardG x b (awpOps E d RK Q (⟨none, op, none⟩ :: r) ⟨T, M⟩) (awpOps E d RK Q r ⟨T, M⟩)) :
    awpOps E d RK Q (⟨none, op, some (some t, b)⟩ :: r) ⟨T, M⟩ := by
  simp only [awpOps, wantS, hT]
  unfold GuardG at h
  cases x <;> first | exact h.elim | exact h
theorem g_tup {l : List AVal} {b : Bool} (h : B) : GuardG (.tup l) b A B := h
theorem g_tt (h : A) : GuardG (.bool true) true A B := ⟨fun _ => h, fun h => by cases h⟩
theorem g_ff (h : A) : GuardG (.bool false) false A B := ⟨fun _ => h, fun h => by cases h⟩
theorem g_tf (h : B) : GuardG (.bool true) false A B := ⟨fun h => (by cases h), fun _ => h⟩
theorem g_ft (h : B) : GuardG (.bool false) true A B := ⟨fun h => (by cases h), fun _ => h⟩
theorem g_splitT {c : Bool} (h1 : Hyp (c = true) A) (h2 : Hyp (c = false) B) : GuardG (.bool c) true A B := ⟨h1, h2⟩
theorem g_splitF {c : Bool} (h1 : Hyp (c = true) B) (h2 : Hyp (c = false) A) : GuardG (.bool c) false A B := ⟨h2, h1⟩
end
def CondG (x : AVal) (A B : Prop) : Prop :=
  match x with
  | .bool c => (c = true → A) ∧ (c = false → B)
  | _ => False
section
variable {E : Env} {n : Nat} {Q : Ex → AS → Prop} {k : Kont} {x y : SC} {s : AS} {A B : Prop}
theorem Run.condG {o : Operand} {v : AVal} (hb : ev s.T o = v) (h : CondG v (Run E n Q x k s) (Run E n Q y k s)) : Run E n Q (.cond o x y) k s := by
  unfold CondG at h
  cases v <;> first | exact h.elim | skip
  exact Run.cond _ hb h.1 h.2
theorem c_t (h : A) : CondG (.bool true) A B := ⟨fun _ => h, fun h => by cases h⟩
theorem c_f (h : B) : CondG (.bool false) A B := ⟨fun h => (by cases h), fun _ => h⟩
theorem c_split {c : Bool} (h1 : Hyp (c = true) A) (h2 : Hyp (c = false) B) : CondG (.bool c) A B := ⟨h1, h2⟩
end
theorem kill_app (K : Nat → Bool) (M : Mem) (j : Nat) : kill K M j = if K j = true then (M j).map (fun _ => .dead) else M j := rfl
end Go.Proofs.Ytdmfjkhbodbgoaa.Avm

namespace Go.Proofs.Ytdmfjkhbodbgoaa.Avm
def Bp := (And.intro (And.intro (And.intro (And.intro @opS.eq_1 @opA.eq_1) (And.intro @evs_nil' (And.intro @evs_cons' @evp_nil'))) (And.intro (And.intro @evp_cons' @omap_ev_none) (And.intro @omap_ev_some (And.intro @upd_app @tms_nil')))) (And.intro (And.intro (And.intro @tms_cons' @mms_nil') (And.intro @mms_cons' (And.intro @NoM' @initT'))) (And.intro (And.intro @kill_app @ev.eq_1) (And.intro @ev.eq_2 (And.intro @ev.eq_3 @ev.eq_4)))))
def Bq := (And.intro (And.intro (And.intro (And.intro (And.intro (And.intro (And.intro @initO.eq_1 @Option.map_some.{0, 0}) (And.intro @Option.map_none.{0, 0} @List.map_cons.{0, 0})) (And.intro (And.intro @List.map_nil.{0, 0} @List.getElem?_cons_zero.{0}) (And.intro @List.getElem?_cons_succ.{0} (And.intro @List.getElem?_nil.{0} @List.all_cons.{0})))) (And.intro (And.intro (And.intro @List.all_nil.{0} @List.length_cons.{0}) (And.intro @List.length_nil.{0} (And.intro @List.take_succ_cons.{0} @List.take_zero.{0}))) (And.intro (And.intro @List.drop_succ_cons.{0} @List.drop_zero.{0}) (And.intro @List.set_cons_zero.{0} (And.intro @List.set_cons_succ.{0} @List.cons_append.{0}))))) (And.intro (And.intro (And.intro (And.intro @List.nil_append.{0} @List.append_nil.{0}) (And.intro @List.toList_toArray.{0} (And.intro @loadA.eq_1 @storeA.eq_1))) (And.intro (And.intro @fieldAddrA.eq_1 @buildA.eq_1) (And.intro @placeS.eq_1 (And.intro @partA.eq_1 @convA.eq_1)))) (And.intro (And.intro (And.intro @lenA.eq_1 @appendA.eq_1) (And.intro @buildSliceA.eq_1 (And.intro @TyI.zeros.eq_1 @TyI.zeroElem.eq_1))) (And.intro (And.intro @TyI.okElem.eq_1 @splice.eq_1) (And.intro @if_true.{0} (And.intro @if_false.{0} @Bool.false_eq_true)))))) (And.intro (And.intro (And.intro (And.intro (And.intro @false_implies @true_implies) (And.intro @implies_true.{0} (And.intro @true_and @and_true))) (And.intro (And.intro @and_self @ne_eq.{0}) (And.intro @not_true (And.intro @not_false_iff @Bool.and_true)))) (And.intro (And.intro (And.intro @Bool.true_and @Bool.and_false) (And.intro @Bool.false_and (And.intro @Bool.or_true @Bool.true_or))) (And.intro (And.intro @Bool.or_false @Bool.false_or) (And.intro @Bool.not_true (And.intro @Bool.not_false @beq_self_eq_true.{0}))))) (And.intro (And.intro (And.intro (And.intro @Nat.mul_one @Nat.le_refl) (And.intro @Nat.zero_add (And.intro @Nat.add_zero @Option.isSome_some.{0}))) (And.intro (And.intro @decide_true @decide_false) (And.intro @pick_bool (And.intro @pick_int @List.replicate_succ.{0})))) (And.intro (And.intro (And.intro @List.replicate_zero.{0} @List.flatMap_cons.{0, 0}) (And.intro @List.flatMap_nil.{0, 0} (And.intro @flat.eq_1 @Array.size_empty.{0}))) (And.intro (And.intro @dchk.eq_1 @List.contains_cons.{0}) (And.intro @List.contains_nil.{0} (And.intro @List.isEmpty_nil.{0} @List.isEmpty_cons.{0}))))))) (And.intro (And.intro (And.intro (And.intro (And.intro (And.intro @Int.toNat_natCast @Int.natCast_nonneg) (And.intro @wrap_half (And.intro @wrap_succ @wrap_pred))) (And.intro (And.intro @wrap_add @wrap_ok) (And.intro @dT (And.intro @dF @ltT)))) (And.intro (And.intro (And.intro @ltF @leT) (And.intro @leF (And.intro @ltTN @ltFN))) (And.intro (And.intro @leTN @leFN) (And.intro @encL_len (And.intro @encL_get @Enc.enc.eq_1))))) (And.intro (And.intro (And.intro (And.intro @Nat.sub_zero @List.length_take.{0}) (And.intro @List.length_drop.{0} (And.intro @List.take_length.{0} @Option.getD.eq_1.{0}))) (And.intro (And.intro @Option.getD.eq_2.{0} @boxA.eq_1) (And.intro @boxA.eq_2 (And.intro @fillA.eq_1 @fillA.eq_2)))) (And.intro (And.intro (And.intro @setP.eq_1 @setP.eq_2) (And.intro @rkOk.eq_1 (And.intro @rkOk.eq_2 @rkOk.eq_3))) (And.intro (And.intro @clsO.eq_1 @clsO.eq_2) (And.intro @Go.Op.operands.eq_1 (And.intro @Go.Op.operands.eq_2 @Go.Op.operands.eq_3)))))) (And.intro (And.intro (And.intro (And.intro (And.intro @Go.Op.operands.eq_4 @Go.Op.operands.eq_5) (And.intro @Go.Op.operands.eq_6 (And.intro @Go.Op.operands.eq_7 @Go.Op.operands.eq_8))) (And.intro (And.intro @Go.Op.operands.eq_9 @Go.Op.operands.eq_10) (And.intro @Go.Op.operands.eq_11 (And.intro @Go.Op.operands.eq_12 @Go.Op.operands.eq_13)))) (And.intro (And.intro (And.intro @Go.Op.operands.eq_14 @Go.Op.operands.eq_15) (And.intro @Go.Op.operands.eq_16 (And.intro @Go.Op.operands.eq_17 @Go.Op.operands.eq_18))) (And.intro (And.intro @Go.Op.operands.eq_19 @Go.Op.operands.eq_20) (And.intro @Go.Op.operands.eq_21 (And.intro @Go.Op.operands.eq_22 @Go.Op.operands.eq_23))))) (And.intro (And.intro (And.intro (And.intro @Go.Op.operands.eq_24 @Go.Op.operands.eq_25) (And.intro @Go.Op.operands.eq_26 (And.intro @Go.Op.operands.eq_27 @Go.Op.operands.eq_28))) (And.intro (And.intro @Go.Op.operands.eq_29 @Go.Op.operands.eq_30) (And.intro @Go.Op.operands.eq_31 (And.intro @Go.Op.operands.eq_32 @Go.Op.operands.eq_33)))) (And.intro (And.intro (And.intro @Go.Op.operands.eq_34 @Go.Op.operands.eq_35) (And.intro @Go.Op.operands.eq_36 (And.intro @Go.Op.operands.eq_37 @Go.Op.operands.eq_38))) (And.intro (And.intro @Go.Op.operands.eq_39 @Go.Op.operands.eq_40) (And.intro @Go.Op.operands.eq_41 (And.intro @Go.Op.operands.eq_42 @Go.Op.operands.eq_43))))))))
def Br := (And.intro (And.intro (And.intro @rstr_nil @rstr_cons) (And.intro @upd_app (And.intro @tms_nil' @tms_cons'))) (And.intro (And.intro @NoM' @initT') (And.intro @List.getElem?_cons_zero.{0} (And.intro @List.getElem?_cons_succ.{0} @List.getElem?_nil.{0}))))
def Bh := (And.intro (And.intro (And.intro @decide_eq_true_eq @decide_eq_false_iff_not) (And.intro @Bool.not_eq_true' @Bool.not_eq_false')) (And.intro (And.intro @Bool.and_eq_true @Bool.or_eq_true) (And.intro @Bool.and_eq_false_iff (And.intro @Bool.or_eq_false_iff @Classical.not_not))))
section
variable {E : Env} {d : Bool} {RK : Option (List Nat × (Nat → Bool))} {Q : Ex → AS → Prop} {r : List SOp} {T : Tmps} {M : Mem} {dst : Option Tmp} {op : Op} {n : Nat} {K : Kont} {x y : SC} {s : AS}
theorem dv {v : AVal} {ups : List (Nat × ABlk)} {s' : AS} (hp : plainOp op = true) (h : opS E.TE E.EQ ⟨T, M⟩ dst op = some (v, ups)) (hc : dchk d RK dst op T ups = true) (hs : AS.put ⟨T, ap M ups⟩ dst v = s') (k : awpOps E d RK Q r s') : awpOps E d RK Q (⟨dst, op, none⟩ :: r) ⟨T, M⟩ := awp_op2 hp h hc hs k
theorem dg {t u : Tmp} {b : Bool} {x : AVal} (h : T t = x) (k : GuardG x b (awpOps E d RK Q (⟨some u, op, none⟩ :: r) ⟨T, M⟩) (awpOps E d RK Q r ⟨upd T u (.tup []), M⟩)) : awpOps E d RK Q (⟨some u, op, some (some t, b)⟩ :: r) ⟨T, M⟩ := awp_g h k
theorem dg0 {t : Tmp} {b : Bool} {x : AVal} (h : T t = x) (k : GuardG x b (awpOps E d RK Q (⟨none, op, none⟩ :: r) ⟨T, M⟩) (awpOps E d RK Q r ⟨T, M⟩)) : awpOps E d RK Q (⟨none, op, some (some t, b)⟩ :: r) ⟨T, M⟩ := awp_g0 h k
theorem dc {o : Operand} {v : AVal} (h : ev s.T o = v) (k : CondG v (Run E n Q x K s) (Run E n Q y K s)) : Run E n Q (.cond o x y) K s := Run.condG h k
end
end Go.Proofs.Ytdmfjkhbodbgoaa.Avm

namespace Go.Proofs.Ytdmfjkhbodbgoaa.Avm
open Go.Proofs
def teL : List (Nat × TyI) := [
  (0, ⟨.other, 1, 0, .tuple ([]).toArray⟩),
  (1, ⟨.func, 1, 8, .nilFunc⟩),
  (2, ⟨.int .i64, 1, 8, .int .i64 0⟩),
  (3, ⟨.int .i64, 1, 8, .int .i64 0⟩),
  (4, ⟨.bool, 1, 1, .bool false⟩),
  (5, ⟨.int .u8, 1, 1, .int .u8 0⟩),
  (6, ⟨.int .u8, 1, 1, .int .u8 0⟩),
  (7, ⟨.struct [(2, 0), (3, 1), (4, 2), (6, 3)], 4, 24, .agg ([.int .i64 0, .int .i64 0, .bool false, .int .u8 0]).toArray⟩),
  (8, ⟨.struct [(2, 0), (3, 1), (4, 2), (6, 3)], 4, 24, .agg ([.int .i64 0, .int .i64 0, .bool false, .int .u8 0]).toArray⟩),
  (9, ⟨.str, 1, 16, .string ByteArray.empty⟩),
  (10, ⟨.str, 1, 16, .string ByteArray.empty⟩),
  (11, ⟨.str, 1, 16, .string ByteArray.empty⟩),
  (12, ⟨.int .u64, 1, 8, .int .u64 0⟩),
  (13, ⟨.struct [(9, 0), (12, 1)], 2, 24, .agg ([.string ByteArray.empty, .int .u64 0]).toArray⟩),
  (14, ⟨.struct [(9, 0), (12, 1)], 2, 24, .agg ([.string ByteArray.empty, .int .u64 0]).toArray⟩),
  (15, ⟨.ptr 146, 1, 8, .pointer none⟩),
  (16, ⟨.ptr 149, 1, 8, .pointer none⟩),
  (17, ⟨.ptr 157, 1, 8, .pointer none⟩),
  (18, ⟨.struct [(17, 0)], 1, 8, .agg ([.pointer none]).toArray⟩),
  (19, ⟨.struct [(17, 0)], 1, 8, .agg ([.pointer none]).toArray⟩),
  (20, ⟨.iface, 1, 16, .nilIface⟩),
  (21, ⟨.int .i32, 1, 4, .int .i32 0⟩),
  (22, ⟨.slice 3, 1, 24, .slice none 0 0⟩),
  (23, ⟨.slice 41, 1, 24, .slice none 0 0⟩),
  (24, ⟨.struct [(22, 0), (23, 1)], 2, 48, .agg ([.slice none 0 0, .slice none 0 0]).toArray⟩),
  (25, ⟨.struct [(22, 0), (23, 1)], 2, 48, .agg ([.slice none 0 0, .slice none 0 0]).toArray⟩),
  (26, ⟨.slice 32, 1, 24, .slice none 0 0⟩),
  (27, ⟨.struct [(25, 0), (25, 2), (25, 4), (26, 6), (3, 7), (3, 8)], 9, 184, .agg ([.slice none 0 0, .slice none 0 0, .slice none 0 0, .slice none 0 0, .slice none 0 0, .slice none 0 0, .slice none 0 0, .int .i64 0, .int .i64 0]).toArray⟩),
  (28, ⟨.struct [(25, 0), (25, 2), (25, 4), (26, 6), (3, 7), (3, 8)], 9, 184, .agg ([.slice none 0 0, .slice none 0 0, .slice none 0 0, .slice none 0 0, .slice none 0 0, .slice none 0 0, .slice none 0 0, .int .i64 0, .int .i64 0]).toArray⟩),
  (29, ⟨.func, 1, 8, .nilFunc⟩),
  (30, ⟨.func, 1, 8, .nilFunc⟩),
  (31, ⟨.struct [(3, 0), (3, 1)], 2, 16, .agg ([.int .i64 0, .int .i64 0]).toArray⟩),
  (32, ⟨.struct [(3, 0), (3, 1)], 2, 16, .agg ([.int .i64 0, .int .i64 0]).toArray⟩),
  (33, ⟨.int .i64, 1, 8, .int .i64 0⟩),
  (35, ⟨.func, 1, 8, .nilFunc⟩),
  (36, ⟨.func, 1, 8, .nilFunc⟩),
  (37, ⟨.func, 1, 8, .nilFunc⟩),
  (38, ⟨.func, 1, 8, .nilFunc⟩),
  (39, ⟨.func, 1, 8, .nilFunc⟩),
  (40, ⟨.struct [(3, 0), (3, 1), (3, 2)], 3, 24, .agg ([.int .i64 0, .int .i64 0, .int .i64 0]).toArray⟩),
  (41, ⟨.struct [(3, 0), (3, 1), (3, 2)], 3, 24, .agg ([.int .i64 0, .int .i64 0, .int .i64 0]).toArray⟩),
  (42, ⟨.func, 1, 8, .nilFunc⟩),
  (43, ⟨.func, 1, 8, .nilFunc⟩),
  (44, ⟨.func, 1, 8, .nilFunc⟩),
  (45, ⟨.func, 1, 8, .nilFunc⟩),
  (46, ⟨.func, 1, 8, .nilFunc⟩),
  (47, ⟨.func, 1, 8, .nilFunc⟩),
  (48, ⟨.func, 1, 8, .nilFunc⟩),
  (49, ⟨.func, 1, 8, .nilFunc⟩),
  (50, ⟨.func, 1, 8, .nilFunc⟩),
  (51, ⟨.slice 25, 1, 24, .slice none 0 0⟩),
  (52, ⟨.func, 1, 8, .nilFunc⟩),
  (53, ⟨.struct [(25, 0), (25, 2), (25, 4), (32, 6), (22, 8), (22, 9)], 10, 208, .agg ([.slice none 0 0, .slice none 0 0, .slice none 0 0, .slice none 0 0, .slice none 0 0, .slice none 0 0, .int .i64 0, .int .i64 0, .slice none 0 0, .slice none 0 0]).toArray⟩),
  (54, ⟨.struct [(25, 0), (25, 2), (25, 4), (32, 6), (22, 8), (22, 9)], 10, 208, .agg ([.slice none 0 0, .slice none 0 0, .slice none 0 0, .slice none 0 0, .slice none 0 0, .slice none 0 0, .int .i64 0, .int .i64 0, .slice none 0 0, .slice none 0 0]).toArray⟩),
  (55, ⟨.func, 1, 8, .nilFunc⟩),
  (56, ⟨.func, 1, 8, .nilFunc⟩),
  (57, ⟨.func, 1, 8, .nilFunc⟩),
  (58, ⟨.slice 73, 1, 24, .slice none 0 0⟩),
  (59, ⟨.ptr 70, 1, 8, .pointer none⟩),
  (60, ⟨.func, 1, 8, .nilFunc⟩),
  (61, ⟨.func, 1, 8, .nilFunc⟩),
  (62, ⟨.func, 1, 8, .nilFunc⟩),
  (63, ⟨.func, 1, 8, .nilFunc⟩),
  (64, ⟨.func, 1, 8, .nilFunc⟩),
  (65, ⟨.func, 1, 8, .nilFunc⟩),
  (66, ⟨.func, 1, 8, .nilFunc⟩),
  (67, ⟨.func, 1, 8, .nilFunc⟩),
  (68, ⟨.func, 1, 8, .nilFunc⟩),
  (69, ⟨.arr 16 58, 16, 384, .agg ([.slice none 0 0, .slice none 0 0, .slice none 0 0, .slice none 0 0, .slice none 0 0, .slice none 0 0, .slice none 0 0, .slice none 0 0, .slice none 0 0, .slice none 0 0, .slice none 0 0, .slice none 0 0, .slice none 0 0, .slice none 0 0, .slice none 0 0, .slice none 0 0]).toArray⟩),
  (70, ⟨.arr 16 58, 16, 384, .agg ([.slice none 0 0, .slice none 0 0, .slice none 0 0, .slice none 0 0, .slice none 0 0, .slice none 0 0, .slice none 0 0, .slice none 0 0, .slice none 0 0, .slice none 0 0, .slice none 0 0, .slice none 0 0, .slice none 0 0, .slice none 0 0, .slice none 0 0, .slice none 0 0]).toArray⟩),
  (71, ⟨.func, 1, 8, .nilFunc⟩),
  (72, ⟨.struct [(3, 0), (3, 1)], 2, 16, .agg ([.int .i64 0, .int .i64 0]).toArray⟩),
  (73, ⟨.struct [(3, 0), (3, 1)], 2, 16, .agg ([.int .i64 0, .int .i64 0]).toArray⟩),
  (74, ⟨.func, 1, 8, .nilFunc⟩),
  (75, ⟨.func, 1, 8, .nilFunc⟩),
  (76, ⟨.func, 1, 8, .nilFunc⟩),
  (77, ⟨.func, 1, 8, .nilFunc⟩),
  (78, ⟨.other, 1, 0, .tuple ([.slice none 0 0, .bool false]).toArray⟩),
  (79, ⟨.func, 1, 8, .nilFunc⟩),
  (80, ⟨.func, 1, 8, .nilFunc⟩),
  (81, ⟨.func, 1, 8, .nilFunc⟩),
  (82, ⟨.arr 16 22, 16, 384, .agg ([.slice none 0 0, .slice none 0 0, .slice none 0 0, .slice none 0 0, .slice none 0 0, .slice none 0 0, .slice none 0 0, .slice none 0 0, .slice none 0 0, .slice none 0 0, .slice none 0 0, .slice none 0 0, .slice none 0 0, .slice none 0 0, .slice none 0 0, .slice none 0 0]).toArray⟩),
  (83, ⟨.struct [(82, 0)], 16, 384, .agg ([.slice none 0 0, .slice none 0 0, .slice none 0 0, .slice none 0 0, .slice none 0 0, .slice none 0 0, .slice none 0 0, .slice none 0 0, .slice none 0 0, .slice none 0 0, .slice none 0 0, .slice none 0 0, .slice none 0 0, .slice none 0 0, .slice none 0 0, .slice none 0 0]).toArray⟩),
  (84, ⟨.struct [(82, 0)], 16, 384, .agg ([.slice none 0 0, .slice none 0 0, .slice none 0 0, .slice none 0 0, .slice none 0 0, .slice none 0 0, .slice none 0 0, .slice none 0 0, .slice none 0 0, .slice none 0 0, .slice none 0 0, .slice none 0 0, .slice none 0 0, .slice none 0 0, .slice none 0 0, .slice none 0 0]).toArray⟩),
  (85, ⟨.func, 1, 8, .nilFunc⟩),
  (86, ⟨.func, 1, 8, .nilFunc⟩),
  (87, ⟨.func, 1, 8, .nilFunc⟩),
  (88, ⟨.func, 1, 8, .nilFunc⟩),
  (89, ⟨.func, 1, 8, .nilFunc⟩),
  (90, ⟨.func, 1, 8, .nilFunc⟩),
  (91, ⟨.func, 1, 8, .nilFunc⟩),
  (92, ⟨.func, 1, 8, .nilFunc⟩),
  (94, ⟨.func, 1, 8, .nilFunc⟩),
  (95, ⟨.func, 1, 8, .nilFunc⟩),
  (96, ⟨.other, 1, 0, .tuple ([.int .i64 0, .slice none 0 0]).toArray⟩),
  (97, ⟨.func, 1, 8, .nilFunc⟩),
  (98, ⟨.func, 1, 8, .nilFunc⟩),
  (99, ⟨.func, 1, 8, .nilFunc⟩),
  (100, ⟨.func, 1, 8, .nilFunc⟩),
  (101, ⟨.func, 1, 8, .nilFunc⟩),
  (102, ⟨.func, 1, 8, .nilFunc⟩),
  (103, ⟨.func, 1, 8, .nilFunc⟩),
  (104, ⟨.func, 1, 8, .nilFunc⟩),
  (105, ⟨.func, 1, 8, .nilFunc⟩),
  (106, ⟨.slice 22, 1, 24, .slice none 0 0⟩),
  (107, ⟨.arr 16 3, 16, 128, .agg ([.int .i64 0, .int .i64 0, .int .i64 0, .int .i64 0, .int .i64 0, .int .i64 0, .int .i64 0, .int .i64 0, .int .i64 0, .int .i64 0, .int .i64 0, .int .i64 0, .int .i64 0, .int .i64 0, .int .i64 0, .int .i64 0]).toArray⟩),
  (108, ⟨.arr 16 3, 16, 128, .agg ([.int .i64 0, .int .i64 0, .int .i64 0, .int .i64 0, .int .i64 0, .int .i64 0, .int .i64 0, .int .i64 0, .int .i64 0, .int .i64 0, .int .i64 0, .int .i64 0, .int .i64 0, .int .i64 0, .int .i64 0, .int .i64 0]).toArray⟩),
  (109, ⟨.func, 1, 8, .nilFunc⟩),
  (110, ⟨.func, 1, 8, .nilFunc⟩),
  (111, ⟨.func, 1, 8, .nilFunc⟩),
  (112, ⟨.func, 1, 8, .nilFunc⟩),
  (113, ⟨.func, 1, 8, .nilFunc⟩),
  (114, ⟨.func, 1, 8, .nilFunc⟩),
  (115, ⟨.func, 1, 8, .nilFunc⟩),
  (116, ⟨.slice 58, 1, 24, .slice none 0 0⟩),
  (117, ⟨.func, 1, 8, .nilFunc⟩),
  (118, ⟨.func, 1, 8, .nilFunc⟩),
  (119, ⟨.func, 1, 8, .nilFunc⟩),
  (120, ⟨.func, 1, 8, .nilFunc⟩),
  (121, ⟨.func, 1, 8, .nilFunc⟩),
  (122, ⟨.int .u64, 1, 8, .int .u64 0⟩),
  (123, ⟨.func, 1, 8, .nilFunc⟩),
  (124, ⟨.int .i64, 1, 8, .int .i64 0⟩),
  (125, ⟨.other, 1, 0, .tuple ([.int .i64 0, .int .i64 0]).toArray⟩),
  (126, ⟨.func, 1, 8, .nilFunc⟩),
  (127, ⟨.func, 1, 8, .nilFunc⟩),
  (128, ⟨.func, 1, 8, .nilFunc⟩),
  (129, ⟨.other, 1, 0, .tuple ([.int .i64 0, .bool false]).toArray⟩),
  (130, ⟨.func, 1, 8, .nilFunc⟩),
  (131, ⟨.func, 1, 8, .nilFunc⟩),
  (132, ⟨.int .u32, 1, 4, .int .u32 0⟩),
  (133, ⟨.func, 1, 8, .nilFunc⟩),
  (134, ⟨.int .u64, 1, 8, .int .u64 0⟩),
  (135, ⟨.int .u64, 1, 8, .int .u64 0⟩),
  (136, ⟨.func, 1, 8, .nilFunc⟩),
  (137, ⟨.func, 1, 8, .nilFunc⟩),
  (138, ⟨.func, 1, 8, .nilFunc⟩),
  (139, ⟨.ptr 3, 1, 8, .pointer none⟩),
  (140, ⟨.func, 1, 8, .nilFunc⟩),
  (141, ⟨.ptr 135, 1, 8, .pointer none⟩),
  (142, ⟨.other, 1, 0, .tuple ([.int .i64 0, .int .i64 0]).toArray⟩),
  (143, ⟨.func, 1, 8, .nilFunc⟩),
  (144, ⟨.func, 1, 8, .nilFunc⟩),
  (145, ⟨.struct [(17, 0), (17, 1), (17, 2), (9, 3)], 4, 40, .agg ([.pointer none, .pointer none, .pointer none, .string ByteArray.empty]).toArray⟩),
  (146, ⟨.struct [(17, 0), (17, 1), (17, 2), (9, 3)], 4, 40, .agg ([.pointer none, .pointer none, .pointer none, .string ByteArray.empty]).toArray⟩),
  (147, ⟨.arr 0 16, 0, 0, .agg ([]).toArray⟩),
  (148, ⟨.struct [(147, 0)], 0, 0, .agg ([]).toArray⟩),
  (149, ⟨.struct [(147, 0)], 0, 0, .agg ([]).toArray⟩),
  (150, ⟨.int .u8, 1, 1, .int .u8 0⟩),
  (151, ⟨.int .u8, 1, 1, .int .u8 0⟩),
  (152, ⟨.func, 1, 8, .nilFunc⟩),
  (153, ⟨.ptr 5, 1, 8, .pointer none⟩),
  (154, ⟨.int .i32, 1, 4, .int .i32 0⟩),
  (155, ⟨.int .i32, 1, 4, .int .i32 0⟩),
  (156, ⟨.struct [(12, 0), (12, 1), (132, 2), (150, 3), (5, 4), (5, 5), (151, 6), (152, 7), (153, 8), (154, 9), (155, 10)], 11, 48, .agg ([.int .u64 0, .int .u64 0, .int .u32 0, .int .u8 0, .int .u8 0, .int .u8 0, .int .u8 0, .nilFunc, .pointer none, .int .i32 0, .int .i32 0]).toArray⟩),
  (157, ⟨.struct [(12, 0), (12, 1), (132, 2), (150, 3), (5, 4), (5, 5), (151, 6), (152, 7), (153, 8), (154, 9), (155, 10)], 11, 48, .agg ([.int .u64 0, .int .u64 0, .int .u32 0, .int .u8 0, .int .u8 0, .int .u8 0, .int .u8 0, .nilFunc, .pointer none, .int .i32 0, .int .i32 0]).toArray⟩),
  (158, ⟨.other, 1, 8, .pointer none⟩)]
def TE0 (t : TypeId) : Option TyI := tyOf teL t
theorem teL_ok : TyOk Try.prog (tyOf teL) := tyOk_of (by kernel_rfl) (by kernel_rfl)
theorem TE_0 : TE0 0 = some ⟨.other, 1, 0, .tuple ([]).toArray⟩ := rfl
theorem TE_1 : TE0 1 = some ⟨.func, 1, 8, .nilFunc⟩ := rfl
theorem TE_2 : TE0 2 = some ⟨.int .i64, 1, 8, .int .i64 0⟩ := rfl
theorem TE_3 : TE0 3 = some ⟨.int .i64, 1, 8, .int .i64 0⟩ := rfl
theorem TE_4 : TE0 4 = some ⟨.bool, 1, 1, .bool false⟩ := rfl
theorem TE_5 : TE0 5 = some ⟨.int .u8, 1, 1, .int .u8 0⟩ := rfl
theorem TE_6 : TE0 6 = some ⟨.int .u8, 1, 1, .int .u8 0⟩ := rfl
theorem TE_7 : TE0 7 = some ⟨.struct [(2, 0), (3, 1), (4, 2), (6, 3)], 4, 24, .agg ([.int .i64 0, .int .i64 0, .bool false, .int .u8 0]).toArray⟩ := rfl
theorem TE_8 : TE0 8 = some ⟨.struct [(2, 0), (3, 1), (4, 2), (6, 3)], 4, 24, .agg ([.int .i64 0, .int .i64 0, .bool false, .int .u8 0]).toArray⟩ := rfl
theorem TE_9 : TE0 9 = some ⟨.str, 1, 16, .string ByteArray.empty⟩ := rfl
theorem TE_10 : TE0 10 = some ⟨.str, 1, 16, .string ByteArray.empty⟩ := rfl
theorem TE_11 : TE0 11 = some ⟨.str, 1, 16, .string ByteArray.empty⟩ := rfl
theorem TE_12 : TE0 12 = some ⟨.int .u64, 1, 8, .int .u64 0⟩ := rfl
theorem TE_13 : TE0 13 = some ⟨.struct [(9, 0), (12, 1)], 2, 24, .agg ([.string ByteArray.empty, .int .u64 0]).toArray⟩ := rfl
theorem TE_14 : TE0 14 = some ⟨.struct [(9, 0), (12, 1)], 2, 24, .agg ([.string ByteArray.empty, .int .u64 0]).toArray⟩ := rfl
theorem TE_15 : TE0 15 = some ⟨.ptr 146, 1, 8, .pointer none⟩ := rfl
theorem TE_16 : TE0 16 = some ⟨.ptr 149, 1, 8, .pointer none⟩ := rfl
theorem TE_17 : TE0 17 = some ⟨.ptr 157, 1, 8, .pointer none⟩ := rfl
theorem TE_18 : TE0 18 = some ⟨.struct [(17, 0)], 1, 8, .agg ([.pointer none]).toArray⟩ := rfl
theorem TE_19 : TE0 19 = some ⟨.struct [(17, 0)], 1, 8, .agg ([.pointer none]).toArray⟩ := rfl
theorem TE_20 : TE0 20 = some ⟨.iface, 1, 16, .nilIface⟩ := rfl
theorem TE_21 : TE0 21 = some ⟨.int .i32, 1, 4, .int .i32 0⟩ := rfl
theorem TE_22 : TE0 22 = some ⟨.slice 3, 1, 24, .slice none 0 0⟩ := rfl
theorem TE_23 : TE0 23 = some ⟨.slice 41, 1, 24, .slice none 0 0⟩ := rfl
theorem TE_24 : TE0 24 = some ⟨.struct [(22, 0), (23, 1)], 2, 48, .agg ([.slice none 0 0, .slice none 0 0]).toArray⟩ := rfl
theorem TE_25 : TE0 25 = some ⟨.struct [(22, 0), (23, 1)], 2, 48, .agg ([.slice none 0 0, .slice none 0 0]).toArray⟩ := rfl
theorem TE_26 : TE0 26 = some ⟨.slice 32, 1, 24, .slice none 0 0⟩ := rfl
theorem TE_27 : TE0 27 = some ⟨.struct [(25, 0), (25, 2), (25, 4), (26, 6), (3, 7), (3, 8)], 9, 184, .agg ([.slice none 0 0, .slice none 0 0, .slice none 0 0, .slice none 0 0, .slice none 0 0, .slice none 0 0, .slice none 0 0, .int .i64 0, .int .i64 0]).toArray⟩ := rfl
theorem TE_28 : TE0 28 = some ⟨.struct [(25, 0), (25, 2), (25, 4), (26, 6), (3, 7), (3, 8)], 9, 184, .agg ([.slice none 0 0, .slice none 0 0, .slice none 0 0, .slice none 0 0, .slice none 0 0, .slice none 0 0, .slice none 0 0, .int .i64 0, .int .i64 0]).toArray⟩ := rfl
theorem TE_29 : TE0 29 = some ⟨.func, 1, 8, .nilFunc⟩ := rfl
theorem TE_30 : TE0 30 = some ⟨.func, 1, 8, .nilFunc⟩ := rfl
theorem TE_31 : TE0 31 = some ⟨.struct [(3, 0), (3, 1)], 2, 16, .agg ([.int .i64 0, .int .i64 0]).toArray⟩ := rfl
theorem TE_32 : TE0 32 = some ⟨.struct [(3, 0), (3, 1)], 2, 16, .agg ([.int .i64 0, .int .i64 0]).toArray⟩ := rfl
theorem TE_33 : TE0 33 = some ⟨.int .i64, 1, 8, .int .i64 0⟩ := rfl
theorem TE_35 : TE0 35 = some ⟨.func, 1, 8, .nilFunc⟩ := rfl
theorem TE_36 : TE0 36 = some ⟨.func, 1, 8, .nilFunc⟩ := rfl
theorem TE_37 : TE0 37 = some ⟨.func, 1, 8, .nilFunc⟩ := rfl
theorem TE_38 : TE0 38 = some ⟨.func, 1, 8, .nilFunc⟩ := rfl
theorem TE_39 : TE0 39 = some ⟨.func, 1, 8, .nilFunc⟩ := rfl
theorem TE_40 : TE0 40 = some ⟨.struct [(3, 0), (3, 1), (3, 2)], 3, 24, .agg ([.int .i64 0, .int .i64 0, .int .i64 0]).toArray⟩ := rfl
theorem TE_41 : TE0 41 = some ⟨.struct [(3, 0), (3, 1), (3, 2)], 3, 24, .agg ([.int .i64 0, .int .i64 0, .int .i64 0]).toArray⟩ := rfl
theorem TE_42 : TE0 42 = some ⟨.func, 1, 8, .nilFunc⟩ := rfl
theorem TE_43 : TE0 43 = some ⟨.func, 1, 8, .nilFunc⟩ := rfl
theorem TE_44 : TE0 44 = some ⟨.func, 1, 8, .nilFunc⟩ := rfl
theorem TE_45 : TE0 45 = some ⟨.func, 1, 8, .nilFunc⟩ := rfl
theorem TE_46 : TE0 46 = some ⟨.func, 1, 8, .nilFunc⟩ := rfl
theorem TE_47 : TE0 47 = some ⟨.func, 1, 8, .nilFunc⟩ := rfl
theorem TE_48 : TE0 48 = some ⟨.func, 1, 8, .nilFunc⟩ := rfl
theorem TE_49 : TE0 49 = some ⟨.func, 1, 8, .nilFunc⟩ := rfl
theorem TE_50 : TE0 50 = some ⟨.func, 1, 8, .nilFunc⟩ := rfl
theorem TE_51 : TE0 51 = some ⟨.slice 25, 1, 24, .slice none 0 0⟩ := rfl
theorem TE_52 : TE0 52 = some ⟨.func, 1, 8, .nilFunc⟩ := rfl
theorem TE_53 : TE0 53 = some ⟨.struct [(25, 0), (25, 2), (25, 4), (32, 6), (22, 8), (22, 9)], 10, 208, .agg ([.slice none 0 0, .slice none 0 0, .slice none 0 0, .slice none 0 0, .slice none 0 0, .slice none 0 0, .int .i64 0, .int .i64 0, .slice none 0 0, .slice none 0 0]).toArray⟩ := rfl
theorem TE_54 : TE0 54 = some ⟨.struct [(25, 0), (25, 2), (25, 4), (32, 6), (22, 8), (22, 9)], 10, 208, .agg ([.slice none 0 0, .slice none 0 0, .slice none 0 0, .slice none 0 0, .slice none 0 0, .slice none 0 0, .int .i64 0, .int .i64 0, .slice none 0 0, .slice none 0 0]).toArray⟩ := rfl
theorem TE_55 : TE0 55 = some ⟨.func, 1, 8, .nilFunc⟩ := rfl
theorem TE_56 : TE0 56 = some ⟨.func, 1, 8, .nilFunc⟩ := rfl
theorem TE_57 : TE0 57 = some ⟨.func, 1, 8, .nilFunc⟩ := rfl
theorem TE_58 : TE0 58 = some ⟨.slice 73, 1, 24, .slice none 0 0⟩ := rfl
theorem TE_59 : TE0 59 = some ⟨.ptr 70, 1, 8, .pointer none⟩ := rfl
theorem TE_60 : TE0 60 = some ⟨.func, 1, 8, .nilFunc⟩ := rfl
theorem TE_61 : TE0 61 = some ⟨.func, 1, 8, .nilFunc⟩ := rfl
theorem TE_62 : TE0 62 = some ⟨.func, 1, 8, .nilFunc⟩ := rfl
theorem TE_63 : TE0 63 = some ⟨.func, 1, 8, .nilFunc⟩ := rfl
theorem TE_64 : TE0 64 = some ⟨.func, 1, 8, .nilFunc⟩ := rfl
theorem TE_65 : TE0 65 = some ⟨.func, 1, 8, .nilFunc⟩ := rfl
theorem TE_66 : TE0 66 = some ⟨.func, 1, 8, .nilFunc⟩ := rfl
theorem TE_67 : TE0 67 = some ⟨.func, 1, 8, .nilFunc⟩ := rfl
theorem TE_68 : TE0 68 = some ⟨.func, 1, 8, .nilFunc⟩ := rfl
theorem TE_69 : TE0 69 = some ⟨.arr 16 58, 16, 384, .agg ([.slice none 0 0, .slice none 0 0, .slice none 0 0, .slice none 0 0, .slice none 0 0, .slice none 0 0, .slice none 0 0, .slice none 0 0, .slice none 0 0, .slice none 0 0, .slice none 0 0, .slice none 0 0, .slice none 0 0, .slice none 0 0, .slice none 0 0, .slice none 0 0]).toArray⟩ := rfl
theorem TE_70 : TE0 70 = some ⟨.arr 16 58, 16, 384, .agg ([.slice none 0 0, .slice none 0 0, .slice none 0 0, .slice none 0 0, .slice none 0 0, .slice none 0 0, .slice none 0 0, .slice none 0 0, .slice none 0 0, .slice none 0 0, .slice none 0 0, .slice none 0 0, .slice none 0 0, .slice none 0 0, .slice none 0 0, .slice none 0 0]).toArray⟩ := rfl
theorem TE_71 : TE0 71 = some ⟨.func, 1, 8, .nilFunc⟩ := rfl
theorem TE_72 : TE0 72 = some ⟨.struct [(3, 0), (3, 1)], 2, 16, .agg ([.int .i64 0, .int .i64 0]).toArray⟩ := rfl
theorem TE_73 : TE0 73 = some ⟨.struct [(3, 0), (3, 1)], 2, 16, .agg ([.int .i64 0, .int .i64 0]).toArray⟩ := rfl
theorem TE_74 : TE0 74 = some ⟨.func, 1, 8, .nilFunc⟩ := rfl
theorem TE_75 : TE0 75 = some ⟨.func, 1, 8, .nilFunc⟩ := rfl
theorem TE_76 : TE0 76 = some ⟨.func, 1, 8, .nilFunc⟩ := rfl
theorem TE_77 : TE0 77 = some ⟨.func, 1, 8, .nilFunc⟩ := rfl
theorem TE_78 : TE0 78 = some ⟨.other, 1, 0, .tuple ([.slice none 0 0, .bool false]).toArray⟩ := rfl
theorem TE_79 : TE0 79 = some ⟨.func, 1, 8, .nilFunc⟩ := rfl
theorem TE_80 : TE0 80 = some ⟨.func, 1, 8, .nilFunc⟩ := rfl
theorem TE_81 : TE0 81 = some ⟨.func, 1, 8, .nilFunc⟩ := rfl
theorem TE_82 : TE0 82 = some ⟨.arr 16 22, 16, 384, .agg ([.slice none 0 0, .slice none 0 0, .slice none 0 0, .slice none 0 0, .slice none 0 0, .slice none 0 0, .slice none 0 0, .slice none 0 0, .slice none 0 0, .slice none 0 0, .slice none 0 0, .slice none 0 0, .slice none 0 0, .slice none 0 0, .slice none 0 0, .slice none 0 0]).toArray⟩ := rfl
theorem TE_83 : TE0 83 = some ⟨.struct [(82, 0)], 16, 384, .agg ([.slice none 0 0, .slice none 0 0, .slice none 0 0, .slice none 0 0, .slice none 0 0, .slice none 0 0, .slice none 0 0, .slice none 0 0, .slice none 0 0, .slice none 0 0, .slice none 0 0, .slice none 0 0, .slice none 0 0, .slice none 0 0, .slice none 0 0, .slice none 0 0]).toArray⟩ := rfl
theorem TE_84 : TE0 84 = some ⟨.struct [(82, 0)], 16, 384, .agg ([.slice none 0 0, .slice none 0 0, .slice none 0 0, .slice none 0 0, .slice none 0 0, .slice none 0 0, .slice none 0 0, .slice none 0 0, .slice none 0 0, .slice none 0 0, .slice none 0 0, .slice none 0 0, .slice none 0 0, .slice none 0 0, .slice none 0 0, .slice none 0 0]).toArray⟩ := rfl
theorem TE_85 : TE0 85 = some ⟨.func, 1, 8, .nilFunc⟩ := rfl
theorem TE_86 : TE0 86 = some ⟨.func, 1, 8, .nilFunc⟩ := rfl
theorem TE_87 : TE0 87 = some ⟨.func, 1, 8, .nilFunc⟩ := rfl
theorem TE_88 : TE0 88 = some ⟨.func, 1, 8, .nilFunc⟩ := rfl
theorem TE_89 : TE0 89 = some ⟨.func, 1, 8, .nilFunc⟩ := rfl
theorem TE_90 : TE0 90 = some ⟨.func, 1, 8, .nilFunc⟩ := rfl
theorem TE_91 : TE0 91 = some ⟨.func, 1, 8, .nilFunc⟩ := rfl
theorem TE_92 : TE0 92 = some ⟨.func, 1, 8, .nilFunc⟩ := rfl
theorem TE_94 : TE0 94 = some ⟨.func, 1, 8, .nilFunc⟩ := rfl
theorem TE_95 : TE0 95 = some ⟨.func, 1, 8, .nilFunc⟩ := rfl
theorem TE_96 : TE0 96 = some ⟨.other, 1, 0, .tuple ([.int .i64 0, .slice none 0 0]).toArray⟩ := rfl
theorem TE_97 : TE0 97 = some ⟨.func, 1, 8, .nilFunc⟩ := rfl
theorem TE_98 : TE0 98 = some ⟨.func, 1, 8, .nilFunc⟩ := rfl
theorem TE_99 : TE0 99 = some ⟨.func, 1, 8, .nilFunc⟩ := rfl
theorem TE_100 : TE0 100 = some ⟨.func, 1, 8, .nilFunc⟩ := rfl
theorem TE_101 : TE0 101 = some ⟨.func, 1, 8, .nilFunc⟩ := rfl
theorem TE_102 : TE0 102 = some ⟨.func, 1, 8, .nilFunc⟩ := rfl
theorem TE_103 : TE0 103 = some ⟨.func, 1, 8, .nilFunc⟩ := rfl
theorem TE_104 : TE0 104 = some ⟨.func, 1, 8, .nilFunc⟩ := rfl
theorem TE_105 : TE0 105 = some ⟨.func, 1, 8, .nilFunc⟩ := rfl
theorem TE_106 : TE0 106 = some ⟨.slice 22, 1, 24, .slice none 0 0⟩ := rfl
theorem TE_107 : TE0 107 = some ⟨.arr 16 3, 16, 128, .agg ([.int .i64 0, .int .i64 0, .int .i64 0, .int .i64 0, .int .i64 0, .int .i64 0, .int .i64 0, .int .i64 0, .int .i64 0, .int .i64 0, .int .i64 0, .int .i64 0, .int .i64 0, .int .i64 0, .int .i64 0, .int .i64 0]).toArray⟩ := rfl
theorem TE_108 : TE0 108 = some ⟨.arr 16 3, 16, 128, .agg ([.int .i64 0, .int .i64 0, .int .i64 0, .int .i64 0, .int .i64 0, .int .i64 0, .int .i64 0, .int .i64 0, .int .i64 0, .int .i64 0, .int .i64 0, .int .i64 0, .int .i64 0, .int .i64 0, .int .i64 0, .int .i64 0]).toArray⟩ := rfl
theorem TE_109 : TE0 109 = some ⟨.func, 1, 8, .nilFunc⟩ := rfl
theorem TE_110 : TE0 110 = some ⟨.func, 1, 8, .nilFunc⟩ := rfl
theorem TE_111 : TE0 111 = some ⟨.func, 1, 8, .nilFunc⟩ := rfl
theorem TE_112 : TE0 112 = some ⟨.func, 1, 8, .nilFunc⟩ := rfl
theorem TE_113 : TE0 113 = some ⟨.func, 1, 8, .nilFunc⟩ := rfl
theorem TE_114 : TE0 114 = some ⟨.func, 1, 8, .nilFunc⟩ := rfl
theorem TE_115 : TE0 115 = some ⟨.func, 1, 8, .nilFunc⟩ := rfl
theorem TE_116 : TE0 116 = some ⟨.slice 58, 1, 24, .slice none 0 0⟩ := rfl
theorem TE_117 : TE0 117 = some ⟨.func, 1, 8, .nilFunc⟩ := rfl
theorem TE_118 : TE0 118 = some ⟨.func, 1, 8, .nilFunc⟩ := rfl
theorem TE_119 : TE0 119 = some ⟨.func, 1, 8, .nilFunc⟩ := rfl
theorem TE_120 : TE0 120 = some ⟨.func, 1, 8, .nilFunc⟩ := rfl
theorem TE_121 : TE0 121 = some ⟨.func, 1, 8, .nilFunc⟩ := rfl
theorem TE_122 : TE0 122 = some ⟨.int .u64, 1, 8, .int .u64 0⟩ := rfl
theorem TE_123 : TE0 123 = some ⟨.func, 1, 8, .nilFunc⟩ := rfl
theorem TE_124 : TE0 124 = some ⟨.int .i64, 1, 8, .int .i64 0⟩ := rfl
theorem TE_125 : TE0 125 = some ⟨.other, 1, 0, .tuple ([.int .i64 0, .int .i64 0]).toArray⟩ := rfl
theorem TE_126 : TE0 126 = some ⟨.func, 1, 8, .nilFunc⟩ := rfl
theorem TE_127 : TE0 127 = some ⟨.func, 1, 8, .nilFunc⟩ := rfl
theorem TE_128 : TE0 128 = some ⟨.func, 1, 8, .nilFunc⟩ := rfl
theorem TE_129 : TE0 129 = some ⟨.other, 1, 0, .tuple ([.int .i64 0, .bool false]).toArray⟩ := rfl
theorem TE_130 : TE0 130 = some ⟨.func, 1, 8, .nilFunc⟩ := rfl
theorem TE_131 : TE0 131 = some ⟨.func, 1, 8, .nilFunc⟩ := rfl
theorem TE_132 : TE0 132 = some ⟨.int .u32, 1, 4, .int .u32 0⟩ := rfl
theorem TE_133 : TE0 133 = some ⟨.func, 1, 8, .nilFunc⟩ := rfl
theorem TE_134 : TE0 134 = some ⟨.int .u64, 1, 8, .int .u64 0⟩ := rfl
theorem TE_135 : TE0 135 = some ⟨.int .u64, 1, 8, .int .u64 0⟩ := rfl
theorem TE_136 : TE0 136 = some ⟨.func, 1, 8, .nilFunc⟩ := rfl
theorem TE_137 : TE0 137 = some ⟨.func, 1, 8, .nilFunc⟩ := rfl
theorem TE_138 : TE0 138 = some ⟨.func, 1, 8, .nilFunc⟩ := rfl
theorem TE_139 : TE0 139 = some ⟨.ptr 3, 1, 8, .pointer none⟩ := rfl
theorem TE_140 : TE0 140 = some ⟨.func, 1, 8, .nilFunc⟩ := rfl
theorem TE_141 : TE0 141 = some ⟨.ptr 135, 1, 8, .pointer none⟩ := rfl
theorem TE_142 : TE0 142 = some ⟨.other, 1, 0, .tuple ([.int .i64 0, .int .i64 0]).toArray⟩ := rfl
theorem TE_143 : TE0 143 = some ⟨.func, 1, 8, .nilFunc⟩ := rfl
theorem TE_144 : TE0 144 = some ⟨.func, 1, 8, .nilFunc⟩ := rfl
theorem TE_145 : TE0 145 = some ⟨.struct [(17, 0), (17, 1), (17, 2), (9, 3)], 4, 40, .agg ([.pointer none, .pointer none, .pointer none, .string ByteArray.empty]).toArray⟩ := rfl
theorem TE_146 : TE0 146 = some ⟨.struct [(17, 0), (17, 1), (17, 2), (9, 3)], 4, 40, .agg ([.pointer none, .pointer none, .pointer none, .string ByteArray.empty]).toArray⟩ := rfl
theorem TE_147 : TE0 147 = some ⟨.arr 0 16, 0, 0, .agg ([]).toArray⟩ := rfl
theorem TE_148 : TE0 148 = some ⟨.struct [(147, 0)], 0, 0, .agg ([]).toArray⟩ := rfl
theorem TE_149 : TE0 149 = some ⟨.struct [(147, 0)], 0, 0, .agg ([]).toArray⟩ := rfl
theorem TE_150 : TE0 150 = some ⟨.int .u8, 1, 1, .int .u8 0⟩ := rfl
theorem TE_151 : TE0 151 = some ⟨.int .u8, 1, 1, .int .u8 0⟩ := rfl
theorem TE_152 : TE0 152 = some ⟨.func, 1, 8, .nilFunc⟩ := rfl
theorem TE_153 : TE0 153 = some ⟨.ptr 5, 1, 8, .pointer none⟩ := rfl
theorem TE_154 : TE0 154 = some ⟨.int .i32, 1, 4, .int .i32 0⟩ := rfl
theorem TE_155 : TE0 155 = some ⟨.int .i32, 1, 4, .int .i32 0⟩ := rfl
theorem TE_156 : TE0 156 = some ⟨.struct [(12, 0), (12, 1), (132, 2), (150, 3), (5, 4), (5, 5), (151, 6), (152, 7), (153, 8), (154, 9), (155, 10)], 11, 48, .agg ([.int .u64 0, .int .u64 0, .int .u32 0, .int .u8 0, .int .u8 0, .int .u8 0, .int .u8 0, .nilFunc, .pointer none, .int .i32 0, .int .i32 0]).toArray⟩ := rfl
theorem TE_157 : TE0 157 = some ⟨.struct [(12, 0), (12, 1), (132, 2), (150, 3), (5, 4), (5, 5), (151, 6), (152, 7), (153, 8), (154, 9), (155, 10)], 11, 48, .agg ([.int .u64 0, .int .u64 0, .int .u32 0, .int .u8 0, .int .u8 0, .int .u8 0, .int .u8 0, .nilFunc, .pointer none, .int .i32 0, .int .i32 0]).toArray⟩ := rfl
theorem TE_158 : TE0 158 = some ⟨.other, 1, 8, .pointer none⟩ := rfl
def Bt := (And.intro (And.intro (And.intro (And.intro (And.intro (And.intro (And.intro TE_0 TE_1) (And.intro TE_2 TE_3)) (And.intro (And.intro TE_4 TE_5) (And.intro TE_6 (And.intro TE_7 TE_8)))) (And.intro (And.intro (And.intro TE_9 TE_10) (And.intro TE_11 (And.intro TE_12 TE_13))) (And.intro (And.intro TE_14 TE_15) (And.intro TE_16 (And.intro TE_17 TE_18))))) (And.intro (And.intro (And.intro (And.intro TE_19 TE_20) (And.intro TE_21 (And.intro TE_22 TE_23))) (And.intro (And.intro TE_24 TE_25) (And.intro TE_26 (And.intro TE_27 TE_28)))) (And.intro (And.intro (And.intro TE_29 TE_30) (And.intro TE_31 (And.intro TE_32 TE_33))) (And.intro (And.intro TE_35 TE_36) (And.intro TE_37 (And.intro TE_38 TE_39)))))) (And.intro (And.intro (And.intro (And.intro (And.intro TE_40 TE_41) (And.intro TE_42 TE_43)) (And.intro (And.intro TE_44 TE_45) (And.intro TE_46 (And.intro TE_47 TE_48)))) (And.intro (And.intro (And.intro TE_49 TE_50) (And.intro TE_51 (And.intro TE_52 TE_53))) (And.intro (And.intro TE_54 TE_55) (And.intro TE_56 (And.intro TE_57 TE_58))))) (And.intro (And.intro (And.intro (And.intro TE_59 TE_60) (And.intro TE_61 (And.intro TE_62 TE_63))) (And.intro (And.intro TE_64 TE_65) (And.intro TE_66 (And.intro TE_67 TE_68)))) (And.intro (And.intro (And.intro TE_69 TE_70) (And.intro TE_71 (And.intro TE_72 TE_73))) (And.intro (And.intro TE_74 TE_75) (And.intro TE_76 (And.intro TE_77 TE_78))))))) (And.intro (And.intro (And.intro (And.intro (And.intro (And.intro TE_79 TE_80) (And.intro TE_81 TE_82)) (And.intro (And.intro TE_83 TE_84) (And.intro TE_85 (And.intro TE_86 TE_87)))) (And.intro (And.intro (And.intro TE_88 TE_89) (And.intro TE_90 (And.intro TE_91 TE_92))) (And.intro (And.intro TE_94 TE_95) (And.intro TE_96 (And.intro TE_97 TE_98))))) (And.intro (And.intro (And.intro (And.intro TE_99 TE_100) (And.intro TE_101 (And.intro TE_102 TE_103))) (And.intro (And.intro TE_104 TE_105) (And.intro TE_106 (And.intro TE_107 TE_108)))) (And.intro (And.intro (And.intro TE_109 TE_110) (And.intro TE_111 (And.intro TE_112 TE_113))) (And.intro (And.intro TE_114 TE_115) (And.intro TE_116 (And.intro TE_117 TE_118)))))) (And.intro (And.intro (And.intro (And.intro (And.intro TE_119 TE_120) (And.intro TE_121 (And.intro TE_122 TE_123))) (And.intro (And.intro TE_124 TE_125) (And.intro TE_126 (And.intro TE_127 TE_128)))) (And.intro (And.intro (And.intro TE_129 TE_130) (And.intro TE_131 (And.intro TE_132 TE_133))) (And.intro (And.intro TE_134 TE_135) (And.intro TE_136 (And.intro TE_137 TE_138))))) (And.intro (And.intro (And.intro (And.intro TE_139 TE_140) (And.intro TE_141 (And.intro TE_142 TE_143))) (And.intro (And.intro TE_144 TE_145) (And.intro TE_146 (And.intro TE_147 TE_148)))) (And.intro (And.intro (And.intro TE_149 TE_150) (And.intro TE_151 (And.intro TE_152 TE_153))) (And.intro (And.intro TE_154 TE_155) (And.intro TE_156 (And.intro TE_157 TE_158))))))))
end Go.Proofs.Ytdmfjkhbodbgoaa.Avm

namespace Go.Proofs.Ytdmfjkhbodbgoaa.Avm
open Go.Proofs
def eqL : List Nat := [3, 4, 9, 32, 33, 41, 108, 124, 73, 5, 134, 21, 122]
def EQ0 (t : TypeId) : Bool := eqL.contains t
theorem hm0 : Try.prog.follows .mixedOrders = true := by kernel_rfl
theorem hE0 : ∀ t, EQ0 t = true → EqOk Try.prog t := eqOk_of (by kernel_rfl)
def En (P : Program) (h : P = Try.prog) : Env := ⟨P, TE0, EQ0, h ▸ hm0, h ▸ teL_ok, h ▸ hE0⟩
theorem En_P (P : Program) (h : P = Try.prog) : (En P h).P = P := rfl
theorem En_TE (P : Program) (h : P = Try.prog) : (En P h).TE = TE0 := rfl
theorem En_EQ (P : Program) (h : P = Try.prog) : (En P h).EQ = EQ0 := rfl
end Go.Proofs.Ytdmfjkhbodbgoaa.Avm

namespace Go.Proofs.Ytdmfjkhbodbgoaa.Avm
open Go.Proofs
theorem bqs : ((true == true) = true) ∧ ((false == false) = true) ∧ ((true == false) = false) ∧ ((false == true) = false) := ⟨rfl, rfl, rfl, rfl⟩
class Nx (B : Prop) (A : outParam Prop) : Prop where
  it : A → B
class Ny (C : Prop) (A B : outParam Prop) : Prop where
  it : A → B → C
section
variable {E : Env} {n : Nat} {Q Q' : Ex → AS → Prop} {k : Kont} {s s2 : AS} {x y : SC} {d : Bool} {RK : Option (List Nat × (Nat → Bool))} {A B I : Prop} {σ : Type} {S : σ → AS} {ok : σ → Prop} {id : Nat} {l : List AVal} {b c : Bool}
instance : Nx (awpOps E d RK (KQ E n Q k) [] s) (Fin E n Q k .normal s) := ⟨awp_nilK⟩
instance : Nx (Run E n Q (.seq x y) k s) (Run E n Q x (.seq y k) s) := ⟨Run.seq⟩
instance : Nx (Fin E n Q (.seq y k) .normal s) (Run E n Q y k s) := ⟨Fin.seq⟩
instance : Nx (Run E n Q .skip k s) (Fin E n Q k .normal s) := ⟨Run.skip⟩
instance : Nx (Run E n Q .ret k s) (Fin E n Q k .ret s) := ⟨Run.ret⟩
instance : Nx (Run E n Q (.exit id) k s) (Fin E n Q k (.exit id) s) := ⟨Run.exit⟩
instance : Nx (Run E n Q (.block id x) k s) (Run E n Q x (.block id k) s) := ⟨Run.block⟩
instance : Nx (Fin E n Q (.seq y k) .ret s) (Fin E n Q k .ret s) := ⟨Fin.seq_ret⟩
instance : Nx (Fin E n Q (.seq y k) (.exit id) s) (Fin E n Q k (.exit id) s) := ⟨Fin.seq_exit⟩
instance : Nx (Fin E n Q (.block id k) .normal s) (Fin E n Q k .normal s) := ⟨Fin.block⟩
instance : Nx (Fin E n Q (.block id k) .ret s) (Fin E n Q k .ret s) := ⟨Fin.block_ret⟩
instance : Nx (Fin E n Q (.block id k) (.exit id) s) (Fin E n Q k .normal s) := ⟨Fin.block_exit⟩
instance : Nx (Fin E n (LoopQ n s2 (KQ E n Q k)) .done (.exit id) s) (Fin E n Q k (.exit id) s) := ⟨Fin.out⟩
instance : Nx (Fin E n (LoopQ n s2 (KQ E n Q k)) .done .ret s) (Fin E n Q k .ret s) := ⟨Fin.out_ret⟩
instance : Nx (Fin E n (Ex.then (fun _ => False) (KQ E n Q k)) .done (.exit id) s) (Fin E n Q k (.exit id) s) := ⟨Fin.last⟩
instance : Nx (Fin E n (LoopW n S ok (KQ E n Q k)) .done (.exit id) s) (Fin E n Q k (.exit id) s) := ⟨Fin.outW⟩
instance : Nx (Fin E n (LoopW n S ok (KQ E n Q k)) .done .ret s) (Fin E n Q k .ret s) := ⟨Fin.outW_ret⟩
instance : Nx (GuardG (.tup l) b A B) B := ⟨g_tup⟩
instance : Nx (GuardG (.bool true) true A B) A := ⟨g_tt⟩
instance : Nx (GuardG (.bool false) false A B) A := ⟨g_ff⟩
instance : Nx (GuardG (.bool true) false A B) B := ⟨g_tf⟩
instance : Nx (GuardG (.bool false) true A B) B := ⟨g_ft⟩
instance : Nx (CondG (.bool true) A B) A := ⟨c_t⟩
instance : Nx (CondG (.bool false) A B) B := ⟨c_f⟩
instance : Ny (GuardG (.bool c) true A B) (Hyp (c = true) A) (Hyp (c = false) B) := ⟨g_splitT⟩
instance : Ny (GuardG (.bool c) false A B) (Hyp (c = true) B) (Hyp (c = false) A) := ⟨g_splitF⟩
instance : Ny (CondG (.bool c) A B) (Hyp (c = true) A) (Hyp (c = false) B) := ⟨c_split⟩
theorem Nx.of [h : Nx B A] (a : A) : B := h.it a
theorem Ny.of {C : Prop} [h : Ny C A B] (a : A) (b : B) : C := h.it a b
theorem Run.mid (S : σ → AS) (I : σ → Prop) (h1 : Run E n (LoopW n S I (KQ E n Q k)) x .done s) (h2 : ∀ z, I z → Run E n Q y k (S z)) : Run E n Q (.seq x y) k s := by
  refine Run.seq (AW.mono h1 fun e s' h => ?_)
  cases e with
  | normal => obtain ⟨z, hz, hw⟩ := h; exact Run.wk hw (h2 z hz)
  | _ => exact h
end
def GV (E : Env) (d : Bool) (RK : Option (List Nat × (Nat → Bool))) (Q : Ex → AS → Prop) (dst : Option Tmp) (op : Op) (r : List SOp) (T : Tmps) (M : Mem) : Prop := awpOps E d RK Q (⟨dst, op, none⟩ :: r) ⟨T, M⟩
def GG (E : Env) (d : Bool) (RK : Option (List Nat × (Nat → Bool))) (Q : Ex → AS → Prop) (u t : Tmp) (b : Bool) (op : Op) (r : List SOp) (T : Tmps) (M : Mem) : Prop := awpOps E d RK Q (⟨some u, op, some (some t, b)⟩ :: r) ⟨T, M⟩
def GG0 (E : Env) (d : Bool) (RK : Option (List Nat × (Nat → Bool))) (Q : Ex → AS → Prop) (t : Tmp) (b : Bool) (op : Op) (r : List SOp) (T : Tmps) (M : Mem) : Prop := awpOps E d RK Q (⟨none, op, some (some t, b)⟩ :: r) ⟨T, M⟩
def GC (E : Env) (n : Nat) (Q : Ex → AS → Prop) (o : Operand) (x y : SC) (K : Kont) (s : AS) : Prop := Run E n Q (.cond o x y) K s
def GO (E : Env) (n : Nat) (Q : Ex → AS → Prop) (d : Bool) (l : List SOp) (L : List Nat) (K : Kont) (T : Tmps) (M : Mem) : Prop := Run E n Q (.ops d l) K ⟨T, M⟩
def GW (E : Env) (n : Nat) (Q : Ex → AS → Prop) (ws : List Nat) (l : List SOp) (L : List Nat) (K : Kont) (T : Tmps) (M : Mem) : Prop := Run E n Q (.opsW ws l) K ⟨T, M⟩
def GW2 (E : Env) (n : Nat) (Q : Ex → AS → Prop) (ws : List Nat) (l : List SOp) (L : List Nat) (F : Nat → Bool) (K : Kont) (T : Tmps) (M : Mem) : Prop := Run E n Q (.opsW ws l) K ⟨T, M⟩
def GX (E : Env) (n : Nat) (Q : Ex → AS → Prop) (id id' : Nat) (k : Kont) (s : AS) : Prop := Fin E n Q (.block id k) (.exit id') s
section
variable {E : Env} {d : Bool} {RK : Option (List Nat × (Nat → Bool))} {Q : Ex → AS → Prop} {r : List SOp} {T : Tmps} {M : Mem} {dst : Option Tmp} {op : Op} {n : Nat} {K : Kont} {x y : SC} {s : AS} {l : List SOp} {id id' : Nat} {u t : Tmp} {b : Bool} {o : Operand}
theorem toV (h : GV E d RK Q dst op r T M) : awpOps E d RK Q (⟨dst, op, none⟩ :: r) ⟨T, M⟩ := h
theorem toG (h : GG E d RK Q u t b op r T M) : awpOps E d RK Q (⟨some u, op, some (some t, b)⟩ :: r) ⟨T, M⟩ := h
theorem toG0 (h : GG0 E d RK Q t b op r T M) : awpOps E d RK Q (⟨none, op, some (some t, b)⟩ :: r) ⟨T, M⟩ := h
theorem toC (h : GC E n Q o x y K s) : Run E n Q (.cond o x y) K s := h
theorem toO [i : Live l] (h : GO E n Q d l (Live.L l) K T M) : Run E n Q (.ops d l) K ⟨T, M⟩ := h
theorem toW {ws : List Nat} [i : Live l] (h : GW E n Q ws l (Live.L l) K T M) : Run E n Q (.opsW ws l) K ⟨T, M⟩ := h
theorem toW2 {ws : List Nat} [i : Live l] [j : Rd l] (h : GW2 E n Q ws l (Live.L l) (Rd.K l) K T M) : Run E n Q (.opsW ws l) K ⟨T, M⟩ := h
theorem toX (h : GX E n Q id id' K s) : Fin E n Q (.block id K) (.exit id') s := h
end
section
variable {E : Env} {d : Bool} {RK : Option (List Nat × (Nat → Bool))} {Q : Ex → AS → Prop} {r : List SOp} {T : Tmps} {M : Mem} {dst : Option Tmp} {op : Op} {n : Nat} {K : Kont} {x y : SC} {s : AS}
theorem stV {v : AVal} {ups : List (Nat × ABlk)} {s' : AS} (hp : plainOp op = true := by with_unfolding_all rfl)
    (h : opS E.TE E.EQ ⟨T, M⟩ dst op = some (v, ups) := by (simp (disch := omega) only [↓Bp, Bq, En_TE, En_EQ, En_P, allocA, fieldA, moveA, indexAddrA, indexA, binA, arithA, shiftA, strA, eqvA, nilS, nilP, nilF, nils, unA, builtinA, mmA, sliceA, boundA, srcA, makeSliceA, TD.isAgg, AVal.known, AVal.cells, AVal.one, AVal.plain, AVal.withCells, isStore, AVal.at, AVal.atR, opCls, clsW, cst, Go.Value.cells, reduceCtorEq, ↓reduceIte, Nat.reduceAdd, Nat.reduceMul, Nat.reduceLeDiff, Nat.reduceEqDiff, Nat.reduceBEq, Int.reduceLE, Int.reduceLT, Int.reduceToNat, Nat.reduceLT, Nat.reduceSub, Int.reduceNeg, Int.reduceEq, Bt, bqs, eqA, eqFs, EQ0, eqL, kill, hF]; first | done | with_unfolding_all exact rfl))
    (hc : dchk d RK dst op T ups = true := by first | with_reducible exact dchk_text | with_unfolding_all rfl)
    (hs : AS.put ⟨T, ap M ups⟩ dst v = s' := by with_reducible first | exact put_v | exact put_k | exact put_s | exact put_n | exact put_k2 | exact put_s2)
    (k : awpOps E d RK Q r s') : GV E d RK Q dst op r T M := dv hp h hc hs k
theorem stG {t u : Tmp} {b : Bool} {x : AVal} (h : T t = x := by (simp (disch := omega) only [↓Bp, Bq, En_TE, En_EQ, En_P, allocA, fieldA, moveA, indexAddrA, indexA, binA, arithA, shiftA, strA, eqvA, nilS, nilP, nilF, nils, unA, builtinA, mmA, sliceA, boundA, srcA, makeSliceA, TD.isAgg, AVal.known, AVal.cells, AVal.one, AVal.plain, AVal.withCells, isStore, AVal.at, AVal.atR, opCls, clsW, cst, Go.Value.cells, reduceCtorEq, ↓reduceIte, Nat.reduceAdd, Nat.reduceMul, Nat.reduceLeDiff, Nat.reduceEqDiff, Nat.reduceBEq, Int.reduceLE, Int.reduceLT, Int.reduceToNat, Nat.reduceLT, Nat.reduceSub, Int.reduceNeg, Int.reduceEq, Bt, bqs, eqA, eqFs, EQ0, eqL, kill, hF]; first | done | with_unfolding_all exact rfl))
    (k : GuardG x b (awpOps E d RK Q (⟨some u, op, none⟩ :: r) ⟨T, M⟩) (awpOps E d RK Q r ⟨upd T u (.tup []), M⟩)) : GG E d RK Q u t b op r T M := dg h k
theorem stG0 {t : Tmp} {b : Bool} {x : AVal} (h : T t = x := by (simp (disch := omega) only [↓Bp, Bq, En_TE, En_EQ, En_P, allocA, fieldA, moveA, indexAddrA, indexA, binA, arithA, shiftA, strA, eqvA, nilS, nilP, nilF, nils, unA, builtinA, mmA, sliceA, boundA, srcA, makeSliceA, TD.isAgg, AVal.known, AVal.cells, AVal.one, AVal.plain, AVal.withCells, isStore, AVal.at, AVal.atR, opCls, clsW, cst, Go.Value.cells, reduceCtorEq, ↓reduceIte, Nat.reduceAdd, Nat.reduceMul, Nat.reduceLeDiff, Nat.reduceEqDiff, Nat.reduceBEq, Int.reduceLE, Int.reduceLT, Int.reduceToNat, Nat.reduceLT, Nat.reduceSub, Int.reduceNeg, Int.reduceEq, Bt, bqs, eqA, eqFs, EQ0, eqL, kill, hF]; first | done | with_unfolding_all exact rfl))
    (k : GuardG x b (awpOps E d RK Q (⟨none, op, none⟩ :: r) ⟨T, M⟩) (awpOps E d RK Q r ⟨T, M⟩)) : GG0 E d RK Q t b op r T M := dg0 h k
theorem stC {o : Operand} {v : AVal} (h : ev s.T o = v := by (simp (disch := omega) only [↓Bp, Bq, En_TE, En_EQ, En_P, allocA, fieldA, moveA, indexAddrA, indexA, binA, arithA, shiftA, strA, eqvA, nilS, nilP, nilF, nils, unA, builtinA, mmA, sliceA, boundA, srcA, makeSliceA, TD.isAgg, AVal.known, AVal.cells, AVal.one, AVal.plain, AVal.withCells, isStore, AVal.at, AVal.atR, opCls, clsW, cst, Go.Value.cells, reduceCtorEq, ↓reduceIte, Nat.reduceAdd, Nat.reduceMul, Nat.reduceLeDiff, Nat.reduceEqDiff, Nat.reduceBEq, Int.reduceLE, Int.reduceLT, Int.reduceToNat, Nat.reduceLT, Nat.reduceSub, Int.reduceNeg, Int.reduceEq, Bt, bqs, eqA, eqFs, EQ0, eqL, kill, hF]; first | done | with_unfolding_all exact rfl))
    (k : CondG v (Run E n Q x K s) (Run E n Q y K s)) : GC E n Q o x y K s := dc h k
theorem stO {T' : List (Nat × AVal)} {M' : Mem} {l : List SOp} {L : List Nat} {o : SOp} (hl : l = o :: r := by with_unfolding_all rfl)
    (hT : rstr L T = T' := by (simp only [Live.L, ↓Br, ↓reduceIte, Nat.reduceEqDiff, Option.getD]; first | done | with_unfolding_all exact rfl))
    (hM : M = M' := by (first | (simp only [upd_upd]; with_unfolding_all exact rfl) | with_unfolding_all exact rfl))
    (k : awpOps E d none (KQ E n Q K) (o :: r) ⟨tms T', M'⟩) : GO E n Q d l L K T M := Run.opsL0 hl L hT hM k
theorem stW (F : Nat → Bool) {ws : List Nat} {T' : List (Nat × AVal)} {M' : Mem} {l : List SOp} {L : List Nat} {o : SOp} (hl : l = o :: r := by with_unfolding_all rfl)
    (hT : rstr L T = T' := by (simp only [Live.L, ↓Br, ↓reduceIte, Nat.reduceEqDiff, Option.getD]; first | done | with_unfolding_all exact rfl))
    (hM : M = M' := by (first | (simp only [upd_upd]; with_unfolding_all exact rfl) | with_unfolding_all exact rfl))
    (k : awpOps E true (some (ws, F)) (KQ E n Q K) (o :: r) ⟨tms T', M'⟩) : GW E n Q ws l L K T M := Run.opsWL0 F hl L hT hM k
theorem stW2 {F : Nat → Bool} {F2 : Nat → Bool} {ws : List Nat} {T' : List (Nat × AVal)} {M' : Mem} {l : List SOp} {L : List Nat} {o : SOp} (hl : l = o :: r := by with_unfolding_all rfl)
    (hT : rstr L T = T' := by (simp only [Live.L, ↓Br, ↓reduceIte, Nat.reduceEqDiff, Option.getD]; first | done | with_unfolding_all exact rfl))
    (hM : M = M' := by (first | (simp only [upd_upd]; with_unfolding_all exact rfl) | with_unfolding_all exact rfl))
    (hF2 : F = F2 := by (simp only [Rd.K]; with_unfolding_all exact rfl)) (k : awpOps E true (some (ws, F2)) (KQ E n Q K) (o :: r) ⟨tms T', M'⟩) : GW2 E n Q ws l L F K T M := Run.opsWL0 F2 hl L hT hM k
theorem stX {Q : Ex → AS → Prop} {z : Kont} {id id' : Nat} (hne : (id' == id) = false := by with_unfolding_all rfl) (k : Fin E n Q z (.exit id') s) : GX E n Q id id' z s := Fin.block_other hne k
theorem stCall {t : Tmp} {x : Operand} {args : Array Operand} {ts : Array TypeId} {f : FuncId} {caps : List AVal} (l : List AVal) {v : AVal} (hf : ev T x = .fn f caps := by with_unfolding_all rfl)
    (hl : (evs T args.toList ++ caps).map (fz (fun _ => false) M) = l := by first | with_unfolding_all rfl | (simp [evs, ev, cst, fz, fzc, upd, tms, hL]; done)) (hs : stbs l = true := by first | (simp only [stbs, AVal.stb, encIs_stb, encRs_stb, encR_stb, encSs_stb, encP_stb, encPs_stb, encL_stb, Bool.and_true, Bool.true_and, Bool.and_self]; done) | (simp only [stbs, AVal.stb, encIs_stb, encRs_stb, encR_stb, encSs_stb, encP_stb, encPs_stb, encL_stb, Bool.and_true, Bool.true_and, Bool.and_self, hS]; done)) (he : Ev E.P f l (.ret v))
    (k : awpOps E d RK Q r ⟨upd T t v, M⟩) : awpOps E d RK Q (⟨some t, .call ⟨.value x, args, ts⟩, none⟩ :: r) ⟨T, M⟩ := awp_pure hf hl hs he k
theorem stGive {t : Tmp} {x : Operand} {args : Array Operand} {ts : Array TypeId} (K : Nat → Bool) {f : FuncId} {caps : List AVal} (l : List AVal) {v : AVal} (hf : ev T x = .fn f caps := by with_unfolding_all rfl)
    (hl : (evs T args.toList ++ caps).map (fz K M) = l := by first | with_unfolding_all rfl | simp [evs, ev, fz, fzc, upd, tms, mms, kill]) (hs : stbs l = true := by first | (simp only [stbs, AVal.stb, encIs_stb, encRs_stb, encR_stb, encSs_stb, encP_stb, encPs_stb, encL_stb, Bool.and_true, Bool.true_and, Bool.and_self]; done) | (simp only [stbs, AVal.stb, encIs_stb, encRs_stb, encR_stb, encSs_stb, encP_stb, encPs_stb, encL_stb, Bool.and_true, Bool.true_and, Bool.and_self, hS]; done)) (he : Ev E.P f l (.ret v))
    (hv : v.flt = false := by with_unfolding_all rfl) (k : awpOps E false none Q r ⟨upd T t v, kill K M⟩) : awpOps E false none Q (⟨some t, .call ⟨.value x, args, ts⟩, none⟩ :: r) ⟨T, M⟩ := awp_give K hf hl hs he hv k
theorem stNew {t : Tmp} {x : Operand} {args : Array Operand} {ts : Array TypeId} {f : FuncId} {caps : List AVal} (l : List AVal) {cs : List AVal} (hf : ev T x = .fn f caps := by with_unfolding_all rfl)
    (hl : (evs T args.toList ++ caps).map (fz (fun _ => false) M) = l := by first | with_unfolding_all rfl | (simp [evs, ev, cst, fz, fzc, upd, tms, hL]; done)) (hs : stbs l = true := by first | (simp only [stbs, AVal.stb, encIs_stb, encRs_stb, encR_stb, encSs_stb, encP_stb, encPs_stb, encL_stb, Bool.and_true, Bool.true_and, Bool.and_self]; done) | (simp only [stbs, AVal.stb, encIs_stb, encRs_stb, encR_stb, encSs_stb, encP_stb, encPs_stb, encL_stb, Bool.and_true, Bool.true_and, Bool.and_self, hS]; done)) (he : EvNew E.P f l cs)
    (hM : M t = none := by with_unfolding_all rfl) (k : awpOps E d none Q r ⟨upd T t (.ptr t 0), upd M t (some (.cells cs))⟩) : awpOps E d none Q (⟨some t, .call ⟨.value x, args, ts⟩, none⟩ :: r) ⟨T, M⟩ := awp_new hf hl hs he hM k
theorem stWk {l : List (Nat × AVal)} {m : List (Nat × ABlk)}
    (h : allT T l := by repeat (first | exact trivial | refine ⟨by with_unfolding_all rfl, ?_⟩ | (refine ⟨by simp [↓upd_app, ↓tms_cons', ↓mms_cons', ↓NoM', hW], ?_⟩)))
    (hm : allM M m := by repeat (first | exact trivial | refine ⟨by with_unfolding_all rfl, ?_⟩ | (refine ⟨by simp [↓upd_app, ↓tms_cons', ↓mms_cons', ↓NoM', hW], ?_⟩)))
    (hn : allNo (offL m) l := by repeat (first | exact trivial | (refine ⟨?_, ?_⟩; focus (first | with_unfolding_all rfl | (apply no_of_stb; simp only [stbs, AVal.stb, encIs_stb, encRs_stb, encR_stb, encSs_stb, encP_stb, encPs_stb, encL_stb, Bool.and_true, Bool.true_and, Bool.and_self, hW]; done)))))
    (hb : blkNo (offL m) m := by repeat (first | exact trivial | (refine ⟨?_, ?_⟩; focus (first | with_unfolding_all rfl | (apply arr_no; simp only [stbs, AVal.stb, encIs_stb, encRs_stb, encR_stb, encSs_stb, encP_stb, encPs_stb, encL_stb, Bool.and_true, Bool.true_and, Bool.and_self, hW]; done) | exact encT_no _ _ | exact encLo_no _ _ | exact encHi_no _ _ | (apply cells_no; simp only [stbs, AVal.stb, encIs_stb, encRs_stb, encR_stb, encSs_stb, encP_stb, encPs_stb, encL_stb, Bool.and_true, Bool.true_and, Bool.and_self, hW]; done) | (apply cells_ok; simp only [cellsOk, cellOk, List.all_cons, List.all_nil, stbs, AVal.stb, encIs_stb, encRs_stb, encR_stb, encSs_stb, encP_stb, encPs_stb, encL_stb, Bool.and_true, Bool.true_and, Bool.and_self, hW]; done) | (simp [ABlk.no, AVal.noC, AVal.no, AVal.stb, stbs, encIs_stb, encRs_stb, encR_stb, encSs_stb, encP_stb, encPs_stb, encL_stb, hW]; done))))) :
    Wk n ⟨T, M⟩ ⟨tms l, mms m⟩ := Wk.toL l m h hm hn hb
theorem stRet {t : Tmp} (x : AVal) (h : fz allK M (T t) = x := by first | with_unfolding_all rfl | simp [fz, fzc, allK, upd, tms, mms]) (hs : x.stb = true := by first | with_unfolding_all rfl | simp only [stbs, AVal.stb, encIs_stb, encRs_stb, encR_stb, encSs_stb, encP_stb, encPs_stb, encL_stb, Bool.and_true, Bool.true_and, Bool.and_self]) :
    Fin E n (FnQ E.TE [.tmp t] (.ret x)) .done .ret ⟨T, M⟩ := Fin.tmp' h hs
end
end Go.Proofs.Ytdmfjkhbodbgoaa.Avm

namespace Go.Proofs.Ytdmfjkhbodbgoaa.Avm
open Go.Proofs
def r_spanclip_1 : List SOp :=
  [⟨(some 1), (.box 73 (.tmp 0)), none⟩, ⟨(some 2), (.alloc 73), none⟩, ⟨(some 3), (.assign (.const (.bool false))), none⟩]
instance : Live r_spanclip_1 := ⟨[0]⟩
def r_spanclip_2 : List SOp :=
  [⟨(some 4), (.fieldAddr 73 (.tmp 1) 0), none⟩, ⟨(some 5), (.load 3 (.tmp 4)), none⟩, ⟨(some 6), (.call ⟨.builtin .max, #[.tmp 5, .const (.int .i64 1)], #[3, 3]⟩), none⟩, ⟨(some 7), (.fieldAddr 73 (.tmp 1) 1), none⟩, ⟨(some 8), (.load 3 (.tmp 7)), none⟩, ⟨(some 9), (.call ⟨.builtin .min, #[.tmp 8, .const (.int .i64 1000000000)], #[3, 3]⟩), none⟩, ⟨(some 10), (.fieldAddr 73 (.tmp 1) 0), none⟩, ⟨none, (.store 3 (.tmp 10) (.tmp 6)), none⟩, ⟨(some 11), (.fieldAddr 73 (.tmp 1) 1), none⟩, ⟨none, (.store 3 (.tmp 11) (.tmp 9)), none⟩]
instance : Live r_spanclip_2 := ⟨[1, 2]⟩
def r_spanclip_3 : List SOp :=
  [⟨(some 12), (.load 73 (.tmp 1)), none⟩, ⟨(some 13), (.fieldAddr 73 (.tmp 1) 0), none⟩, ⟨(some 14), (.load 3 (.tmp 13)), none⟩, ⟨(some 15), (.fieldAddr 73 (.tmp 1) 1), none⟩, ⟨(some 16), (.load 3 (.tmp 15)), none⟩, ⟨(some 17), (.binOp .leq 3 (.tmp 14) (.tmp 16) 3), none⟩, ⟨none, (.store 73 (.tmp 2) (.tmp 12)), none⟩, ⟨(some 3), (.assign (.tmp 17)), none⟩]
instance : Live r_spanclip_3 := ⟨[1, 2]⟩
instance : Rd r_spanclip_3 := ⟨fun j => j == 1⟩
def t_spanclip : SC :=
  (.seq (.ops false r_spanclip_1) (.seq (.ops false r_spanclip_2) (.seq (.opsW [] r_spanclip_3) .ret)))
theorem it_spanclip : FnIs Try.prog 88 18 [.cell 2 73, .tmp 3] t_spanclip := ⟨Try.f88, _, Try.func88, rfl, rfl, rfl, rfl, by kernel_rfl⟩
end Go.Proofs.Ytdmfjkhbodbgoaa.Avm

namespace Go.Proofs.Ytdmfjkhbodbgoaa.Avm
open Go.Proofs
def r_spanUnion1_1 : List SOp :=
  [⟨(some 2), (.box 73 (.tmp 0)), none⟩, ⟨(some 3), (.box 73 (.tmp 1)), none⟩, ⟨(some 4), (.assign (.const (.int .i64 0))), none⟩]
instance : Live r_spanUnion1_1 := ⟨[0, 1]⟩
def r_spanUnion1_2 : List SOp :=
  [⟨(some 5), (.fieldAddr 73 (.tmp 2) 0), none⟩, ⟨(some 6), (.load 3 (.tmp 5)), none⟩, ⟨(some 7), (.fieldAddr 73 (.tmp 3) 0), none⟩, ⟨(some 8), (.load 3 (.tmp 7)), none⟩, ⟨(some 9), (.binOp .sub 3 (.tmp 6) (.tmp 8) 3), none⟩, ⟨(some 4), (.assign (.tmp 9)), none⟩]
instance : Live r_spanUnion1_2 := ⟨[2, 3]⟩
def t_spanUnion1 : SC :=
  (.seq (.ops false r_spanUnion1_1) (.seq (.ops false r_spanUnion1_2) .ret))
theorem it_spanUnion1 : FnIs Try.prog 110 10 [.tmp 4] t_spanUnion1 := ⟨Try.f110, _, Try.func110, rfl, rfl, rfl, rfl, by kernel_rfl⟩
end Go.Proofs.Ytdmfjkhbodbgoaa.Avm

namespace Go.Proofs.Ytdmfjkhbodbgoaa.Avm
open Go.Proofs
def r_spanadd_1 : List SOp :=
  [⟨(some 3), (.box 73 (.tmp 1)), none⟩, ⟨(some 4), (.assign (.const (.slice none 0 0))), none⟩]
instance : Live r_spanadd_1 := ⟨[0, 1]⟩
def r_spanadd_2 : List SOp :=
  [⟨(some 6), (.move (.tmp 0)), none⟩, ⟨(some 7), (.call ⟨.builtin .len, #[.tmp 6], #[58]⟩), none⟩, ⟨(some 5), (.assign (.tmp 7)), none⟩]
instance : Live r_spanadd_2 := ⟨[0, 3]⟩
def r_spanadd_3 : List SOp :=
  [⟨(some 8), (.move (.tmp 5)), none⟩, ⟨(some 9), (.binOp .gtr 3 (.tmp 8) (.const (.int .i64 0)) 3), none⟩, ⟨(some 10), (.move (.tmp 9)), none⟩, ⟨(some 11), (.fieldAddr 73 (.tmp 3) 0), (some ((some 10), true))⟩, ⟨(some 12), (.load 3 (.tmp 11)), (some ((some 10), true))⟩, ⟨(some 13), (.move (.tmp 0)), (some ((some 10), true))⟩, ⟨(some 14), (.move (.tmp 5)), (some ((some 10), true))⟩, ⟨(some 15), (.binOp .sub 3 (.tmp 14) (.const (.int .i64 1)) 3), (some ((some 10), true))⟩, ⟨(some 16), (.indexAddr 58 (.tmp 13) (.tmp 15)), (some ((some 10), true))⟩, ⟨(some 17), (.fieldAddr 73 (.tmp 16) 1), (some ((some 10), true))⟩, ⟨(some 18), (.load 3 (.tmp 17)), (some ((some 10), true))⟩, ⟨(some 19), (.binOp .add 3 (.tmp 18) (.const (.int .i64 1)) 3), (some ((some 10), true))⟩, ⟨(some 20), (.binOp .leq 3 (.tmp 12) (.tmp 19) 3), (some ((some 10), true))⟩, ⟨(some 21), (.pick (.tmp 10) (.tmp 20) (.const (.bool false))), none⟩]
instance : Live r_spanadd_3 := ⟨[0, 3, 5]⟩
def r_spanadd_4 : List SOp :=
  [⟨(some 22), (.move (.tmp 0)), none⟩, ⟨(some 23), (.move (.tmp 5)), none⟩, ⟨(some 24), (.binOp .sub 3 (.tmp 23) (.const (.int .i64 1)) 3), none⟩, ⟨(some 25), (.move (.tmp 0)), none⟩, ⟨(some 26), (.move (.tmp 5)), none⟩, ⟨(some 27), (.binOp .sub 3 (.tmp 26) (.const (.int .i64 1)) 3), none⟩, ⟨(some 28), (.indexAddr 58 (.tmp 25) (.tmp 27)), none⟩, ⟨(some 29), (.fieldAddr 73 (.tmp 28) 1), none⟩, ⟨(some 30), (.load 3 (.tmp 29)), none⟩, ⟨(some 31), (.fieldAddr 73 (.tmp 3) 1), none⟩, ⟨(some 32), (.load 3 (.tmp 31)), none⟩, ⟨(some 33), (.call ⟨.builtin .max, #[.tmp 30, .tmp 32], #[3, 3]⟩), none⟩, ⟨(some 34), (.indexAddr 58 (.tmp 22) (.tmp 24)), none⟩, ⟨(some 35), (.fieldAddr 73 (.tmp 34) 1), none⟩, ⟨none, (.store 3 (.tmp 35) (.tmp 33)), none⟩]
instance : Live r_spanadd_4 := ⟨[0, 3, 5]⟩
def r_spanadd_5 : List SOp :=
  [⟨(some 36), (.move (.tmp 0)), none⟩, ⟨(some 4), (.assign (.tmp 36)), none⟩]
instance : Live r_spanadd_5 := ⟨[0]⟩
def r_spanadd_6 : List SOp :=
  [⟨(some 37), (.move (.tmp 0)), none⟩, ⟨(some 38), (.load 73 (.tmp 3)), none⟩, ⟨(some 39), (.buildSlice 58 1 #[(0, .tmp 38)]), none⟩, ⟨(some 40), (.call ⟨.builtin .append, #[.tmp 37, .tmp 39], #[58, 58]⟩), none⟩, ⟨(some 4), (.assign (.tmp 40)), none⟩]
instance : Live r_spanadd_6 := ⟨[0, 3]⟩
def t_spanadd : SC :=
  (.seq (.ops false r_spanadd_1) (.seq (.seq (.ops false r_spanadd_2) (.seq (.ops true r_spanadd_3) (.cond (.tmp 21) (.seq (.ops true r_spanadd_4) (.seq (.ops false r_spanadd_5) .ret)) .skip))) (.seq (.ops false r_spanadd_6) .ret)))
theorem it_spanadd : FnIs Try.prog 111 41 [.tmp 4] t_spanadd := ⟨Try.f111, _, Try.func111, rfl, rfl, rfl, rfl, by kernel_rfl⟩
end Go.Proofs.Ytdmfjkhbodbgoaa.Avm

namespace Go.Proofs.Ytdmfjkhbodbgoaa.Avm
open Go.Proofs
abbrev Rn := Int × Int
def encR (r : Rn) : AVal := .agg [.int .i64 r.1, .int .i64 r.2]
def clipR (r : Rn) : Rn := (max r.1 1, min r.2 1000000000)
theorem ev_spanclip (r : Rn) : Ev (En Try.prog rfl).P 88 [encR r] (.ret (.tup [encR (clipR r), .bool (decide ((clipR r).1 ≤ (clipR r).2))])) := by
  refine Ev.of_body it_spanclip (by simp) (Run.start ?_)
  unfold t_spanclip encR
  (focus (have hF := True.intro; (repeat' (first | (with_reducible refine Nx.of ?_) | ((with_reducible apply toV); refine stV (k := ?_)) | ((with_reducible apply toG); refine stG (k := ?_); (with_reducible refine Nx.of ?_)) | ((with_reducible apply toG0); refine stG0 (k := ?_); (with_reducible refine Nx.of ?_)) | ((with_reducible apply toC); refine stC (k := ?_); (with_reducible refine Nx.of ?_)) | ((with_reducible apply toO); refine stO (k := ?_)) | ((with_reducible apply toX); refine stX (k := ?_)) | fail)); (all_goals clear hF)))
  ((with_reducible apply toW); refine stW (fun j => j == 1) (k := ?_))
  (focus (have hF := True.intro; (repeat' (first | (with_reducible refine Nx.of ?_) | ((with_reducible apply toV); refine stV (k := ?_)) | ((with_reducible apply toG); refine stG (k := ?_); (with_reducible refine Nx.of ?_)) | ((with_reducible apply toG0); refine stG0 (k := ?_); (with_reducible refine Nx.of ?_)) | ((with_reducible apply toC); refine stC (k := ?_); (with_reducible refine Nx.of ?_)) | ((with_reducible apply toO); refine stO (k := ?_)) | ((with_reducible apply toX); refine stX (k := ?_)) | fail)); (all_goals clear hF)))
  exact Fin.all rfl rfl rfl
theorem wrap_id {x : Int} (h : -9223372036854775808 ≤ x ∧ x ≤ 9223372036854775807) : IntKind.i64.wrap x = x := by
  simp only [IntKind.wrap, IntKind.bits, IntKind.signed]
  simp
  omega
theorem ev_spanUnion1 (x y : Rn) (hx : -1000000000000 ≤ x.1 ∧ x.1 ≤ 1000000000000) (hy : -1000000000000 ≤ y.1 ∧ y.1 ≤ 1000000000000) : Ev (En Try.prog rfl).P 110 [encR x, encR y] (.ret (.int .i64 (x.1 - y.1))) := by
  refine Ev.of_body it_spanUnion1 (by simp) (Run.start ?_)
  have hw : IntKind.i64.wrap (x.1 - y.1) = x.1 - y.1 := wrap_id (by omega)
  unfold t_spanUnion1 encR
  (focus (have hF := @hw; (repeat' (first | (with_reducible refine Nx.of ?_) | ((with_reducible apply toV); refine stV (k := ?_)) | ((with_reducible apply toG); refine stG (k := ?_); (with_reducible refine Nx.of ?_)) | ((with_reducible apply toG0); refine stG0 (k := ?_); (with_reducible refine Nx.of ?_)) | ((with_reducible apply toC); refine stC (k := ?_); (with_reducible refine Nx.of ?_)) | ((with_reducible apply toO); refine stO (k := ?_)) | ((with_reducible apply toX); refine stX (k := ?_)) | fail)); (all_goals clear hF)))
  exact Fin.all rfl rfl rfl
def encRs (l : List Rn) : List AVal := l.map encR
theorem encR_stb (r : Rn) : (encR r).stb = true := rfl
theorem encRs_stb (l : List Rn) : stbs (encRs l) = true := stbs_map encR_stb
theorem encRs_len (l : List Rn) : (encRs l).length = l.length := by simp [encRs]
def addR (out : List Rn) (r : Rn) : List Rn :=
  match out.getLast? with
  | some l => if r.1 ≤ l.2 + 1 then out.dropLast ++ [(l.1, max l.2 r.2)] else out ++ [r]
  | none => [r]
theorem addR_nil (r : Rn) : addR [] r = [r] := rfl
theorem addR_snoc (l : List Rn) (x r : Rn) : addR (l ++ [x]) r = if r.1 ≤ x.2 + 1 then l ++ [(x.1, max x.2 r.2)] else l ++ [x] ++ [r] := by
  simp [addR]
theorem ev_spanadd (out : List Rn) (r : Rn) (hb : ∀ x ∈ out, -1000000000000 ≤ x.2 ∧ x.2 ≤ 1000000000000) (hl : out.length ≤ 1000000000) :
    EvOwn (En Try.prog rfl).P 111 [.undef, encR r] 0 2 (encRs out) true .undef (encRs (addR out r)) := by
  refine EvOwn.of_body it_spanadd (by simp) (Run.start ?_)
  unfold t_spanadd encR initO
  rcases List.eq_nil_or_concat out with rfl | ⟨l, x, rfl⟩
  · have e0 : encRs [] = [] := rfl
    rw [e0]
    (focus (have hF := True.intro; (repeat' (first | (with_reducible refine Nx.of ?_) | ((with_reducible apply toV); refine stV (k := ?_)) | ((with_reducible apply toG); refine stG (k := ?_); (with_reducible refine Nx.of ?_)) | ((with_reducible apply toG0); refine stG0 (k := ?_); (with_reducible refine Nx.of ?_)) | ((with_reducible apply toC); refine stC (k := ?_); (with_reducible refine Nx.of ?_)) | ((with_reducible apply toO); refine stO (k := ?_)) | ((with_reducible apply toX); refine stX (k := ?_)) | fail)); (all_goals clear hF)))
    exact Fin.done ⟨_, rfl, rfl, encRs_stb _⟩
  · simp only [List.concat_eq_append] at *
    have hbx := hb x (by simp)
    rw [addR_snoc]
    have hlen : (encRs (l ++ [x])).length = l.length + 1 := by simp [encRs]
    have hget : (encRs (l ++ [x]))[l.length]? = some (.agg [.int .i64 x.1, .int .i64 x.2]) := by simp [encRs, encR]
    have hset : ∀ a b, (encRs (l ++ [x])).set l.length (.agg [.int .i64 a, .int .i64 b]) = encRs (l ++ [(a, b)]) := fun a b => by simp [encRs, encR]
    have happ : ∀ a b, encRs (l ++ [x]) ++ [.agg [.int .i64 a, .int .i64 b]] = encRs (l ++ [x] ++ [(a, b)]) := fun a b => by simp [encRs, encR]
    generalize hL : encRs (l ++ [x]) = L at *
    generalize hm : l.length = m at *
    have hm2 : m ≤ 1000000000 := by simp at hl; omega
    have e1 : decide (0 < ((m + 1 : Nat) : Int)) = true := by simp only [decide_eq_true_eq]; omega
    have e2 : IntKind.i64.wrap (((m + 1 : Nat) : Int) - 1) = (m : Int) := by rw [wrap_id (by omega)]; omega
    have e3 : (0 ≤ (m : Int)) = True := by simp
    have e4 : ((m : Int) < ((m + 1 : Nat) : Int)) = True := by simp only [eq_iff_iff, iff_true]; omega
    have e5 : IntKind.i64.wrap (x.2 + 1) = x.2 + 1 := wrap_id (by omega)
    have e6 : ((m + 1 + 1) * 16 ≤ 70368744177664) = True := by simp only [eq_iff_iff, iff_true]; omega
    have e7 : (m + 1 + 1 ≤ 4611686018427387904) = True := by simp only [eq_iff_iff, iff_true]; omega
    (focus (have hF := (And.intro (And.intro (And.intro @hlen @e1) (And.intro @e2 (And.intro @e3 @e4))) (And.intro (And.intro @e5 (And.intro @e6 @e7)) (And.intro @hget (And.intro @hset @happ)))); (repeat' (first | (with_reducible refine Nx.of ?_) | ((with_reducible apply toV); refine stV (k := ?_)) | ((with_reducible apply toG); refine stG (k := ?_); (with_reducible refine Nx.of ?_)) | ((with_reducible apply toG0); refine stG0 (k := ?_); (with_reducible refine Nx.of ?_)) | ((with_reducible apply toC); refine stC (k := ?_); (with_reducible refine Nx.of ?_)) | ((with_reducible apply toO); refine stO (k := ?_)) | ((with_reducible apply toX); refine stX (k := ?_)) | fail)); (all_goals clear hF)))
    refine Run.cond _ rfl (fun hc => ?_) (fun hc => ?_)
    · simp only [decide_eq_true_eq] at hc
      rw [if_pos hc]
      (focus (have hF := (And.intro (And.intro (And.intro @hlen @e1) (And.intro @e2 (And.intro @e3 @e4))) (And.intro (And.intro @e5 (And.intro @e6 @e7)) (And.intro @hget (And.intro @hset @happ)))); (repeat' (first | (with_reducible refine Nx.of ?_) | ((with_reducible apply toV); refine stV (k := ?_)) | ((with_reducible apply toG); refine stG (k := ?_); (with_reducible refine Nx.of ?_)) | ((with_reducible apply toG0); refine stG0 (k := ?_); (with_reducible refine Nx.of ?_)) | ((with_reducible apply toC); refine stC (k := ?_); (with_reducible refine Nx.of ?_)) | ((with_reducible apply toO); refine stO (k := ?_)) | ((with_reducible apply toX); refine stX (k := ?_)) | fail)); (all_goals clear hF)))
      exact Fin.done ⟨_, rfl, rfl, encRs_stb _⟩
    · simp only [decide_eq_false_iff_not] at hc
      rw [if_neg hc]
      (focus (have hF := (And.intro (And.intro (And.intro @hlen @e1) (And.intro @e2 (And.intro @e3 @e4))) (And.intro (And.intro @e5 (And.intro @e6 @e7)) (And.intro @hget (And.intro @hset @happ)))); (repeat' (first | (with_reducible refine Nx.of ?_) | ((with_reducible apply toV); refine stV (k := ?_)) | ((with_reducible apply toG); refine stG (k := ?_); (with_reducible refine Nx.of ?_)) | ((with_reducible apply toG0); refine stG0 (k := ?_); (with_reducible refine Nx.of ?_)) | ((with_reducible apply toC); refine stC (k := ?_); (with_reducible refine Nx.of ?_)) | ((with_reducible apply toO); refine stO (k := ?_)) | ((with_reducible apply toX); refine stX (k := ?_)) | fail)); (all_goals clear hF)))
      exact Fin.done ⟨_, rfl, rfl, encRs_stb _⟩
end Go.Proofs.Ytdmfjkhbodbgoaa.Avm

namespace Go.Proofs.Ytdmfjkhbodbgoaa.Avm
open Go.Proofs
def r_slicesCloneapiRunapiRun_1 : List SOp :=
  [⟨(some 2), (.assign (.const (.slice none 0 0))), none⟩]
instance : Live r_slicesCloneapiRunapiRun_1 := ⟨[0]⟩
def r_slicesCloneapiRunapiRun_2 : List SOp :=
  [⟨(some 3), (.move (.tmp 0)), none⟩, ⟨(some 4), (.binOp .eql 58 (.tmp 3) (.const (.slice none 0 0)) 58), none⟩]
instance : Live r_slicesCloneapiRunapiRun_2 := ⟨[0]⟩
def r_slicesCloneapiRunapiRun_3 : List SOp :=
  [⟨(some 2), (.assign (.const (.slice none 0 0))), none⟩]
instance : Live r_slicesCloneapiRunapiRun_3 := ⟨[]⟩
def r_slicesCloneapiRunapiRun_4 : List SOp :=
  [⟨(some 5), (.buildSlice 58 0 #[]), none⟩, ⟨(some 6), (.move (.tmp 0)), none⟩, ⟨(some 7), (.call ⟨.builtin .append, #[.tmp 5, .tmp 6], #[58, 58]⟩), none⟩, ⟨(some 2), (.assign (.tmp 7)), none⟩]
instance : Live r_slicesCloneapiRunapiRun_4 := ⟨[0]⟩
def t_slicesCloneapiRunapiRun : SC :=
  (.seq (.ops false r_slicesCloneapiRunapiRun_1) (.seq (.seq (.ops false r_slicesCloneapiRunapiRun_2) (.cond (.tmp 4) (.seq (.ops false r_slicesCloneapiRunapiRun_3) .ret) .skip)) (.seq (.ops false r_slicesCloneapiRunapiRun_4) .ret)))
theorem it_slicesCloneapiRunapiRun : FnIs Try.prog 105 8 [.tmp 2] t_slicesCloneapiRunapiRun := ⟨Try.f105, _, Try.func105, rfl, rfl, rfl, rfl, by kernel_rfl⟩
end Go.Proofs.Ytdmfjkhbodbgoaa.Avm

namespace Go.Proofs.Ytdmfjkhbodbgoaa.Avm
open Go.Proofs
def r_slicesCloneintint_1 : List SOp :=
  [⟨(some 2), (.assign (.const (.slice none 0 0))), none⟩]
instance : Live r_slicesCloneintint_1 := ⟨[0]⟩
def r_slicesCloneintint_2 : List SOp :=
  [⟨(some 3), (.move (.tmp 0)), none⟩, ⟨(some 4), (.binOp .eql 22 (.tmp 3) (.const (.slice none 0 0)) 22), none⟩]
instance : Live r_slicesCloneintint_2 := ⟨[0]⟩
def r_slicesCloneintint_3 : List SOp :=
  [⟨(some 2), (.assign (.const (.slice none 0 0))), none⟩]
instance : Live r_slicesCloneintint_3 := ⟨[]⟩
def r_slicesCloneintint_4 : List SOp :=
  [⟨(some 5), (.buildSlice 22 0 #[]), none⟩, ⟨(some 6), (.move (.tmp 0)), none⟩, ⟨(some 7), (.call ⟨.builtin .append, #[.tmp 5, .tmp 6], #[22, 22]⟩), none⟩, ⟨(some 2), (.assign (.tmp 7)), none⟩]
instance : Live r_slicesCloneintint_4 := ⟨[0]⟩
def t_slicesCloneintint : SC :=
  (.seq (.ops false r_slicesCloneintint_1) (.seq (.seq (.ops false r_slicesCloneintint_2) (.cond (.tmp 4) (.seq (.ops false r_slicesCloneintint_3) .ret) .skip)) (.seq (.ops false r_slicesCloneintint_4) .ret)))
theorem it_slicesCloneintint : FnIs Try.prog 91 8 [.tmp 2] t_slicesCloneintint := ⟨Try.f91, _, Try.func91, rfl, rfl, rfl, rfl, by kernel_rfl⟩
end Go.Proofs.Ytdmfjkhbodbgoaa.Avm

namespace Go.Proofs.Ytdmfjkhbodbgoaa.Avm
open Go.Proofs
theorem ev_slicesCloneapiRunapiRun (l : List Rn) (hl : l.length ≤ 1000000000) : Ev (En Try.prog rfl).P 105 [.sl 2 (encRs l)] (.ret (.sl 2 (encRs l))) := by
  refine Ev.of_body it_slicesCloneapiRunapiRun (by simp) (Run.start ?_)
  unfold t_slicesCloneapiRunapiRun
  cases l with
  | nil =>
    have e0 : encRs [] = [] := rfl
    rw [e0]
    (focus (have hF := True.intro; (repeat' (first | (with_reducible refine Nx.of ?_) | ((with_reducible apply toV); refine stV (k := ?_)) | ((with_reducible apply toG); refine stG (k := ?_); (with_reducible refine Nx.of ?_)) | ((with_reducible apply toG0); refine stG0 (k := ?_); (with_reducible refine Nx.of ?_)) | ((with_reducible apply toC); refine stC (k := ?_); (with_reducible refine Nx.of ?_)) | ((with_reducible apply toO); refine stO (k := ?_)) | ((with_reducible apply toX); refine stX (k := ?_)) | fail)); (all_goals clear hF)))
    refine awp_hook (Hook.nil_eq (En Try.prog rfl).hT (sz := 2) TE_58 (by simp only [opS, opA, ev, cst, upd, evs, evp, initT, initO, NoM, En_TE, En_EQ, En_P, Option.getD, Option.map_some, Option.map_none, List.map_cons, List.map_nil, List.getElem?_cons_zero, List.getElem?_cons_succ, List.getElem?_nil, List.all_cons, List.all_nil, List.length_cons, List.length_nil, List.take_succ_cons, List.take_zero, List.drop_succ_cons, List.drop_zero, List.set_cons_zero, List.set_cons_succ, List.cons_append, List.nil_append, List.append_nil, List.toList_toArray, allocA, boxA, loadA, storeA, fieldAddrA, fieldA, moveA, indexAddrA, indexA, buildA, fillA, placeS, partA, binA, arithA, shiftA, strA, eqvA, nilS, nilP, nilF, nils, unA, convA, lenA, builtinA, mmA, sliceA, boundA, appendA, srcA, buildSliceA, setP, makeSliceA, TyI.zeros, TyI.zeroElem, TyI.okElem, TD.isAgg, Value.cells, AVal.known, AVal.cells, AVal.one, AVal.plain, splice, AVal.withCells, reduceCtorEq, ↓reduceIte, if_true, if_false, Bool.false_eq_true, false_implies, true_implies, implies_true, true_and, and_true, and_self, ne_eq, not_true, not_false_iff, Bool.and_true, Bool.true_and, Bool.and_false, Bool.false_and, Bool.or_true, Bool.true_or, Bool.or_false, Bool.false_or, Bool.not_true, Bool.not_false, beq_self_eq_true, Nat.reduceAdd, Nat.reduceMul, Nat.reduceLeDiff, Nat.reduceEqDiff, Nat.reduceBEq, Nat.mul_one, Nat.le_refl, Nat.zero_add, Nat.add_zero, Option.isSome_some, decide_true, decide_false, pick_bool, pick_int, List.replicate_succ, List.replicate_zero, List.flatMap_cons, List.flatMap_nil, flat, tms, mms, Array.size_empty, dchk, rkOk, isStore, Op.operands, AVal.at, AVal.atR, opCls, clsO, clsW, Option.map_some, List.contains_cons, List.contains_nil, List.isEmpty_nil, List.isEmpty_cons, Int.toNat_natCast, Int.natCast_nonneg, Int.reduceLE, Int.reduceLT, Int.reduceToNat, Nat.reduceLT, Nat.reduceSub, Int.reduceNeg, Int.reduceEq])) ?_
    rintro v M' ⟨rfl, b, rfl⟩
    dsimp only [AS.put]
    (focus (have hF := True.intro; (repeat' (first | (with_reducible refine Nx.of ?_) | ((with_reducible apply toV); refine stV (k := ?_)) | ((with_reducible apply toG); refine stG (k := ?_); (with_reducible refine Nx.of ?_)) | ((with_reducible apply toG0); refine stG0 (k := ?_); (with_reducible refine Nx.of ?_)) | ((with_reducible apply toC); refine stC (k := ?_); (with_reducible refine Nx.of ?_)) | ((with_reducible apply toO); refine stO (k := ?_)) | ((with_reducible apply toX); refine stX (k := ?_)) | fail)); (all_goals clear hF)))
    refine Run.cond _ rfl (fun hc => ?_) (fun hc => ?_)
    · (focus (have hF := True.intro; (repeat' (first | (with_reducible refine Nx.of ?_) | ((with_reducible apply toV); refine stV (k := ?_)) | ((with_reducible apply toG); refine stG (k := ?_); (with_reducible refine Nx.of ?_)) | ((with_reducible apply toG0); refine stG0 (k := ?_); (with_reducible refine Nx.of ?_)) | ((with_reducible apply toC); refine stC (k := ?_); (with_reducible refine Nx.of ?_)) | ((with_reducible apply toO); refine stO (k := ?_)) | ((with_reducible apply toX); refine stX (k := ?_)) | fail)); (all_goals clear hF)))
      exact Fin.nil rfl
    · (focus (have hF := True.intro; (repeat' (first | (with_reducible refine Nx.of ?_) | ((with_reducible apply toV); refine stV (k := ?_)) | ((with_reducible apply toG); refine stG (k := ?_); (with_reducible refine Nx.of ?_)) | ((with_reducible apply toG0); refine stG0 (k := ?_); (with_reducible refine Nx.of ?_)) | ((with_reducible apply toC); refine stC (k := ?_); (with_reducible refine Nx.of ?_)) | ((with_reducible apply toO); refine stO (k := ?_)) | ((with_reducible apply toX); refine stX (k := ?_)) | fail)); (all_goals clear hF)))
      exact Fin.tmp' rfl rfl
  | cons x l =>
    have e1 : encRs (x :: l) = encR x :: encRs l := rfl
    have e2 : (encRs l).length = l.length := encRs_len l
    have e3 : ((l.length + 1) * 16 ≤ 70368744177664) = True := by simp only [eq_iff_iff, iff_true]; simp at hl; omega
    have e4 : (l.length + 1 ≤ 4611686018427387904) = True := by simp only [eq_iff_iff, iff_true]; simp at hl; omega
    rw [e1]
    (focus (have hF := (And.intro @e2 (And.intro @e3 @e4)); (repeat' (first | (with_reducible refine Nx.of ?_) | ((with_reducible apply toV); refine stV (k := ?_)) | ((with_reducible apply toG); refine stG (k := ?_); (with_reducible refine Nx.of ?_)) | ((with_reducible apply toG0); refine stG0 (k := ?_); (with_reducible refine Nx.of ?_)) | ((with_reducible apply toC); refine stC (k := ?_); (with_reducible refine Nx.of ?_)) | ((with_reducible apply toO); refine stO (k := ?_)) | ((with_reducible apply toX); refine stX (k := ?_)) | fail)); (all_goals clear hF)))
    exact Fin.tmp' rfl (encRs_stb (x :: l))
def encI (n : Int) : AVal := .int .i64 n
def encIs (l : List Int) : List AVal := l.map encI
theorem encIs_stb (l : List Int) : stbs (encIs l) = true := stbs_map fun _ => rfl
theorem encIs_len (l : List Int) : (encIs l).length = l.length := by simp [encIs]
theorem ev_slicesCloneintint (l : List Int) (hl : l.length ≤ 1000000000) : Ev (En Try.prog rfl).P 91 [.sl 1 (encIs l)] (.ret (.sl 1 (encIs l))) := by
  refine Ev.of_body it_slicesCloneintint (by simp) (Run.start ?_)
  unfold t_slicesCloneintint
  cases l with
  | nil =>
    have e0 : encIs [] = [] := rfl
    rw [e0]
    (focus (have hF := True.intro; (repeat' (first | (with_reducible refine Nx.of ?_) | ((with_reducible apply toV); refine stV (k := ?_)) | ((with_reducible apply toG); refine stG (k := ?_); (with_reducible refine Nx.of ?_)) | ((with_reducible apply toG0); refine stG0 (k := ?_); (with_reducible refine Nx.of ?_)) | ((with_reducible apply toC); refine stC (k := ?_); (with_reducible refine Nx.of ?_)) | ((with_reducible apply toO); refine stO (k := ?_)) | ((with_reducible apply toX); refine stX (k := ?_)) | fail)); (all_goals clear hF)))
    refine awp_hook (Hook.nil_eq (En Try.prog rfl).hT (sz := 1) TE_22 (by simp only [opS, opA, ev, cst, upd, evs, evp, initT, initO, NoM, En_TE, En_EQ, En_P, Option.getD, Option.map_some, Option.map_none, List.map_cons, List.map_nil, List.getElem?_cons_zero, List.getElem?_cons_succ, List.getElem?_nil, List.all_cons, List.all_nil, List.length_cons, List.length_nil, List.take_succ_cons, List.take_zero, List.drop_succ_cons, List.drop_zero, List.set_cons_zero, List.set_cons_succ, List.cons_append, List.nil_append, List.append_nil, List.toList_toArray, allocA, boxA, loadA, storeA, fieldAddrA, fieldA, moveA, indexAddrA, indexA, buildA, fillA, placeS, partA, binA, arithA, shiftA, strA, eqvA, nilS, nilP, nilF, nils, unA, convA, lenA, builtinA, mmA, sliceA, boundA, appendA, srcA, buildSliceA, setP, makeSliceA, TyI.zeros, TyI.zeroElem, TyI.okElem, TD.isAgg, Value.cells, AVal.known, AVal.cells, AVal.one, AVal.plain, splice, AVal.withCells, reduceCtorEq, ↓reduceIte, if_true, if_false, Bool.false_eq_true, false_implies, true_implies, implies_true, true_and, and_true, and_self, ne_eq, not_true, not_false_iff, Bool.and_true, Bool.true_and, Bool.and_false, Bool.false_and, Bool.or_true, Bool.true_or, Bool.or_false, Bool.false_or, Bool.not_true, Bool.not_false, beq_self_eq_true, Nat.reduceAdd, Nat.reduceMul, Nat.reduceLeDiff, Nat.reduceEqDiff, Nat.reduceBEq, Nat.mul_one, Nat.le_refl, Nat.zero_add, Nat.add_zero, Option.isSome_some, decide_true, decide_false, pick_bool, pick_int, List.replicate_succ, List.replicate_zero, List.flatMap_cons, List.flatMap_nil, flat, tms, mms, Array.size_empty, dchk, rkOk, isStore, Op.operands, AVal.at, AVal.atR, opCls, clsO, clsW, Option.map_some, List.contains_cons, List.contains_nil, List.isEmpty_nil, List.isEmpty_cons, Int.toNat_natCast, Int.natCast_nonneg, Int.reduceLE, Int.reduceLT, Int.reduceToNat, Nat.reduceLT, Nat.reduceSub, Int.reduceNeg, Int.reduceEq])) ?_
    rintro v M' ⟨rfl, b, rfl⟩
    dsimp only [AS.put]
    (focus (have hF := True.intro; (repeat' (first | (with_reducible refine Nx.of ?_) | ((with_reducible apply toV); refine stV (k := ?_)) | ((with_reducible apply toG); refine stG (k := ?_); (with_reducible refine Nx.of ?_)) | ((with_reducible apply toG0); refine stG0 (k := ?_); (with_reducible refine Nx.of ?_)) | ((with_reducible apply toC); refine stC (k := ?_); (with_reducible refine Nx.of ?_)) | ((with_reducible apply toO); refine stO (k := ?_)) | ((with_reducible apply toX); refine stX (k := ?_)) | fail)); (all_goals clear hF)))
    refine Run.cond _ rfl (fun hc => ?_) (fun hc => ?_)
    · (focus (have hF := True.intro; (repeat' (first | (with_reducible refine Nx.of ?_) | ((with_reducible apply toV); refine stV (k := ?_)) | ((with_reducible apply toG); refine stG (k := ?_); (with_reducible refine Nx.of ?_)) | ((with_reducible apply toG0); refine stG0 (k := ?_); (with_reducible refine Nx.of ?_)) | ((with_reducible apply toC); refine stC (k := ?_); (with_reducible refine Nx.of ?_)) | ((with_reducible apply toO); refine stO (k := ?_)) | ((with_reducible apply toX); refine stX (k := ?_)) | fail)); (all_goals clear hF)))
      exact Fin.nil rfl
    · (focus (have hF := True.intro; (repeat' (first | (with_reducible refine Nx.of ?_) | ((with_reducible apply toV); refine stV (k := ?_)) | ((with_reducible apply toG); refine stG (k := ?_); (with_reducible refine Nx.of ?_)) | ((with_reducible apply toG0); refine stG0 (k := ?_); (with_reducible refine Nx.of ?_)) | ((with_reducible apply toC); refine stC (k := ?_); (with_reducible refine Nx.of ?_)) | ((with_reducible apply toO); refine stO (k := ?_)) | ((with_reducible apply toX); refine stX (k := ?_)) | fail)); (all_goals clear hF)))
      exact Fin.tmp' rfl rfl
  | cons x l =>
    have e1 : encIs (x :: l) = encI x :: encIs l := rfl
    have e2 : (encIs l).length = l.length := encIs_len l
    have e3 : ((l.length + 1) * 8 ≤ 70368744177664) = True := by simp only [eq_iff_iff, iff_true]; simp at hl; omega
    have e4 : (l.length + 1 ≤ 4611686018427387904) = True := by simp only [eq_iff_iff, iff_true]; simp at hl; omega
    rw [e1]
    (focus (have hF := (And.intro @e2 (And.intro @e3 @e4)); (repeat' (first | (with_reducible refine Nx.of ?_) | ((with_reducible apply toV); refine stV (k := ?_)) | ((with_reducible apply toG); refine stG (k := ?_); (with_reducible refine Nx.of ?_)) | ((with_reducible apply toG0); refine stG0 (k := ?_); (with_reducible refine Nx.of ?_)) | ((with_reducible apply toC); refine stC (k := ?_); (with_reducible refine Nx.of ?_)) | ((with_reducible apply toO); refine stO (k := ?_)) | ((with_reducible apply toX); refine stX (k := ?_)) | fail)); (all_goals clear hF)))
    exact Fin.tmp' rfl (encIs_stb (x :: l))
end Go.Proofs.Ytdmfjkhbodbgoaa.Avm

namespace Go.Proofs.Ytdmfjkhbodbgoaa.Avm
open Go.Proofs
def r_spanLast_1 : List SOp :=
  [⟨(some 2), (.assign (.const (.int .i64 0))), none⟩]
instance : Live r_spanLast_1 := ⟨[0]⟩
def r_spanLast_2 : List SOp :=
  [⟨(some 3), (.assign (.const (.int .i64 0))), none⟩]
instance : Live r_spanLast_2 := ⟨[0]⟩
def r_spanLast_3 : List SOp :=
  [⟨(some 8), (.move (.tmp 0)), none⟩, ⟨(some 9), (.call ⟨.builtin .len, #[.tmp 8], #[58]⟩), none⟩, ⟨(some 10), (.move (.const (.int .i64 0))), none⟩]
instance : Live r_spanLast_3 := ⟨[0, 3]⟩
def r_spanLast_4 : List SOp :=
  [⟨(some 11), (.binOp .lss 3 (.tmp 10) (.tmp 9) 3), none⟩]
instance : Live r_spanLast_4 := ⟨[3, 8, 9, 10]⟩
def r_spanLast_5 : List SOp :=
  [⟨(some 12), (.indexAddr 58 (.tmp 8) (.tmp 10)), none⟩, ⟨(some 13), (.load 73 (.tmp 12)), none⟩, ⟨(some 5), (.alloc 73), none⟩, ⟨none, (.store 73 (.tmp 5) (.tmp 13)), none⟩]
instance : Live r_spanLast_5 := ⟨[3, 8, 9, 10]⟩
def r_spanLast_6 : List SOp :=
  [⟨(some 15), (.load 73 (.tmp 5)), none⟩, ⟨(some 16), (.call ⟨.value (.func 88), #[.tmp 15], #[73]⟩), none⟩, ⟨(some 14), (.move (.tmp 16)), none⟩, ⟨(some 17), (.extract (.tmp 14) 0), none⟩, ⟨(some 18), (.extract (.tmp 14) 1), none⟩, ⟨(some 6), (.alloc 73), none⟩, ⟨none, (.store 73 (.tmp 6) (.tmp 17)), none⟩, ⟨(some 7), (.assign (.tmp 18)), none⟩]
instance : Live r_spanLast_6 := ⟨[3, 5, 8, 9, 10]⟩
def r_spanLast_7 : List SOp :=
  [⟨(some 19), (.move (.tmp 7)), none⟩]
instance : Live r_spanLast_7 := ⟨[3, 6, 7, 8, 9, 10]⟩
def r_spanLast_8 : List SOp :=
  [⟨(some 20), (.move (.tmp 3)), none⟩, ⟨(some 21), (.fieldAddr 73 (.tmp 6) 1), none⟩, ⟨(some 22), (.load 3 (.tmp 21)), none⟩, ⟨(some 23), (.call ⟨.builtin .max, #[.tmp 20, .tmp 22], #[3, 3]⟩), none⟩, ⟨(some 3), (.assign (.tmp 23)), none⟩]
instance : Live r_spanLast_8 := ⟨[3, 6, 8, 9, 10]⟩
def r_spanLast_9 : List SOp :=
  [⟨(some 24), (.binOp .add 3 (.tmp 10) (.const (.int .i64 1)) 3), none⟩, ⟨(some 10), (.move (.tmp 24)), none⟩]
instance : Live r_spanLast_9 := ⟨[3, 8, 9, 10]⟩
def r_spanLast_10 : List SOp :=
  [⟨(some 25), (.move (.tmp 3)), none⟩, ⟨(some 2), (.assign (.tmp 25)), none⟩]
instance : Live r_spanLast_10 := ⟨[3]⟩
def t_spanLast_l1 : SC :=
  (.seq (.ops false r_spanLast_4) (.seq (.cond (.tmp 11) .skip (.exit 0)) (.seq (.block 1 (.seq (.ops false r_spanLast_5) (.seq (.ops false r_spanLast_6) (.seq (.ops false r_spanLast_7) (.cond (.tmp 19) (.ops false r_spanLast_8) .skip))))) (.ops false r_spanLast_9))))
def t_spanLast : SC :=
  (.seq (.ops false r_spanLast_1) (.seq (.ops false r_spanLast_2) (.seq (.seq (.ops false r_spanLast_3) (.block 0 (.loop t_spanLast_l1))) (.seq (.ops false r_spanLast_10) .ret))))
theorem it_spanLast : FnIs Try.prog 46 26 [.tmp 2] t_spanLast := ⟨Try.f46, _, Try.func46, rfl, rfl, rfl, rfl, by kernel_rfl⟩
end Go.Proofs.Ytdmfjkhbodbgoaa.Avm

namespace Go.Proofs.Ytdmfjkhbodbgoaa.Avm
open Go.Proofs
def lastStep (a : Int) (r : Rn) : Int := if (clipR r).1 ≤ (clipR r).2 then max a (clipR r).2 else a
theorem lastStep_pos (a : Int) (r : Rn) (h : max r.1 1 ≤ min r.2 1000000000) : lastStep a r = max a (min r.2 1000000000) := if_pos h
theorem lastStep_neg (a : Int) (r : Rn) (h : ¬ max r.1 1 ≤ min r.2 1000000000) : lastStep a r = a := if_neg h
def lastR (l : List Rn) : Int := l.foldl lastStep 0
theorem encRs_get {l : List Rn} {i : Nat} {r : Rn} (h : l[i]? = some r) : (encRs l)[i]? = some (encR r) := by simp [encRs, h]
theorem foldl_take {α β : Type} (f : β → α → β) (a : β) (l : List α) {i : Nat} {x : α} (h : l[i]? = some x) : (l.take (i + 1)).foldl f a = f ((l.take i).foldl f a) x := by
  rw [List.take_add_one, h]
  simp
theorem ev_spanLast (l : List Rn) (hl : l.length ≤ 1000000000) : Ev (En Try.prog rfl).P 46 [.sl 2 (encRs l)] (.ret (.int .i64 (lastR l))) := by
  refine Ev.of_body it_spanLast (by simp) (Run.start ?_)
  unfold t_spanLast
  have e1 : (encRs l).length = l.length := encRs_len l
  (focus (have hF := @e1; (repeat' (first | (with_reducible refine Nx.of ?_) | ((with_reducible apply toV); refine stV (k := ?_)) | ((with_reducible apply toG); refine stG (k := ?_); (with_reducible refine Nx.of ?_)) | ((with_reducible apply toG0); refine stG0 (k := ?_); (with_reducible refine Nx.of ?_)) | ((with_reducible apply toC); refine stC (k := ?_); (with_reducible refine Nx.of ?_)) | ((with_reducible apply toO); refine stO (k := ?_)) | ((with_reducible apply toX); refine stX (k := ?_)) | fail)); (all_goals clear hF)))
  refine Run.range l.length (fun i => ⟨tms [(3, .int .i64 ((l.take i).foldl lastStep 0)), (8, .sl 2 (encRs l)), (9, .int .i64 l.length), (10, .int .i64 i)], NoM⟩) ?_ (fun i hi => ?_) ?_
  · exact Wk.clean _ ⟨rfl, rfl, rfl, rfl, trivial⟩ ⟨rfl, encRs_stb l, rfl, rfl, trivial⟩
  · obtain ⟨r, hr⟩ : ∃ r, l[i]? = some r := ⟨l[i], by simp [hi]⟩
    have e2 : ((i : Int) < (l.length : Int)) = True := by simp only [eq_iff_iff, iff_true]; omega
    have e3 : (0 ≤ (i : Int)) = True := by simp
    have e4 : (encRs l)[i]? = some (.agg [.int .i64 r.1, .int .i64 r.2]) := encRs_get hr
    have e5 : IntKind.i64.wrap ((i : Int) + 1) = ((i + 1 : Nat) : Int) := by rw [wrap_id (by omega)]; omega
    unfold t_spanLast_l1
    (focus (have hF := (And.intro (And.intro @e1 @e2) (And.intro @e3 @e4)); (repeat' (first | (with_reducible refine Nx.of ?_) | ((with_reducible apply toV); refine stV (k := ?_)) | ((with_reducible apply toG); refine stG (k := ?_); (with_reducible refine Nx.of ?_)) | ((with_reducible apply toG0); refine stG0 (k := ?_); (with_reducible refine Nx.of ?_)) | ((with_reducible apply toC); refine stC (k := ?_); (with_reducible refine Nx.of ?_)) | ((with_reducible apply toO); refine stO (k := ?_)) | ((with_reducible apply toX); refine stX (k := ?_)) | fail)); (all_goals clear hF)))
    refine awp_pure rfl rfl rfl (ev_spanclip r) ?_
    simp only [clipR, encR]
    (focus (have hF := (And.intro (And.intro @e1 @e2) (And.intro @e3 (And.intro @e4 @e5))); (repeat' (first | (with_reducible refine Nx.of ?_) | ((with_reducible apply toV); refine stV (k := ?_)) | ((with_reducible apply toG); refine stG (k := ?_); (with_reducible refine Nx.of ?_)) | ((with_reducible apply toG0); refine stG0 (k := ?_); (with_reducible refine Nx.of ?_)) | ((with_reducible apply toC); refine stC (k := ?_); (with_reducible refine Nx.of ?_)) | ((with_reducible apply toO); refine stO (k := ?_)) | ((with_reducible apply toX); refine stX (k := ?_)) | fail)); (all_goals clear hF)))
    have e6 := foldl_take lastStep 0 l hr
    refine Run.cond (decide (max r.1 1 ≤ min r.2 1000000000)) rfl (fun hc => ?_) (fun hc => ?_)
    · simp only [decide_eq_true_eq] at hc
      (focus (have hF := (And.intro (And.intro @e1 @e2) (And.intro @e3 (And.intro @e4 @e5))); (repeat' (first | (with_reducible refine Nx.of ?_) | ((with_reducible apply toV); refine stV (k := ?_)) | ((with_reducible apply toG); refine stG (k := ?_); (with_reducible refine Nx.of ?_)) | ((with_reducible apply toG0); refine stG0 (k := ?_); (with_reducible refine Nx.of ?_)) | ((with_reducible apply toC); refine stC (k := ?_); (with_reducible refine Nx.of ?_)) | ((with_reducible apply toO); refine stO (k := ?_)) | ((with_reducible apply toX); refine stX (k := ?_)) | fail)); (all_goals clear hF)))
      refine Fin.next (Wk.clean _ ⟨?_, rfl, rfl, rfl, trivial⟩ ⟨rfl, encRs_stb l, rfl, rfl, trivial⟩)
      rw [e6, lastStep_pos _ _ hc]
      simp only [opS, opA, ev, cst, upd, evs, evp, initT, initO, NoM, En_TE, En_EQ, En_P, Option.getD, Option.map_some, Option.map_none, List.map_cons, List.map_nil, List.getElem?_cons_zero, List.getElem?_cons_succ, List.getElem?_nil, List.all_cons, List.all_nil, List.length_cons, List.length_nil, List.take_succ_cons, List.take_zero, List.drop_succ_cons, List.drop_zero, List.set_cons_zero, List.set_cons_succ, List.cons_append, List.nil_append, List.append_nil, List.toList_toArray, allocA, boxA, loadA, storeA, fieldAddrA, fieldA, moveA, indexAddrA, indexA, buildA, fillA, placeS, partA, binA, arithA, shiftA, strA, eqvA, nilS, nilP, nilF, nils, unA, convA, lenA, builtinA, mmA, sliceA, boundA, appendA, srcA, buildSliceA, setP, makeSliceA, TyI.zeros, TyI.zeroElem, TyI.okElem, TD.isAgg, Value.cells, AVal.known, AVal.cells, AVal.one, AVal.plain, splice, AVal.withCells, reduceCtorEq, ↓reduceIte, if_true, if_false, Bool.false_eq_true, false_implies, true_implies, implies_true, true_and, and_true, and_self, ne_eq, not_true, not_false_iff, Bool.and_true, Bool.true_and, Bool.and_false, Bool.false_and, Bool.or_true, Bool.true_or, Bool.or_false, Bool.false_or, Bool.not_true, Bool.not_false, beq_self_eq_true, Nat.reduceAdd, Nat.reduceMul, Nat.reduceLeDiff, Nat.reduceEqDiff, Nat.reduceBEq, Nat.mul_one, Nat.le_refl, Nat.zero_add, Nat.add_zero, Option.isSome_some, decide_true, decide_false, pick_bool, pick_int, List.replicate_succ, List.replicate_zero, List.flatMap_cons, List.flatMap_nil, flat, tms, mms, Array.size_empty, dchk, rkOk, isStore, Op.operands, AVal.at, AVal.atR, opCls, clsO, clsW, Option.map_some, List.contains_cons, List.contains_nil, List.isEmpty_nil, List.isEmpty_cons, Int.toNat_natCast, Int.natCast_nonneg, Int.reduceLE, Int.reduceLT, Int.reduceToNat, Nat.reduceLT, Nat.reduceSub, Int.reduceNeg, Int.reduceEq]
    · simp only [decide_eq_false_iff_not] at hc
      (focus (have hF := (And.intro (And.intro @e1 @e2) (And.intro @e3 (And.intro @e4 @e5))); (repeat' (first | (with_reducible refine Nx.of ?_) | ((with_reducible apply toV); refine stV (k := ?_)) | ((with_reducible apply toG); refine stG (k := ?_); (with_reducible refine Nx.of ?_)) | ((with_reducible apply toG0); refine stG0 (k := ?_); (with_reducible refine Nx.of ?_)) | ((with_reducible apply toC); refine stC (k := ?_); (with_reducible refine Nx.of ?_)) | ((with_reducible apply toO); refine stO (k := ?_)) | ((with_reducible apply toX); refine stX (k := ?_)) | fail)); (all_goals clear hF)))
      refine Fin.next (Wk.clean _ ⟨?_, rfl, rfl, rfl, trivial⟩ ⟨rfl, encRs_stb l, rfl, rfl, trivial⟩)
      rw [e6, lastStep_neg _ _ hc]
      simp only [opS, opA, ev, cst, upd, evs, evp, initT, initO, NoM, En_TE, En_EQ, En_P, Option.getD, Option.map_some, Option.map_none, List.map_cons, List.map_nil, List.getElem?_cons_zero, List.getElem?_cons_succ, List.getElem?_nil, List.all_cons, List.all_nil, List.length_cons, List.length_nil, List.take_succ_cons, List.take_zero, List.drop_succ_cons, List.drop_zero, List.set_cons_zero, List.set_cons_succ, List.cons_append, List.nil_append, List.append_nil, List.toList_toArray, allocA, boxA, loadA, storeA, fieldAddrA, fieldA, moveA, indexAddrA, indexA, buildA, fillA, placeS, partA, binA, arithA, shiftA, strA, eqvA, nilS, nilP, nilF, nils, unA, convA, lenA, builtinA, mmA, sliceA, boundA, appendA, srcA, buildSliceA, setP, makeSliceA, TyI.zeros, TyI.zeroElem, TyI.okElem, TD.isAgg, Value.cells, AVal.known, AVal.cells, AVal.one, AVal.plain, splice, AVal.withCells, reduceCtorEq, ↓reduceIte, if_true, if_false, Bool.false_eq_true, false_implies, true_implies, implies_true, true_and, and_true, and_self, ne_eq, not_true, not_false_iff, Bool.and_true, Bool.true_and, Bool.and_false, Bool.false_and, Bool.or_true, Bool.true_or, Bool.or_false, Bool.false_or, Bool.not_true, Bool.not_false, beq_self_eq_true, Nat.reduceAdd, Nat.reduceMul, Nat.reduceLeDiff, Nat.reduceEqDiff, Nat.reduceBEq, Nat.mul_one, Nat.le_refl, Nat.zero_add, Nat.add_zero, Option.isSome_some, decide_true, decide_false, pick_bool, pick_int, List.replicate_succ, List.replicate_zero, List.flatMap_cons, List.flatMap_nil, flat, tms, mms, Array.size_empty, dchk, rkOk, isStore, Op.operands, AVal.at, AVal.atR, opCls, clsO, clsW, Option.map_some, List.contains_cons, List.contains_nil, List.isEmpty_nil, List.isEmpty_cons, Int.toNat_natCast, Int.natCast_nonneg, Int.reduceLE, Int.reduceLT, Int.reduceToNat, Nat.reduceLT, Nat.reduceSub, Int.reduceNeg, Int.reduceEq]
  · have e2 : ((l.length : Int) < (l.length : Int)) = False := by simp
    unfold t_spanLast_l1
    (focus (have hF := (And.intro @e1 @e2); (repeat' (first | (with_reducible refine Nx.of ?_) | ((with_reducible apply toV); refine stV (k := ?_)) | ((with_reducible apply toG); refine stG (k := ?_); (with_reducible refine Nx.of ?_)) | ((with_reducible apply toG0); refine stG0 (k := ?_); (with_reducible refine Nx.of ?_)) | ((with_reducible apply toC); refine stC (k := ?_); (with_reducible refine Nx.of ?_)) | ((with_reducible apply toO); refine stO (k := ?_)) | ((with_reducible apply toX); refine stX (k := ?_)) | fail)); (all_goals clear hF)))
    have e3 : l.take l.length = l := List.take_length
    simp only [e3]
    exact Fin.tmp' rfl rfl
end Go.Proofs.Ytdmfjkhbodbgoaa.Avm

namespace Go.Proofs.Ytdmfjkhbodbgoaa.Avm
def inR (l : List Rn) (n : Int) : Prop := ∃ r ∈ l, r.1 ≤ n ∧ n ≤ r.2
def okR (r : Rn) : Prop := 1 ≤ r.1 ∧ r.1 ≤ r.2 ∧ r.2 ≤ 1000000000
def sepR (x y : Rn) : Prop := x.2 + 1 < y.1
def Can (l : List Rn) : Prop := l.Pairwise sepR ∧ ∀ r ∈ l, okR r
def mem1 (l : List Rn) (n : Int) : Prop := 1 ≤ n ∧ n ≤ 1000000000 ∧ inR l n
theorem inR_nil (n : Int) : ¬ inR [] n := fun ⟨r, h, _⟩ => by cases h
theorem inR_cons (x : Rn) (l : List Rn) (n : Int) : inR (x :: l) n ↔ (x.1 ≤ n ∧ n ≤ x.2) ∨ inR l n := by
  constructor
  · rintro ⟨r, hr, h⟩
    rcases List.mem_cons.1 hr with rfl | hr
    · exact .inl h
    · exact .inr ⟨r, hr, h⟩
  · rintro (h | ⟨r, hr, h⟩)
    · exact ⟨x, by simp, h⟩
    · exact ⟨r, by simp [hr], h⟩
theorem inR_append (l m : List Rn) (n : Int) : inR (l ++ m) n ↔ inR l n ∨ inR m n := by
  constructor
  · rintro ⟨r, hr, h⟩
    rcases List.mem_append.1 hr with hr | hr
    · exact .inl ⟨r, hr, h⟩
    · exact .inr ⟨r, hr, h⟩
  · rintro (⟨r, hr, h⟩ | ⟨r, hr, h⟩)
    · exact ⟨r, by simp [hr], h⟩
    · exact ⟨r, by simp [hr], h⟩
theorem inR_one (x : Rn) (n : Int) : inR [x] n ↔ x.1 ≤ n ∧ n ≤ x.2 := by
  rw [inR_cons]
  constructor
  · rintro (h | h)
    · exact h
    · exact absurd h (inR_nil n)
  · exact .inl
theorem inR_perm {l m : List Rn} (h : l.Perm m) (n : Int) : inR l n ↔ inR m n :=
  ⟨fun ⟨r, hr, hn⟩ => ⟨r, h.mem_iff.1 hr, hn⟩, fun ⟨r, hr, hn⟩ => ⟨r, h.mem_iff.2 hr, hn⟩⟩
theorem Can.nil : Can [] := ⟨.nil, fun r h => by cases h⟩
theorem Can.cons_iff {x : Rn} {l : List Rn} : Can (x :: l) ↔ okR x ∧ (∀ y ∈ l, sepR x y) ∧ Can l := by
  unfold Can
  rw [List.pairwise_cons]
  constructor
  · rintro ⟨⟨h1, h2⟩, h3⟩
    exact ⟨h3 x (by simp), h1, h2, fun r hr => h3 r (by simp [hr])⟩
  · rintro ⟨h1, h2, h3, h4⟩
    refine ⟨⟨h2, h3⟩, fun r hr => ?_⟩
    rcases List.mem_cons.1 hr with rfl | hr
    · exact h1
    · exact h4 r hr
theorem Can.tail {x : Rn} {l : List Rn} (h : Can (x :: l)) : Can l := (Can.cons_iff.1 h).2.2
theorem Can.bound {l : List Rn} (h : Can l) {n : Int} (hn : inR l n) : 1 ≤ n ∧ n ≤ 1000000000 := by
  obtain ⟨r, hr, h1, h2⟩ := hn
  have := h.2 r hr
  unfold okR at this
  omega
theorem Can.mem1 {l : List Rn} (h : Can l) (n : Int) : Avm.mem1 l n ↔ inR l n := ⟨fun hn => hn.2.2, fun hn => ⟨(h.bound hn).1, (h.bound hn).2, hn⟩⟩
theorem Can.above {x : Rn} {l : List Rn} (h : Can (x :: l)) {n : Int} (hn : inR l n) : x.2 + 1 < n := by
  obtain ⟨r, hr, h1, h2⟩ := hn
  have := (Can.cons_iff.1 h).2.1 r hr
  unfold sepR at this
  omega
theorem Can.snoc {l : List Rn} {x : Rn} (h : Can l) (hx : okR x) (hs : ∀ y ∈ l, sepR y x) : Can (l ++ [x]) := by
  refine ⟨?_, fun r hr => ?_⟩
  · rw [List.pairwise_append]
    exact ⟨h.1, by simp, fun a ha b hb => by simp at hb; subst hb; exact hs a ha⟩
  · rcases List.mem_append.1 hr with hr | hr
    · exact h.2 r hr
    · simp at hr; subst hr; exact hx
theorem Can.snoc_iff {l : List Rn} {x : Rn} : Can (l ++ [x]) ↔ Can l ∧ okR x ∧ ∀ y ∈ l, sepR y x := by
  constructor
  · rintro ⟨h1, h2⟩
    rw [List.pairwise_append] at h1
    exact ⟨⟨h1.1, fun r hr => h2 r (by simp [hr])⟩, h2 x (by simp), fun y hy => h1.2.2 y hy x (by simp)⟩
  · rintro ⟨h1, h2, h3⟩
    exact h1.snoc h2 h3
theorem Can.ext : ∀ {l m : List Rn}, Can l → Can m → (∀ n, inR l n ↔ inR m n) → l = m
  | [], [], _, _, _ => rfl
  | [], y :: m, _, hm, h => by
    have hy := (Can.cons_iff.1 hm).1
    exact absurd ((h y.1).2 ((inR_cons y m _).2 (.inl ⟨Int.le_refl _, hy.2.1⟩))) (inR_nil _)
  | x :: l, [], hl, _, h => by
    have hx := (Can.cons_iff.1 hl).1
    exact absurd ((h x.1).1 ((inR_cons x l _).2 (.inl ⟨Int.le_refl _, hx.2.1⟩))) (inR_nil _)
  | x :: l, y :: m, hl, hm, h => by
    have hx := (Can.cons_iff.1 hl).1
    have hy := (Can.cons_iff.1 hm).1
    unfold okR at hx hy
    have a1 := (inR_cons y m x.1).1 ((h x.1).1 ((inR_cons x l _).2 (.inl ⟨Int.le_refl _, hx.2.1⟩)))
    have a2 := (inR_cons x l y.1).1 ((h y.1).2 ((inR_cons y m _).2 (.inl ⟨Int.le_refl _, hy.2.1⟩)))
    have b1 : x.1 = y.1 := by
      rcases a1 with a1 | a1 <;> rcases a2 with a2 | a2
      · omega
      · have := hl.above a2; omega
      · have := hm.above a1; omega
      · have := hl.above a2; have := hm.above a1; omega
    have c1 : ¬ x.2 < y.2 := fun hlt => by
      rcases (inR_cons x l (x.2 + 1)).1 ((h (x.2 + 1)).2 ((inR_cons y m _).2 (.inl (by omega)))) with c | c
      · omega
      · have := hl.above c; omega
    have c2 : ¬ y.2 < x.2 := fun hlt => by
      rcases (inR_cons y m (y.2 + 1)).1 ((h (y.2 + 1)).1 ((inR_cons x l _).2 (.inl (by omega)))) with c | c
      · omega
      · have := hm.above c; omega
    have hxy : x = y := Prod.ext b1 (by omega)
    subst hxy
    rw [Can.ext hl.tail hm.tail fun n => ?_]
    constructor
    · intro hn
      have := hl.above hn
      rcases (inR_cons x m n).1 ((h n).1 ((inR_cons x l _).2 (.inr hn))) with c | c
      · omega
      · exact c
    · intro hn
      have := hm.above hn
      rcases (inR_cons x l n).1 ((h n).2 ((inR_cons x m _).2 (.inr hn))) with c | c
      · omega
      · exact c
def clips (l : List Rn) : List Rn := (l.map clipR).filter fun r => decide (r.1 ≤ r.2)
theorem clips_cons (x : Rn) (l : List Rn) : clips (x :: l) = if (clipR x).1 ≤ (clipR x).2 then clipR x :: clips l else clips l := by
  unfold clips
  rw [List.map_cons, List.filter_cons]
  simp only [decide_eq_true_eq]
theorem clips_append (l m : List Rn) : clips (l ++ m) = clips l ++ clips m := by simp [clips]
theorem clips_ok {l : List Rn} : ∀ r ∈ clips l, okR r := by
  intro r hr
  simp only [clips, List.mem_filter, List.mem_map, decide_eq_true_eq] at hr
  obtain ⟨⟨x, _, rfl⟩, h⟩ := hr
  unfold clipR at *
  unfold okR
  simp only at *
  omega
theorem clips_in (l : List Rn) (n : Int) : inR (clips l) n ↔ mem1 l n := by
  constructor
  · rintro ⟨r, hr, h1, h2⟩
    have hok := clips_ok r hr
    simp only [clips, List.mem_filter, List.mem_map, decide_eq_true_eq] at hr
    obtain ⟨⟨x, hx, rfl⟩, h⟩ := hr
    unfold okR at hok
    unfold clipR at *
    simp only at *
    exact ⟨by omega, by omega, x, hx, by omega, by omega⟩
  · rintro ⟨h1, h2, x, hx, h3, h4⟩
    refine ⟨clipR x, ?_, ?_, ?_⟩
    · simp only [clips, List.mem_filter, List.mem_map, decide_eq_true_eq]
      refine ⟨⟨x, hx, rfl⟩, ?_⟩
      unfold clipR
      simp only
      omega
    · unfold clipR
      simp only
      omega
    · unfold clipR
      simp only
      omega
theorem clips_len (l : List Rn) : (clips l).length ≤ l.length := by
  unfold clips
  exact Nat.le_trans (List.length_filter_le _ _) (by simp)
def leLo (x y : Rn) : Prop := x.1 ≤ y.1
theorem addR_ok {out : List Rn} {r : Rn} (h : Can out) (hr : okR r) (hs : ∀ x ∈ out, x.1 ≤ r.1) :
    Can (addR out r) ∧ (∀ n, inR (addR out r) n ↔ inR out n ∨ (r.1 ≤ n ∧ n ≤ r.2)) ∧ ∀ x ∈ addR out r, x.1 ≤ r.1 := by
  rcases List.eq_nil_or_concat out with rfl | ⟨l, x, rfl⟩
  · rw [addR_nil]
    refine ⟨Can.cons_iff.2 ⟨hr, by simp, Can.nil⟩, fun n => ?_, by simp⟩
    rw [inR_one]
    exact ⟨.inr, fun h => h.elim (fun h => absurd h (inR_nil n)) id⟩
  · simp only [List.concat_eq_append] at *
    rw [addR_snoc]
    obtain ⟨h1, h2, h3⟩ := Can.snoc_iff.1 h
    have hx := hs x (by simp)
    unfold okR at h2 hr
    split
    · rename_i hc
      refine ⟨h1.snoc ⟨h2.1, ?_, ?_⟩ fun y hy => h3 y hy, fun n => ?_, fun y hy => ?_⟩
      · show x.1 ≤ max x.2 r.2; omega
      · show max x.2 r.2 ≤ 1000000000; omega
      · rw [inR_append, inR_append, inR_one, inR_one]
        simp only
        constructor
        · rintro (h | h)
          · exact .inl (.inl h)
          · by_cases hn : n ≤ x.2
            · exact .inl (.inr (by omega))
            · exact .inr (by omega)
        · rintro ((h | h) | h)
          · exact .inl h
          · exact .inr (by omega)
          · exact .inr (by omega)
      · rcases List.mem_append.1 hy with hy | hy
        · exact hs y (by simp [hy])
        · simp at hy; subst hy; exact hx
    · rename_i hc
      refine ⟨h.snoc ⟨hr.1, hr.2.1, hr.2.2⟩ fun y hy => ?_, fun n => ?_, fun y hy => ?_⟩
      · rcases List.mem_append.1 hy with hy | hy
        · have := h3 y hy
          unfold sepR at *
          omega
        · simp at hy; subst hy
          unfold sepR
          omega
      · rw [inR_append (l ++ [x]), inR_one]
      · rcases List.mem_append.1 hy with hy | hy
        · exact hs y hy
        · simp at hy; subst hy; exact Int.le_refl _
theorem addFold_ok : ∀ {s out : List Rn}, s.Pairwise leLo → (∀ r ∈ s, okR r) → Can out → (∀ x ∈ out, ∀ r ∈ s, x.1 ≤ r.1) →
    Can (s.foldl addR out) ∧ ∀ n, inR (s.foldl addR out) n ↔ inR out n ∨ inR s n
  | [], out, _, _, h, _ => ⟨h, fun n => ⟨.inl, fun h => h.elim id fun h => absurd h (inR_nil n)⟩⟩
  | r :: s, out, hp, hok, h, hs => by
    rw [List.pairwise_cons] at hp
    obtain ⟨a1, a2, a3⟩ := addR_ok h (hok r (by simp)) fun x hx => hs x hx r (by simp)
    obtain ⟨b1, b2⟩ := addFold_ok (s := s) (out := addR out r) hp.2 (fun x hx => hok x (by simp [hx])) a1 fun x hx y hy => Int.le_trans (a3 x hx) (hp.1 y hy)
    refine ⟨b1, fun n => ?_⟩
    rw [List.foldl_cons, b2 n, a2 n, inR_cons]
    constructor
    · rintro ((h | h) | h)
      · exact .inl h
      · exact .inr (.inl h)
      · exact .inr (.inr h)
    · rintro (h | h | h)
      · exact .inl (.inl h)
      · exact .inl (.inr h)
      · exact .inr h
theorem addFold_le (s : List Rn) (out : List Rn) : (s.foldl addR out).length ≤ out.length + s.length := by
  induction s generalizing out with
  | nil => simp
  | cons r s ih =>
    have h1 : (addR out r).length ≤ out.length + 1 := by
      rcases List.eq_nil_or_concat out with rfl | ⟨l, x, rfl⟩
      · simp [addR_nil]
      · simp only [List.concat_eq_append]
        rw [addR_snoc]
        split <;> simp
    have := ih (addR out r)
    simp only [List.foldl_cons, List.length_cons]
    omega
def sortR (l : List Rn) : List Rn := l.mergeSort (fun x y => decide (x.1 ≤ y.1))
theorem sortR_perm (l : List Rn) : (sortR l).Perm l := List.mergeSort_perm l _
theorem sortR_sorted (l : List Rn) : (sortR l).Pairwise leLo := by
  have := List.pairwise_mergeSort (le := fun (x y : Rn) => decide (x.1 ≤ y.1)) (fun a b c h1 h2 => by simp at *; omega) (fun a b => by simp; omega) l
  exact this.imp fun {a b} h => by simpa [leLo] using h
def normR (l : List Rn) : List Rn := (sortR (clips l)).foldl addR []
theorem norm_of {l s : List Rn} (hs : s.Pairwise leLo) (hp : s.Perm (clips l)) : Can (s.foldl addR []) ∧ ∀ n, inR (s.foldl addR []) n ↔ mem1 l n := by
  obtain ⟨h1, h2⟩ := addFold_ok (out := []) hs (fun r hr => clips_ok r (hp.mem_iff.1 hr)) Can.nil (fun x hx => by cases hx)
  refine ⟨h1, fun n => ?_⟩
  rw [h2 n, inR_perm hp, clips_in]
  exact ⟨fun h => h.elim (fun h => absurd h (inR_nil n)) id, .inr⟩
theorem normR_can (l : List Rn) : Can (normR l) := (norm_of (sortR_sorted _) (sortR_perm _)).1
theorem normR_in (l : List Rn) (n : Int) : inR (normR l) n ↔ mem1 l n := (norm_of (sortR_sorted _) (sortR_perm _)).2 n
theorem normR_eq {l s : List Rn} (hs : s.Pairwise leLo) (hp : s.Perm (clips l)) : s.foldl addR [] = normR l :=
  Can.ext (norm_of hs hp).1 (normR_can l) fun n => by rw [(norm_of hs hp).2 n, normR_in]
theorem normR_ext {l m : List Rn} (h : ∀ n, mem1 l n ↔ mem1 m n) : normR l = normR m :=
  Can.ext (normR_can l) (normR_can m) fun n => by rw [normR_in, normR_in, h]
theorem normR_of_can {l : List Rn} (h : Can l) : normR l = l := Can.ext (normR_can l) h fun n => by rw [normR_in, h.mem1]
theorem normR_len (l : List Rn) : (normR l).length ≤ l.length := by
  have h := addFold_le (sortR (clips l)) []
  have h2 := (sortR_perm (clips l)).length_eq
  have h3 := clips_len l
  unfold normR
  simp only [List.length_nil] at h
  omega
def IsTop (q : Int → Prop) (m : Int) : Prop := (m = 0 ∨ q m) ∧ ∀ n, q n → n ≤ m
theorem IsTop.uniq {q : Int → Prop} {m m' : Int} (hq : ∀ n, q n → 1 ≤ n) (h : IsTop q m) (h' : IsTop q m') : m = m' := by
  rcases h.1 with h1 | h1 <;> rcases h'.1 with h2 | h2
  · omega
  · have := h.2 _ h2; have := hq _ h2; omega
  · have := h'.2 _ h1; have := hq _ h1; omega
  · have := h.2 _ h2; have := h'.2 _ h1; omega
theorem IsTop.iff {q q' : Int → Prop} {m : Int} (h : IsTop q m) (hq : ∀ n, q n ↔ q' n) : IsTop q' m := ⟨h.1.imp id (hq m).1, fun n hn => h.2 n ((hq n).2 hn)⟩
theorem lastFold_eq (l : List Rn) (a : Int) : l.foldl lastStep a = (clips l).foldl (fun a r => max a r.2) a := by
  induction l generalizing a with
  | nil => rfl
  | cons r l ih =>
    rw [List.foldl_cons, ih, clips_cons]
    unfold lastStep
    split
    · rfl
    · rfl
theorem maxFold_ge (l : List Rn) (a : Int) : a ≤ l.foldl (fun a r => max a r.2) a ∧ (∀ r ∈ l, r.2 ≤ l.foldl (fun a r => max a r.2) a) ∧ (l.foldl (fun a r => max a r.2) a = a ∨ ∃ r ∈ l, l.foldl (fun a r => max a r.2) a = r.2) := by
  induction l generalizing a with
  | nil => simp
  | cons r l ih =>
    obtain ⟨h1, h2, h3⟩ := ih (max a r.2)
    rw [List.foldl_cons]
    refine ⟨by omega, fun x hx => ?_, ?_⟩
    · rcases List.mem_cons.1 hx with rfl | hx
      · omega
      · exact h2 x hx
    · rcases h3 with h3 | ⟨x, hx, h3⟩
      · rw [h3]
        rcases Int.le_total a r.2 with h | h
        · exact .inr ⟨r, by simp, by omega⟩
        · exact .inl (by omega)
      · exact .inr ⟨x, by simp [hx], h3⟩
theorem lastR_top (l : List Rn) : IsTop (mem1 l) (lastR l) := by
  unfold lastR
  rw [lastFold_eq]
  obtain ⟨h1, h2, h3⟩ := maxFold_ge (clips l) 0
  refine ⟨?_, fun n hn => ?_⟩
  · rcases h3 with h3 | ⟨r, hr, h3⟩
    · exact .inl h3
    · refine .inr ((clips_in l _).1 ⟨r, hr, ?_, by omega⟩)
      have := clips_ok r hr
      unfold okR at this
      omega
  · obtain ⟨r, hr, _, hn⟩ := (clips_in l n).2 hn
    have := h2 r hr
    omega
end Go.Proofs.Ytdmfjkhbodbgoaa.Avm

namespace Go.Proofs.Ytdmfjkhbodbgoaa.Avm
def sortI (l : List Int) : List Int := l.mergeSort (fun x y => decide (x ≤ y))
theorem sortI_perm (l : List Int) : (sortI l).Perm l := List.mergeSort_perm l _
theorem sortI_sorted (l : List Int) : (sortI l).Pairwise (fun x y => x ≤ y) := by
  have := List.pairwise_mergeSort (le := fun (x y : Int) => decide (x ≤ y)) (fun a b c h1 h2 => by simp at *; omega) (fun a b => by simp; omega) l
  exact this.imp fun {a b} h => by simpa using h
theorem sortI_len (l : List Int) : (sortI l).length = l.length := (sortI_perm l).length_eq
def cnt (l : List Int) (m : Int) : Nat := l.countP fun x => decide (x ≤ m)
theorem cnt_nil (m : Int) : cnt [] m = 0 := rfl
theorem cnt_cons (x : Int) (l : List Int) (m : Int) : cnt (x :: l) m = cnt l m + if x ≤ m then 1 else 0 := by
  unfold cnt
  rw [List.countP_cons]
  simp only [decide_eq_true_eq]
theorem cnt_append (l l' : List Int) (m : Int) : cnt (l ++ l') m = cnt l m + cnt l' m := List.countP_append
theorem cnt_perm {l l' : List Int} (h : l.Perm l') (m : Int) : cnt l m = cnt l' m := h.countP_eq _
theorem cnt_le (l : List Int) (m : Int) : cnt l m ≤ l.length := List.countP_le_length
theorem cnt_all {l : List Int} {m : Int} (h : ∀ x ∈ l, x ≤ m) : cnt l m = l.length := List.countP_eq_length.2 fun x hx => by simpa using h x hx
theorem cnt_none {l : List Int} {m : Int} (h : ∀ x ∈ l, m < x) : cnt l m = 0 := List.countP_eq_zero.2 fun x hx => by simpa using h x hx
theorem cnt_at : ∀ {l : List Int} {m : Int} {i : Nat}, i ≤ l.length → (∀ k, k < i → l.getD k 0 ≤ m) → (∀ k, i ≤ k → k < l.length → m < l.getD k 0) → cnt l m = i
  | [], m, i, hi, _, _ => by simp at hi; subst hi; rfl
  | x :: l, m, 0, _, _, h2 => cnt_none fun y hy => by
    obtain ⟨k, hk, rfl⟩ := List.getElem_of_mem hy
    have := h2 k (by omega) hk
    simpa [List.getD_eq_getElem?_getD, List.getElem?_eq_getElem hk] using this
  | x :: l, m, i + 1, hi, h1, h2 => by
    rw [cnt_cons, cnt_at (i := i) (by simpa using hi) (fun k hk => by simpa using h1 (k + 1) (by omega)) (fun k hk hl => by simpa using h2 (k + 1) (by omega) (by simpa using hl))]
    have := h1 0 (by omega)
    simp at this
    simp [this]
def Srt (l : List Int) : Prop := ∀ a b, a ≤ b → b < l.length → l.getD a 0 ≤ l.getD b 0
theorem Srt.of {l : List Int} (h : l.Pairwise (fun x y => x ≤ y)) : Srt l := by
  intro a b hab hb
  rcases Nat.lt_or_ge a b with h' | h'
  · have := (List.pairwise_iff_getElem.1 h) a b (by omega) hb h'
    simpa [List.getD_eq_getElem?_getD, List.getElem?_eq_getElem hb, List.getElem?_eq_getElem (show a < l.length by omega)] using this
  · have : a = b := by omega
    subst this
    exact Int.le_refl _
theorem Srt.get_le : ∀ {l : List Int} {m : Int} {k : Nat}, l.Pairwise (fun x y => x ≤ y) → k < cnt l m → l.getD k 0 ≤ m
  | [], m, k, _, h => by simp [cnt_nil] at h
  | x :: l, m, k, hp, h => by
    rw [List.pairwise_cons] at hp
    rw [cnt_cons] at h
    split at h
    · rename_i hx
      cases k with
      | zero => simpa using hx
      | succ k => simpa using Srt.get_le hp.2 (by omega)
    · rename_i hx
      have : cnt l m = 0 := cnt_none fun y hy => by have := hp.1 y hy; omega
      omega
theorem Srt.cnt_gt {l : List Int} {m : Int} {k : Nat} (hp : Srt l) (hk : k < l.length) (h : l.getD k 0 ≤ m) : k < cnt l m := by
  have : (l.take (k + 1)).countP (fun x => decide (x ≤ m)) = k + 1 := by
    have h1 : (l.take (k + 1)).length = k + 1 := by rw [List.length_take]; omega
    refine Eq.trans (List.countP_eq_length.2 fun x hx => ?_) h1
    obtain ⟨j, hj, rfl⟩ := List.getElem_of_mem hx
    rw [List.length_take] at hj
    rw [List.getElem_take]
    have := hp j k (by omega) hk
    rw [List.getD_eq_getElem?_getD, List.getElem?_eq_getElem (show j < l.length by omega)] at this
    simp only [Option.getD_some] at this
    simpa using Int.le_trans this h
  have h2 : cnt l m = (l.take (k + 1)).countP (fun x => decide (x ≤ m)) + (l.drop (k + 1)).countP (fun x => decide (x ≤ m)) := by
    rw [← List.countP_append, List.take_append_drop]
    rfl
  omega
structure Sw where
  t : List Int
  deep : Int
  i : Nat
  j : Nat
def swIn (ins : List Int) (s : Sw) : Sw := ⟨if s.deep = 0 then s.t ++ [ins.getD s.i 0] else s.t, s.deep + 1, s.i + 1, s.j⟩
def swOut (outs : List Int) (s : Sw) : Sw := ⟨if s.deep - 1 = 0 then s.t ++ [outs.getD s.j 0] else s.t, s.deep - 1, s.i, s.j + 1⟩
def takesIn (ins outs : List Int) (s : Sw) : Prop := s.i < ins.length ∧ ins.getD s.i 0 ≤ outs.getD s.j 0
structure SwI (ins outs : List Int) (s : Sw) : Prop where
  ij : s.j ≤ s.i
  i : s.i ≤ ins.length
  d : s.deep = (s.i : Int) - s.j
  rise : s.t.Pairwise (fun x y => x < y)
  oi : ∀ k k', k < s.j → s.i ≤ k' → k' < ins.length → outs.getD k 0 < ins.getD k' 0
  io : ∀ k k', k < s.i → s.j ≤ k' → k' < outs.length → ins.getD k 0 ≤ outs.getD k' 0
  t0 : s.deep = 0 → ∀ x ∈ s.t, 0 < s.j ∧ x ≤ outs.getD (s.j - 1) 0
  t1 : 0 < s.deep → ∀ x ∈ s.t, x ≤ ins.getD (s.i - 1) 0
  par : s.t.length % 2 = if 0 < s.deep then 1 else 0
  all : ∀ m, (∀ k, s.i ≤ k → k < ins.length → m < ins.getD k 0) → (∀ k, s.j ≤ k → k < outs.length → m < outs.getD k 0) → (cnt s.t m % 2 = 1 ↔ cnt outs m < cnt ins m)
  src : ∀ x ∈ s.t, x ∈ ins ∨ x ∈ outs
section
variable {ins outs : List Int} (hl : outs.length = ins.length) (hi : Srt ins) (ho : Srt outs) (hlt : ∀ k, k < ins.length → ins.getD k 0 < outs.getD k 0)
theorem SwI.start : SwI ins outs ⟨[], 0, 0, 0⟩ := by
  refine ⟨Nat.le_refl _, Nat.zero_le _, rfl, .nil, fun k k' h => by simp at h, fun k k' h => by simp at h, fun _ x hx => (by simp at hx), fun _ x hx => (by simp at hx), by simp, fun m h1 h2 => ?_, fun x hx => (by simp at hx)⟩
  rw [cnt_at (l := ins) (i := 0) (Nat.zero_le _) (fun k hk => by omega) h1, cnt_at (l := outs) (i := 0) (Nat.zero_le _) (fun k hk => by omega) h2]
  simp [cnt_nil]
theorem getD_mem {l : List Int} {k : Nat} (h : k < l.length) : l.getD k 0 ∈ l := by
  rw [List.getD_eq_getElem?_getD, List.getElem?_eq_getElem h]
  simp
theorem push_rise {t : List Int} {v : Int} (h : t.Pairwise (fun x y => x < y)) (hv : ∀ x ∈ t, x < v) : (t ++ [v]).Pairwise (fun x y => x < y) := by
  rw [List.pairwise_append]
  exact ⟨h, by simp, fun a ha b hb => by simp at hb; subst hb; exact hv a ha⟩
include hl hi ho hlt in
theorem SwI.stepIn {s : Sw} (h : SwI ins outs s) (ht : takesIn ins outs s) : SwI ins outs (swIn ins s) := by
  obtain ⟨t, deep, i, j⟩ := s
  obtain ⟨h1, h2, h3, h4, h5, h6, h7, h8, h9, h10, h11⟩ := h
  obtain ⟨g1, g2⟩ := ht
  simp only at *
  have hjl : j < outs.length := by omega
  have low : ∀ x ∈ t, x ≤ ins.getD i 0 ∧ (deep = 0 → x < ins.getD i 0) := by
    intro x hx
    by_cases hd : deep = 0
    · obtain ⟨q1, q2⟩ := h7 hd x hx
      have := h5 (j - 1) i (by omega) (Nat.le_refl _) g1
      omega
    · have q := h8 (by omega) x hx
      have := hi (i - 1) i (by omega) g1
      exact ⟨by omega, fun h => absurd h hd⟩
  have hlow : ∀ x ∈ (if deep = 0 then t ++ [ins.getD i 0] else t), x ≤ ins.getD i 0 := by
    intro x hx
    split at hx
    · rcases List.mem_append.1 hx with hx | hx
      · exact (low x hx).1
      · simp only [List.mem_singleton] at hx; omega
    · exact (low x hx).1
  have hpar : (if deep = 0 then t ++ [ins.getD i 0] else t).length % 2 = 1 := by
    by_cases hd : deep = 0
    · rw [if_pos hd]
      rw [if_neg (by omega)] at h9
      simp only [List.length_append, List.length_cons, List.length_nil]
      omega
    · rw [if_neg hd]
      rw [if_pos (by omega)] at h9
      exact h9
  unfold swIn
  refine ⟨?_, ?_, ?_, ?_, ?_, ?_, ?_, ?_, ?_, ?_, ?_⟩ <;> simp only
  · omega
  · omega
  · omega
  · split
    · rename_i hd
      exact push_rise h4 fun x hx => (low x hx).2 hd
    · exact h4
  · intro k k' a b c
    exact h5 k k' a (by omega) c
  · intro k k' a b c
    rcases Nat.lt_or_ge k i with hk | hk
    · exact h6 k k' hk b c
    · have : k = i := by omega
      subst this
      have := ho j k' b c
      omega
  · intro hd
    omega
  · intro _ x hx
    rw [Nat.add_sub_cancel]
    exact hlow x hx
  · rw [hpar, if_pos (by omega)]
  · intro m a b
    by_cases hm : m < ins.getD i 0
    · have := h10 m (fun k hk hkl => by
        rcases Nat.eq_or_lt_of_le hk with rfl | hk
        · exact hm
        · exact a k (by omega) hkl) b
      rw [← this]
      split
      · rw [cnt_append, cnt_none (l := [ins.getD i 0]) (by simpa using hm)]
        simp
      · rfl
    · rw [cnt_all fun x hx => Int.le_trans (hlow x hx) (by omega), hpar, cnt_at (l := ins) (i := i + 1) (by omega) (fun k hk => Int.le_trans (hi k i (by omega) g1) (by omega)) a,
        cnt_at (l := outs) (i := j) (by omega) (fun k hk => by have := h5 k i hk (Nat.le_refl _) g1; omega) b]
      simp
      omega
  · intro x hx
    split at hx
    · rcases List.mem_append.1 hx with hx | hx
      · exact h11 x hx
      · simp only [List.mem_singleton] at hx; subst hx; exact .inl (getD_mem g1)
    · exact h11 x hx
include hl hi ho hlt in
theorem SwI.stepOut {s : Sw} (h : SwI ins outs s) (hj : s.j < outs.length) (ht : ¬ takesIn ins outs s) : SwI ins outs (swOut outs s) ∧ 1 ≤ s.deep := by
  obtain ⟨t, deep, i, j⟩ := s
  obtain ⟨h1, h2, h3, h4, h5, h6, h7, h8, h9, h10, h11⟩ := h
  unfold takesIn at ht
  simp only at *
  have hd : 0 < deep := by
    rcases Nat.lt_or_ge j i with h | h
    · omega
    · exfalso
      have : i = j := by omega
      subst this
      have := hlt i (by omega)
      exact ht ⟨by omega, by omega⟩
  have low : ∀ x ∈ t, x ≤ outs.getD j 0 ∧ (deep - 1 = 0 → x < outs.getD j 0) := by
    intro x hx
    have q := h8 hd x hx
    have := h6 (i - 1) j (by omega) (Nat.le_refl _) hj
    refine ⟨by omega, fun he => ?_⟩
    have : i - 1 = j := by omega
    rw [this] at q
    have := hlt j (by omega)
    omega
  have hlow : ∀ x ∈ (if deep - 1 = 0 then t ++ [outs.getD j 0] else t), x ≤ outs.getD j 0 := by
    intro x hx
    split at hx
    · rcases List.mem_append.1 hx with hx | hx
      · exact (low x hx).1
      · simp only [List.mem_singleton] at hx; omega
    · exact (low x hx).1
  have hpar : (if deep - 1 = 0 then t ++ [outs.getD j 0] else t).length % 2 = if 0 < deep - 1 then 1 else 0 := by
    rw [if_pos hd] at h9
    by_cases he : deep - 1 = 0
    · rw [if_pos he, if_neg (by omega)]
      simp only [List.length_append, List.length_cons, List.length_nil]
      omega
    · rw [if_neg he, if_pos (by omega)]
      exact h9
  refine ⟨?_, by omega⟩
  unfold swOut
  refine ⟨?_, ?_, ?_, ?_, ?_, ?_, ?_, ?_, ?_, ?_, ?_⟩ <;> simp only
  · omega
  · omega
  · omega
  · split
    · rename_i he
      exact push_rise h4 fun x hx => (low x hx).2 he
    · exact h4
  · intro k k' a b c
    rcases Nat.lt_or_ge k j with hk | hk
    · exact h5 k k' hk b c
    · have : k = j := by omega
      subst this
      have q1 := hi i k' b c
      rcases Nat.lt_or_ge i ins.length with hil | hil
      · rcases Int.lt_or_le (outs.getD k 0) (ins.getD i 0) with h | h
        · omega
        · exact absurd ⟨hil, h⟩ ht
      · omega
  · intro k k' a b c
    exact h6 k k' a (by omega) c
  · intro he x hx
    rw [Nat.add_sub_cancel]
    exact ⟨by omega, hlow x hx⟩
  · intro he x hx
    rw [if_neg (by omega)] at hx
    exact h8 hd x hx
  · exact hpar
  · intro m a b
    by_cases hm : m < outs.getD j 0
    · have := h10 m a (fun k hk hkl => by
        rcases Nat.eq_or_lt_of_le hk with rfl | hk
        · exact hm
        · exact b k (by omega) hkl)
      rw [← this]
      split
      · rw [cnt_append, cnt_none (l := [outs.getD j 0]) (by simpa using hm)]
        simp
      · rfl
    · rw [cnt_all fun x hx => Int.le_trans (hlow x hx) (by omega), hpar, cnt_at (l := outs) (i := j + 1) (by omega) (fun k hk => Int.le_trans (ho k j (by omega) hj) (by omega)) b,
        cnt_at (l := ins) (i := i) h2 (fun k hk => by have := h6 k j hk (Nat.le_refl _) hj; omega) a]
      split
      · simp; omega
      · simp; omega
  · intro x hx
    split at hx
    · rcases List.mem_append.1 hx with hx | hx
      · exact h11 x hx
      · simp only [List.mem_singleton] at hx; subst hx; exact .inr (getD_mem hj)
    · exact h11 x hx
end
structure Turns (q : Int → Prop) (t : List Int) : Prop where
  rise : t.Pairwise (fun x y => x < y)
  even : t.length % 2 = 0
  mem : ∀ m, q m ↔ cnt t m % 2 = 1
theorem SwI.turns {ins outs : List Int} {s : Sw} (h : SwI ins outs s) (hi : s.i = ins.length) (hj : s.j = ins.length) (hl : outs.length = ins.length) : Turns (fun m => cnt outs m < cnt ins m) s.t := by
  have hd : s.deep = 0 := by have := h.d; omega
  refine ⟨h.rise, ?_, fun m => (h.all m (fun k hk => by omega) (fun k hk => by omega)).symm⟩
  have := h.par
  rw [if_neg (by omega)] at this
  exact this
theorem Turns.iff {q q' : Int → Prop} {t : List Int} (h : Turns q t) (hq : ∀ m, q m ↔ q' m) : Turns q' t := ⟨h.rise, h.even, fun m => (hq m).symm.trans (h.mem m)⟩
theorem cover_cnt (c : List Rn) (hc : ∀ r ∈ c, r.1 ≤ r.2) (m : Int) : cnt (c.map fun r => r.2 + 1) m ≤ cnt (c.map fun r => r.1) m ∧ (cnt (c.map fun r => r.2 + 1) m < cnt (c.map fun r => r.1) m ↔ inR c m) ∧ cnt (c.map fun r => r.2 + 1) m ≤ cnt (c.map fun r => r.1) (m - 1) := by
  induction c with
  | nil => simp [cnt_nil, inR_nil]
  | cons x c ih =>
    obtain ⟨h1, h2, h4⟩ := ih fun r hr => hc r (by simp [hr])
    have h3 := hc x (by simp)
    rw [List.map_cons, List.map_cons, cnt_cons, cnt_cons, cnt_cons, inR_cons, ← h2]
    refine ⟨?_, ?_, ?_⟩
    · split <;> split <;> omega
    · split <;> split <;> omega
    · split <;> split <;> omega
structure Sweep (c : List Rn) (ins outs : List Int) : Prop where
  pi : ins.Perm (c.map fun r => r.1)
  po : outs.Perm (c.map fun r => r.2 + 1)
  si : ins.Pairwise (fun x y => x ≤ y)
  so : outs.Pairwise (fun x y => x ≤ y)
  ok : ∀ r ∈ c, okR r
theorem Sweep.len {c : List Rn} {ins outs : List Int} (h : Sweep c ins outs) : outs.length = ins.length := by rw [h.pi.length_eq, h.po.length_eq]; simp
theorem Sweep.lt {c : List Rn} {ins outs : List Int} (h : Sweep c ins outs) (k : Nat) (hk : k < ins.length) : ins.getD k 0 < outs.getD k 0 := by
  have h1 : k < cnt outs (outs.getD k 0) := Srt.cnt_gt (Srt.of h.so) (by rw [h.len]; exact hk) (Int.le_refl _)
  rw [cnt_perm h.po] at h1
  have h2 := (cover_cnt c (fun r hr => (h.ok r hr).2.1) (outs.getD k 0)).2.2
  rw [← cnt_perm h.pi] at h2
  have := Srt.get_le h.si (show k < cnt ins (outs.getD k 0 - 1) by omega)
  omega
theorem Sweep.turns {c : List Rn} {ins outs : List Int} (h : Sweep c ins outs) {s : Sw} (hs : SwI ins outs s) (hi : s.i = ins.length) (hj : s.j = ins.length) : Turns (inR c) s.t ∧ ∀ x ∈ s.t, 1 ≤ x ∧ x ≤ 1000000001 := by
  refine ⟨(hs.turns hi hj h.len).iff fun m => ?_, fun x hx => ?_⟩
  · rw [cnt_perm h.pi, cnt_perm h.po]
    exact (cover_cnt c (fun r hr => (h.ok r hr).2.1) m).2.1
  · rcases hs.src x hx with hx | hx
    · obtain ⟨r, hr, rfl⟩ := List.mem_map.1 (h.pi.mem_iff.1 hx)
      have := h.ok r hr
      unfold okR at this
      omega
    · obtain ⟨r, hr, rfl⟩ := List.mem_map.1 (h.po.mem_iff.1 hx)
      have := h.ok r hr
      unfold okR at this
      omega
theorem Sweep.of (l : List Rn) : Sweep (clips l) (sortI ((clips l).map fun r => r.1)) (sortI ((clips l).map fun r => r.2 + 1)) :=
  ⟨sortI_perm _, sortI_perm _, sortI_sorted _, sortI_sorted _, clips_ok⟩
theorem Turns.top {q : Int → Prop} {t : List Int} (h : Turns q t) : IsTop q (match t.getLast? with | some x => x - 1 | none => 0) := by
  rcases List.eq_nil_or_concat t with rfl | ⟨l, x, rfl⟩
  · exact ⟨.inl rfl, fun n hn => by have := (h.mem n).1 hn; simp [cnt_nil] at this⟩
  · simp only [List.concat_eq_append] at *
    have h1 := h.rise
    rw [List.pairwise_append] at h1
    have hlt : ∀ y ∈ l, y < x := fun y hy => h1.2.2 y hy x (by simp)
    have he := h.even
    simp only [List.length_append, List.length_cons, List.length_nil] at he
    simp only [List.getLast?_append, List.getLast?_singleton, Option.some_or]
    refine ⟨.inr ((h.mem _).2 ?_), fun n hn => ?_⟩
    · rw [cnt_append, cnt_all fun y hy => by have := hlt y hy; omega, cnt_none (l := [x]) (by simp; omega)]
      omega
    · rcases Int.lt_or_le n x with hx | hx
      · omega
      · have := (h.mem n).1 hn
        rw [cnt_append, cnt_all fun y hy => by have := hlt y hy; omega, cnt_all (l := [x]) (by simpa using hx)] at this
        simp at this
        omega
end Go.Proofs.Ytdmfjkhbodbgoaa.Avm

namespace Go.Proofs.Ytdmfjkhbodbgoaa.Avm
theorem rise_uniq : ∀ {t t' : List Int}, t.Pairwise (fun x y => x < y) → t'.Pairwise (fun x y => x < y) → (∀ m, cnt t m % 2 = 1 ↔ cnt t' m % 2 = 1) → t = t'
  | [], [], _, _, _ => rfl
  | [], y :: t', _, h2, h => by
    have := (h y).2
    rw [List.pairwise_cons] at h2
    rw [cnt_cons, cnt_none fun x hx => h2.1 x hx, cnt_nil] at this
    simp at this
  | x :: t, [], h1, _, h => by
    have := (h x).1
    rw [List.pairwise_cons] at h1
    rw [cnt_cons, cnt_none fun y hy => h1.1 y hy, cnt_nil] at this
    simp at this
  | x :: t, y :: t', h1, h2, h => by
    rw [List.pairwise_cons] at h1 h2
    have hxy : x = y := by
      rcases Int.lt_trichotomy x y with hl | he | hl
      · have := (h x).1
        rw [cnt_cons, cnt_none fun z hz => h1.1 z hz, cnt_cons, cnt_none (l := t') fun z hz => by have := h2.1 z hz; omega, if_pos (Int.le_refl _), if_neg (by omega)] at this
        exact absurd (this rfl) (by decide)
      · exact he
      · have := (h y).2
        rw [cnt_cons y, cnt_none fun z hz => h2.1 z hz, cnt_cons, cnt_none (l := t) fun z hz => by have := h1.1 z hz; omega, if_pos (Int.le_refl _), if_neg (by omega)] at this
        exact absurd (this rfl) (by decide)
    subst hxy
    rw [rise_uniq h1.2 h2.2 fun m => ?_]
    have := h m
    rw [cnt_cons, cnt_cons] at this
    split at this
    · omega
    · omega
theorem Turns.uniq {q : Int → Prop} {t t' : List Int} (h : Turns q t) (h' : Turns q t') : t = t' := rise_uniq h.rise h'.rise fun m => by rw [← h.mem, ← h'.mem]
def turnsC (c : List Rn) : List Int := c.flatMap fun r => [r.1, r.2 + 1]
theorem turnsC_cons (x : Rn) (c : List Rn) : turnsC (x :: c) = x.1 :: (x.2 + 1) :: turnsC c := rfl
theorem turnsC_above {x : Rn} {c : List Rn} (h : Can (x :: c)) : ∀ y ∈ turnsC c, x.2 + 1 < y := by
  intro y hy
  simp only [turnsC, List.mem_flatMap, List.mem_cons, List.not_mem_nil, or_false] at hy
  obtain ⟨r, hr, hy⟩ := hy
  have h1 := (Can.cons_iff.1 h).2.1 r hr
  have h2 := h.2 r (by simp [hr])
  unfold sepR at h1
  unfold okR at h2
  omega
theorem turnsC_ok : ∀ {c : List Rn}, Can c → Turns (inR c) (turnsC c)
  | [], _ => ⟨.nil, rfl, fun m => by simp [turnsC, cnt_nil, inR_nil]⟩
  | x :: c, h => by
    have ih := turnsC_ok h.tail
    have ha := turnsC_above h
    have hx := (Can.cons_iff.1 h).1
    unfold okR at hx
    refine ⟨?_, ?_, fun m => ?_⟩
    · rw [turnsC_cons, List.pairwise_cons, List.pairwise_cons]
      refine ⟨fun y hy => ?_, fun y hy => ha y hy, ih.rise⟩
      rcases List.mem_cons.1 hy with rfl | hy
      · omega
      · have := ha y hy; omega
    · rw [turnsC_cons]
      have := ih.even
      simp only [List.length_cons]
      omega
    · rw [turnsC_cons, cnt_cons, cnt_cons, inR_cons, ih.mem]
      by_cases h1 : x.2 + 1 ≤ m
      · rw [if_pos h1, if_pos (by omega)]
        constructor
        · rintro (h | h)
          · omega
          · omega
        · intro h; exact .inr (by omega)
      · rw [if_neg h1, cnt_none (l := turnsC c) fun y hy => by have := ha y hy; omega]
        by_cases h2 : x.1 ≤ m
        · rw [if_pos h2]
          exact ⟨fun _ => rfl, fun _ => .inl (by omega)⟩
        · rw [if_neg h2]
          constructor
          · rintro (h | h)
            · omega
            · omega
          · intro h; omega
theorem turnsC_len (c : List Rn) : (turnsC c).length = 2 * c.length := by
  induction c with
  | nil => rfl
  | cons x c ih => rw [turnsC_cons]; simp only [List.length_cons, ih]; omega
theorem turnsC_bound {c : List Rn} (h : Can c) : ∀ x ∈ turnsC c, 1 ≤ x ∧ x ≤ 1000000001 := by
  intro y hy
  simp only [turnsC, List.mem_flatMap, List.mem_cons, List.not_mem_nil, or_false] at hy
  obtain ⟨r, hr, hy⟩ := hy
  have h2 := h.2 r hr
  unfold okR at h2
  omega
def turnsR (l : List Rn) : List Int := turnsC (normR l)
theorem turnsR_eq {l : List Rn} {t : List Int} (h : Turns (inR (clips l)) t) : t = turnsR l :=
  h.uniq ((turnsC_ok (normR_can l)).iff fun m => by rw [normR_in, clips_in])
end Go.Proofs.Ytdmfjkhbodbgoaa.Avm

namespace Go.Proofs.Ytdmfjkhbodbgoaa.Avm
def odd (n : Nat) : Bool := decide (n % 2 = 1)
theorem odd_iff (n : Nat) : odd n = true ↔ n % 2 = 1 := by simp [odd]
theorem odd_succ (n : Nat) : odd (n + 1) = !odd n := by
  unfold odd
  rcases Nat.mod_two_eq_zero_or_one n with h | h
  · have : (n + 1) % 2 = 1 := by omega
    simp [h, this]
  · have : (n + 1) % 2 = 0 := by omega
    simp [h, this]
structure CbI (a b : List Int) (f : Bool → Bool → Bool) (i j : Nat) (v : Bool) (t : List Int) : Prop where
  hi : i ≤ a.length
  hj : j ≤ b.length
  sa : ∀ x ∈ t, ∀ y ∈ a.drop i, x < y
  sb : ∀ x ∈ t, ∀ y ∈ b.drop j, x < y
  ab : ∀ x ∈ a.take i, ∀ y ∈ b.drop j, x < y
  ba : ∀ x ∈ b.take j, ∀ y ∈ a.drop i, x < y
  rise : t.Pairwise (fun x y => x < y)
  val : v = f (odd i) (odd j)
  len : odd t.length = v
  le : t.length ≤ i + j
  mem : ∀ m, odd (cnt t m) = f (odd (cnt (a.take i) m)) (odd (cnt (b.take j) m))
theorem CbI.start {a b : List Int} {f : Bool → Bool → Bool} (hf : f false false = false) : CbI a b f 0 0 false [] := by
  refine ⟨Nat.zero_le _, Nat.zero_le _, by simp, by simp, by simp, by simp, .nil, by simp [odd, hf], rfl, Nat.le_refl _, fun m => ?_⟩
  simp [cnt_nil, odd, hf]
theorem CbI.step {a b : List Int} {f : Bool → Bool → Bool} (hra : a.Pairwise (fun x y => x < y)) (hrb : b.Pairwise (fun x y => x < y)) {i j : Nat} {v : Bool} {t : List Int} (h : CbI a b f i j v t) {x : Int} {i' j' : Nat}
    (ha : (i' = i + 1 ∧ a[i]? = some x) ∨ (i' = i ∧ ∀ y ∈ a.drop i, x < y)) (hb : (j' = j + 1 ∧ b[j]? = some x) ∨ (j' = j ∧ ∀ y ∈ b.drop j, x < y)) (hx : i' = i + 1 ∨ j' = j + 1) :
    CbI a b f i' j' (f (odd i') (odd j')) (if f (odd i') (odd j') = v then t else t ++ [x]) := by
  have key : ∀ (l : List Int) (k k' : Nat), l.Pairwise (fun x y => x < y) → k ≤ l.length → ((k' = k + 1 ∧ l[k]? = some x) ∨ (k' = k ∧ ∀ y ∈ l.drop k, x < y)) →
      k' ≤ l.length ∧ (∀ y ∈ l.drop k', x < y) ∧ (∀ y ∈ l.take k', y ∈ l.take k ∨ y = x) ∧ (∀ y ∈ l.drop k', y ∈ l.drop k) ∧ (∀ m, m < x → cnt (l.take k') m = cnt (l.take k) m) ∧ (l.take k').length = k' := by
    intro l k k' hr hk hc
    rcases hc with ⟨rfl, hg⟩ | ⟨rfl, hg⟩
    · obtain ⟨hlt, he⟩ := List.getElem?_eq_some_iff.1 hg
      have hd : l.drop k = x :: l.drop (k + 1) := by rw [List.drop_eq_getElem_cons hlt, he]
      have ht : l.take (k + 1) = l.take k ++ [x] := by rw [List.take_add_one, hg]; rfl
      have hp : (x :: l.drop (k + 1)).Pairwise (fun x y => x < y) := by rw [← hd]; exact hr.drop
      refine ⟨hlt, fun y hy => (List.pairwise_cons.1 hp).1 y hy, fun y hy => ?_, fun y hy => by rw [hd]; exact List.mem_cons_of_mem _ hy, fun m hm => ?_, by rw [List.length_take]; omega⟩
      · rw [ht] at hy
        simpa using hy
      · rw [ht, cnt_append, cnt_cons, if_neg (by omega), cnt_nil]; rfl
    · exact ⟨hk, hg, fun y hy => .inl hy, fun y hy => hy, fun _ _ => rfl, by rw [List.length_take]; omega⟩
  obtain ⟨a1, a2, a3, a4, a5, a6⟩ := key a i i' hra h.hi ha
  obtain ⟨b1, b2, b3, b4, b5, b6⟩ := key b j j' hrb h.hj hb
  have hxin : (x ∈ a.drop i) ∨ (x ∈ b.drop j) := by
    rcases hx with e | e
    · rcases ha with ⟨_, hg⟩ | ⟨e2, _⟩
      · obtain ⟨hlt, he⟩ := List.getElem?_eq_some_iff.1 hg
        exact .inl (by rw [List.drop_eq_getElem_cons hlt, he]; exact List.mem_cons_self)
      · omega
    · rcases hb with ⟨_, hg⟩ | ⟨e2, _⟩
      · obtain ⟨hlt, he⟩ := List.getElem?_eq_some_iff.1 hg
        exact .inr (by rw [List.drop_eq_getElem_cons hlt, he]; exact List.mem_cons_self)
      · omega
  have tx : ∀ y ∈ t, y < x := fun y hy => by
    rcases hxin with e | e
    · exact h.sa y hy x e
    · exact h.sb y hy x e
  have ax : ∀ y ∈ a.take i, y < x := fun y hy => by
    rcases hxin with e | e
    · have h1 := hra
      rw [← List.take_append_drop i a, List.pairwise_append] at h1
      exact h1.2.2 y hy x e
    · exact h.ab y hy x e
  have bx : ∀ y ∈ b.take j, y < x := fun y hy => by
    rcases hxin with e | e
    · exact h.ba y hy x e
    · have h1 := hrb
      rw [← List.take_append_drop j b, List.pairwise_append] at h1
      exact h1.2.2 y hy x e
  have ax' : ∀ y ∈ a.take i', y ≤ x := fun y hy => by
    rcases a3 y hy with e | e
    · have := ax y e; omega
    · omega
  have bx' : ∀ y ∈ b.take j', y ≤ x := fun y hy => by
    rcases b3 y hy with e | e
    · have := bx y e; omega
    · omega
  have tx' : ∀ y ∈ (if f (odd i') (odd j') = v then t else t ++ [x]), y ≤ x := fun y hy => by
    split at hy
    · have := tx y hy; omega
    · rcases List.mem_append.1 hy with e | e
      · have := tx y e; omega
      · simp at e; omega
  have hlen : odd (if f (odd i') (odd j') = v then t else t ++ [x]).length = f (odd i') (odd j') := by
    by_cases e : f (odd i') (odd j') = v
    · rw [if_pos e, h.len, e]
    · rw [if_neg e, List.length_append]
      show odd (t.length + 1) = _
      rw [odd_succ, h.len]
      revert e
      cases v <;> cases f (odd i') (odd j') <;> simp
  refine ⟨a1, b1, fun y hy z hz => ?_, fun y hy z hz => ?_, fun y hy z hz => ?_, fun y hy z hz => ?_, ?_, rfl, hlen, ?_, fun m => ?_⟩
  · have := tx' y hy; have := a2 z hz; omega
  · have := tx' y hy; have := b2 z hz; omega
  · have := ax' y hy; have := b2 z hz; omega
  · have := bx' y hy; have := a2 z hz; omega
  · split
    · exact h.rise
    · exact push_rise h.rise tx
  · have h1 := h.le
    have h2 : i + j + 1 ≤ i' + j' := by omega
    split
    · omega
    · simp only [List.length_append, List.length_cons, List.length_nil]; omega
  · rcases Int.lt_or_le m x with hm | hm
    · rw [a5 m hm, b5 m hm, ← h.mem m]
      congr 1
      split
      · rfl
      · rw [cnt_append, cnt_cons, if_neg (by omega), cnt_nil]; rfl
    · rw [cnt_all (fun y hy => Int.le_trans (ax' y hy) hm), cnt_all (fun y hy => Int.le_trans (bx' y hy) hm), cnt_all (fun y hy => Int.le_trans (tx' y hy) hm), a6, b6, hlen]
theorem CbI.done {a b : List Int} {f : Bool → Bool → Bool} {v : Bool} {t : List Int} (h : CbI a b f a.length b.length v t) (hf : f false false = false) {p q : Int → Prop} (ha : Turns p a) (hb : Turns q b) (r : Int → Prop)
    (hr : ∀ m, r m ↔ f (odd (cnt a m)) (odd (cnt b m)) = true) : Turns r t := by
  refine ⟨h.rise, ?_, fun m => ?_⟩
  · have h1 := h.val
    have e1 : odd a.length = false := by have := ha.even; simp [odd]; omega
    have e2 : odd b.length = false := by have := hb.even; simp [odd]; omega
    rw [e1, e2, hf] at h1
    have := h.len
    rw [h1] at this
    simp [odd] at this
    omega
  · rw [hr, ← odd_iff, h.mem m, List.take_length, List.take_length]
end Go.Proofs.Ytdmfjkhbodbgoaa.Avm

namespace Go.Proofs.Ytdmfjkhbodbgoaa.Avm
open Go.Proofs
def r_pastopen_1 : List SOp :=
  [⟨(some 2), (.assign (.const (.pointer none))), none⟩]
instance : Live r_pastopen_1 := ⟨[0]⟩
def r_pastopen_2 : List SOp :=
  [⟨(some 9), (.build 70 #[]), none⟩, ⟨(some 10), (.box 70 (.tmp 9)), none⟩, ⟨(some 3), (.assign (.tmp 10)), none⟩]
instance : Live r_pastopen_2 := ⟨[0]⟩
def r_pastopen_3 : List SOp :=
  [⟨(some 11), (.move (.tmp 0)), none⟩, ⟨(some 12), (.call ⟨.builtin .len, #[.tmp 11], #[51]⟩), none⟩, ⟨(some 13), (.move (.const (.int .i64 0))), none⟩]
instance : Live r_pastopen_3 := ⟨[0, 3]⟩
def r_pastopen_4 : List SOp :=
  [⟨(some 14), (.binOp .lss 3 (.tmp 13) (.tmp 12) 3), none⟩]
instance : Live r_pastopen_4 := ⟨[3, 11, 12, 13]⟩
def r_pastopen_5 : List SOp :=
  [⟨(some 15), (.indexAddr 51 (.tmp 11) (.tmp 13)), none⟩, ⟨(some 16), (.load 25 (.tmp 15)), none⟩, ⟨(some 5), (.alloc 25), none⟩, ⟨none, (.store 25 (.tmp 5) (.tmp 16)), none⟩]
instance : Live r_pastopen_5 := ⟨[3, 11, 12, 13]⟩
def r_pastopen_6 : List SOp :=
  [⟨(some 17), (.fieldAddr 25 (.tmp 5) 0), none⟩, ⟨(some 18), (.load 22 (.tmp 17)), none⟩, ⟨(some 19), (.call ⟨.builtin .len, #[.tmp 18], #[22]⟩), none⟩, ⟨(some 20), (.call ⟨.builtin .min, #[.tmp 19, .const (.int .i64 16)], #[3, 3]⟩), none⟩, ⟨(some 21), (.move (.const (.int .i64 0))), none⟩]
instance : Live r_pastopen_6 := ⟨[3, 5, 11, 12, 13]⟩
def r_pastopen_7 : List SOp :=
  [⟨(some 22), (.binOp .lss 3 (.tmp 21) (.tmp 20) 3), none⟩]
instance : Live r_pastopen_7 := ⟨[3, 5, 11, 12, 13, 20, 21]⟩
def r_pastopen_8 : List SOp :=
  [⟨(some 23), (.move (.tmp 21)), none⟩, ⟨(some 6), (.assign (.tmp 23)), none⟩]
instance : Live r_pastopen_8 := ⟨[3, 5, 11, 12, 13, 20, 21]⟩
def r_pastopen_9 : List SOp :=
  [⟨(some 24), (.move (.tmp 3)), none⟩, ⟨(some 25), (.move (.tmp 6)), none⟩, ⟨(some 26), (.move (.tmp 3)), none⟩, ⟨(some 27), (.move (.tmp 6)), none⟩, ⟨(some 28), (.nilCheck (.tmp 26)), none⟩, ⟨(some 29), (.indexAddr 70 (.tmp 28) (.tmp 27)), none⟩, ⟨(some 30), (.load 58 (.tmp 29)), none⟩, ⟨(some 31), (.fieldAddr 25 (.tmp 5) 0), none⟩, ⟨(some 32), (.load 22 (.tmp 31)), none⟩, ⟨(some 33), (.move (.tmp 6)), none⟩, ⟨(some 34), (.indexAddr 22 (.tmp 32) (.tmp 33)), none⟩, ⟨(some 35), (.load 3 (.tmp 34)), none⟩, ⟨(some 36), (.build 73 #[(0, .const (.int .i64 1)), (1, .tmp 35)]), none⟩, ⟨(some 37), (.buildSlice 58 1 #[(0, .tmp 36)]), none⟩, ⟨(some 38), (.call ⟨.builtin .append, #[.tmp 30, .tmp 37], #[58, 58]⟩), none⟩, ⟨(some 39), (.nilCheck (.tmp 24)), none⟩, ⟨(some 40), (.indexAddr 70 (.tmp 39) (.tmp 25)), none⟩, ⟨none, (.store 58 (.tmp 40) (.tmp 38)), none⟩]
instance : Live r_pastopen_9 := ⟨[3, 5, 6, 11, 12, 13, 20, 21]⟩
instance : Rd r_pastopen_9 := ⟨fun j => j == 5⟩
def r_pastopen_10 : List SOp :=
  [⟨(some 41), (.binOp .add 3 (.tmp 21) (.const (.int .i64 1)) 3), none⟩, ⟨(some 21), (.move (.tmp 41)), none⟩]
instance : Live r_pastopen_10 := ⟨[3, 5, 11, 12, 13, 20, 21]⟩
def r_pastopen_11 : List SOp :=
  [⟨(some 42), (.fieldAddr 25 (.tmp 5) 1), none⟩, ⟨(some 43), (.load 23 (.tmp 42)), none⟩, ⟨(some 44), (.call ⟨.builtin .len, #[.tmp 43], #[23]⟩), none⟩, ⟨(some 45), (.move (.const (.int .i64 0))), none⟩]
instance : Live r_pastopen_11 := ⟨[3, 5, 11, 12, 13]⟩
def r_pastopen_12 : List SOp :=
  [⟨(some 46), (.binOp .lss 3 (.tmp 45) (.tmp 44) 3), none⟩]
instance : Live r_pastopen_12 := ⟨[3, 11, 12, 13, 43, 44, 45]⟩
def r_pastopen_13 : List SOp :=
  [⟨(some 47), (.indexAddr 23 (.tmp 43) (.tmp 45)), none⟩, ⟨(some 48), (.load 41 (.tmp 47)), none⟩, ⟨(some 8), (.alloc 41), none⟩, ⟨none, (.store 41 (.tmp 8) (.tmp 48)), none⟩]
instance : Live r_pastopen_13 := ⟨[3, 11, 12, 13, 43, 44, 45]⟩
def r_pastopen_14 : List SOp :=
  [⟨(some 49), (.fieldAddr 41 (.tmp 8) 0), none⟩, ⟨(some 50), (.load 3 (.tmp 49)), none⟩, ⟨(some 51), (.binOp .geq 3 (.tmp 50) (.const (.int .i64 0)) 3), none⟩, ⟨(some 52), (.move (.tmp 51)), none⟩, ⟨(some 53), (.fieldAddr 41 (.tmp 8) 0), (some ((some 52), true))⟩, ⟨(some 54), (.load 3 (.tmp 53)), (some ((some 52), true))⟩, ⟨(some 55), (.binOp .lss 3 (.tmp 54) (.const (.int .i64 16)) 3), (some ((some 52), true))⟩, ⟨(some 56), (.pick (.tmp 52) (.tmp 55) (.const (.bool false))), none⟩]
instance : Live r_pastopen_14 := ⟨[3, 8, 11, 12, 13, 43, 44, 45]⟩
def r_pastopen_15 : List SOp :=
  [⟨(some 57), (.move (.tmp 3)), none⟩, ⟨(some 58), (.fieldAddr 41 (.tmp 8) 0), none⟩, ⟨(some 59), (.load 3 (.tmp 58)), none⟩, ⟨(some 60), (.move (.tmp 3)), none⟩, ⟨(some 61), (.fieldAddr 41 (.tmp 8) 0), none⟩, ⟨(some 62), (.load 3 (.tmp 61)), none⟩, ⟨(some 63), (.nilCheck (.tmp 60)), none⟩, ⟨(some 64), (.indexAddr 70 (.tmp 63) (.tmp 62)), none⟩, ⟨(some 65), (.load 58 (.tmp 64)), none⟩, ⟨(some 66), (.fieldAddr 41 (.tmp 8) 1), none⟩, ⟨(some 67), (.load 3 (.tmp 66)), none⟩, ⟨(some 68), (.fieldAddr 41 (.tmp 8) 2), none⟩, ⟨(some 69), (.load 3 (.tmp 68)), none⟩, ⟨(some 70), (.build 73 #[(0, .tmp 67), (1, .tmp 69)]), none⟩, ⟨(some 71), (.buildSlice 58 1 #[(0, .tmp 70)]), none⟩, ⟨(some 72), (.call ⟨.builtin .append, #[.tmp 65, .tmp 71], #[58, 58]⟩), none⟩, ⟨(some 73), (.nilCheck (.tmp 57)), none⟩, ⟨(some 74), (.indexAddr 70 (.tmp 73) (.tmp 59)), none⟩, ⟨none, (.store 58 (.tmp 74) (.tmp 72)), none⟩]
instance : Live r_pastopen_15 := ⟨[3, 8, 11, 12, 13, 43, 44, 45]⟩
instance : Rd r_pastopen_15 := ⟨fun j => j == 8⟩
def r_pastopen_16 : List SOp :=
  [⟨(some 75), (.binOp .add 3 (.tmp 45) (.const (.int .i64 1)) 3), none⟩, ⟨(some 45), (.move (.tmp 75)), none⟩]
instance : Live r_pastopen_16 := ⟨[3, 11, 12, 13, 43, 44, 45]⟩
def r_pastopen_17 : List SOp :=
  [⟨(some 76), (.binOp .add 3 (.tmp 13) (.const (.int .i64 1)) 3), none⟩, ⟨(some 13), (.move (.tmp 76)), none⟩]
instance : Live r_pastopen_17 := ⟨[3, 11, 12, 13]⟩
def r_pastopen_18 : List SOp :=
  [⟨(some 77), (.move (.tmp 3)), none⟩, ⟨(some 2), (.assign (.tmp 77)), none⟩]
instance : Live r_pastopen_18 := ⟨[3]⟩
def t_pastopen_l2 : SC :=
  (.seq (.ops false r_pastopen_7) (.seq (.cond (.tmp 22) .skip (.exit 2)) (.seq (.block 3 (.seq (.ops false r_pastopen_8) (.opsW [30] r_pastopen_9))) (.ops false r_pastopen_10))))
def t_pastopen_l3 : SC :=
  (.seq (.ops false r_pastopen_12) (.seq (.cond (.tmp 46) .skip (.exit 4)) (.seq (.block 5 (.seq (.ops false r_pastopen_13) (.seq (.ops false r_pastopen_14) (.cond (.tmp 56) (.opsW [65] r_pastopen_15) .skip)))) (.ops false r_pastopen_16))))
def t_pastopen_l1 : SC :=
  (.seq (.ops false r_pastopen_4) (.seq (.cond (.tmp 14) .skip (.exit 0)) (.seq (.block 1 (.seq (.ops false r_pastopen_5) (.seq (.seq (.ops false r_pastopen_6) (.block 2 (.loop t_pastopen_l2))) (.seq (.ops false r_pastopen_11) (.block 4 (.loop t_pastopen_l3)))))) (.ops false r_pastopen_17))))
def t_pastopen : SC :=
  (.seq (.ops false r_pastopen_1) (.seq (.ops false r_pastopen_2) (.seq (.seq (.ops false r_pastopen_3) (.block 0 (.loop t_pastopen_l1))) (.seq (.ops false r_pastopen_18) .ret))))
theorem it_pastopen : FnIs Try.prog 47 78 [.tmp 2] t_pastopen := ⟨Try.f47, _, Try.func47, rfl, rfl, rfl, rfl, by kernel_rfl⟩
end Go.Proofs.Ytdmfjkhbodbgoaa.Avm

namespace Go.Proofs.Ytdmfjkhbodbgoaa.Avm
open Go.Proofs
abbrev Sn := Int × Int × Int
def encS (s : Sn) : AVal := .agg [.int .i64 s.1, .int .i64 s.2.1, .int .i64 s.2.2]
def encSs (l : List Sn) : List AVal := l.map encS
theorem encSs_stb (l : List Sn) : stbs (encSs l) = true := stbs_map fun _ => rfl
theorem encSs_len (l : List Sn) : (encSs l).length = l.length := by simp [encSs]
theorem encSs_get {l : List Sn} {i : Nat} {r : Sn} (h : l[i]? = some r) : (encSs l)[i]? = some (encS r) := by simp [encSs, h]
theorem encIs_get {l : List Int} {i : Nat} {r : Int} (h : l[i]? = some r) : (encIs l)[i]? = some (.int .i64 r) := by simp [encIs, h, encI]
structure Pst where
  vec : List Int
  cloud : List Sn
def encP (p : Pst) : AVal := .agg [.sl 1 (encIs p.vec), .sl 3 (encSs p.cloud)]
def encPs (l : List Pst) : List AVal := l.map encP
theorem encP_stb (p : Pst) : (encP p).stb = true := by simp [encP, AVal.stb, stbs, encIs_stb, encSs_stb]
theorem encPs_stb (l : List Pst) : stbs (encPs l) = true := stbs_map encP_stb
theorem encPs_len (l : List Pst) : (encPs l).length = l.length := by simp [encPs]
theorem encPs_get {l : List Pst} {i : Nat} {r : Pst} (h : l[i]? = some r) : (encPs l)[i]? = some (encP r) := by simp [encPs, h]
abbrev Tab := List (List Rn)
def encT (t : Tab) : List AVal := t.map fun l => .own 2 (encRs l)
theorem encT_len (t : Tab) : (encT t).length = t.length := by simp [encT]
def addAt (t : Tab) (r : Nat) (x : Rn) : Tab := t.set r (t.getD r [] ++ [x])
theorem addAt_len (t : Tab) (r : Nat) (x : Rn) : (addAt t r x).length = t.length := by simp [addAt]
theorem encT_get {t : Tab} {r : Nat} (h : r < t.length) : (encT t)[r]? = some (.own 2 (encRs (t.getD r []))) := by
  simp [encT, h]
theorem encT_hole {t : Tab} {r : Nat} (h : r < t.length) : ((encT t).set r .hole)[r]? = some .hole := by
  simp [encT, h]
theorem encT_add {t : Tab} {r : Nat} (h : r < t.length) (x : Rn) : ((encT t).set r .hole).set r (.own 2 (encRs (t.getD r []) ++ [.agg [.int .i64 x.1, .int .i64 x.2]])) = encT (addAt t r x) := by
  rw [List.set_set]
  simp [encT, addAt, encRs, encR, List.map_set]
theorem encT_no (K : Nat → Bool) (t : Tab) : (ABlk.cells (encT t)).no K = true := by
  simp only [ABlk.no, List.all_eq_true]
  intro x hx
  obtain ⟨l, _, rfl⟩ := List.mem_map.1 hx
  simp only [AVal.noC, List.all_eq_true]
  intro y hy
  exact no_of_stb (stbs_flat (encRs_stb l) y hy)
def vecAt (v : List Int) (i : Nat) : Int := v.getD i 0
def putVec (v : List Int) (t : Tab) (i : Nat) : Tab := addAt t i (1, vecAt v i)
def addVec (v : List Int) (t : Tab) : Tab := (List.range (min v.length 16)).foldl (putVec v) t
def putSn (t : Tab) (s : Sn) : Tab := if 0 ≤ s.1 ∧ s.1 < 16 then addAt t s.1.toNat s.2 else t
def addCloud (c : List Sn) (t : Tab) : Tab := c.foldl putSn t
def openOne (t : Tab) (p : Pst) : Tab := addCloud p.cloud (addVec p.vec t)
def tab0 : Tab := List.replicate 16 []
def openT (ps : List Pst) : Tab := ps.foldl openOne tab0
def TabLe (t : Tab) (n : Nat) : Prop := t.length = 16 ∧ ∀ r, (t.getD r []).length ≤ n
theorem TabLe.add {t : Tab} {n : Nat} (h : TabLe t n) (r : Nat) (x : Rn) : TabLe (addAt t r x) (n + 1) := by
  refine ⟨by rw [addAt_len, h.1], fun q => ?_⟩
  unfold addAt
  rw [List.getD_eq_getElem?_getD, List.getElem?_set]
  split
  · split
    · simp; exact h.2 r
    · simp
  · have := h.2 q
    rw [List.getD_eq_getElem?_getD] at this
    omega
theorem TabLe.mono {t : Tab} {n m : Nat} (h : TabLe t n) (hm : n ≤ m) : TabLe t m := ⟨h.1, fun r => Nat.le_trans (h.2 r) hm⟩
theorem TabLe.range {v : List Int} {t : Tab} {n : Nat} (h : TabLe t n) : ∀ i, TabLe ((List.range i).foldl (putVec v) t) (n + i)
  | 0 => h
  | i + 1 => by
    rw [List.range_succ, List.foldl_append]
    exact (TabLe.range h i).add i _
theorem TabLe.putSn {t : Tab} {n : Nat} (h : TabLe t n) (s : Sn) : TabLe (putSn t s) (n + 1) := by
  unfold Avm.putSn
  split
  · exact h.add _ _
  · exact h.mono (by omega)
theorem TabLe.cloud {t : Tab} {n : Nat} (h : TabLe t n) : ∀ c : List Sn, TabLe (c.foldl Avm.putSn t) (n + c.length)
  | [] => h
  | s :: c => by
    have := TabLe.cloud (h.putSn s) c
    simp only [List.foldl_cons, List.length_cons]
    exact this.mono (by omega)
def wt (p : Pst) : Nat := p.vec.length + p.cloud.length
theorem TabLe.one {t : Tab} {n : Nat} (h : TabLe t n) (p : Pst) : TabLe (openOne t p) (n + wt p) := by
  have := ((TabLe.range (v := p.vec) h (min p.vec.length 16))).cloud p.cloud
  exact this.mono (by unfold wt; omega)
theorem TabLe.all {t : Tab} {n : Nat} (h : TabLe t n) : ∀ ps : List Pst, TabLe (ps.foldl openOne t) (n + (ps.map wt).sum)
  | [] => h
  | p :: ps => by
    have := TabLe.all (h.one p) ps
    simp only [List.foldl_cons, List.map_cons, List.sum_cons]
    exact this.mono (by omega)
theorem tab0_le : TabLe tab0 0 := ⟨rfl, fun r => by
  unfold tab0
  rw [List.getD_eq_getElem?_getD, List.getElem?_replicate]
  split <;> simp⟩
theorem take_sum_le {l : List Nat} (i : Nat) : (l.take i).sum ≤ l.sum := by
  induction l generalizing i with
  | nil => simp
  | cons x l ih => cases i with
    | zero => simp
    | succ i => simp only [List.take_succ_cons, List.sum_cons]; have := ih i; omega
end Go.Proofs.Ytdmfjkhbodbgoaa.Avm

namespace Go.Proofs.Ytdmfjkhbodbgoaa.Avm
open Go.Proofs
def r_ref04sorted_1 : List SOp :=
  [⟨(some 2), (.assign (.const (.slice none 0 0))), none⟩]
instance : Live r_ref04sorted_1 := ⟨[0]⟩
def r_ref04sorted_2 : List SOp :=
  [⟨(some 8), (.move (.tmp 0)), none⟩, ⟨(some 9), (.call ⟨.builtin .len, #[.tmp 8], #[22]⟩), none⟩, ⟨(some 10), (.binOp .lss 3 (.tmp 9) (.const (.int .i64 2)) 3), none⟩]
instance : Live r_ref04sorted_2 := ⟨[0]⟩
def r_ref04sorted_3 : List SOp :=
  [⟨(some 11), (.buildSlice 22 0 #[]), none⟩, ⟨(some 12), (.move (.tmp 0)), none⟩, ⟨(some 13), (.call ⟨.builtin .append, #[.tmp 11, .tmp 12], #[22, 22]⟩), none⟩, ⟨(some 2), (.assign (.tmp 13)), none⟩]
instance : Live r_ref04sorted_3 := ⟨[0]⟩
def r_ref04sorted_4 : List SOp :=
  [⟨(some 14), (.move (.tmp 0)), none⟩, ⟨(some 15), (.move (.tmp 0)), none⟩, ⟨(some 16), (.call ⟨.builtin .len, #[.tmp 15], #[22]⟩), none⟩, ⟨(some 17), (.binOp .quo 3 (.tmp 16) (.const (.int .i64 2)) 3), none⟩, ⟨(some 18), (.slice 22 (.tmp 14) none (some (.tmp 17)) none), none⟩, ⟨(some 19), (.call ⟨.value (.func 108), #[.tmp 18], #[22]⟩), none⟩, ⟨(some 3), (.assign (.tmp 19)), none⟩]
instance : Live r_ref04sorted_4 := ⟨[0]⟩
def r_ref04sorted_5 : List SOp :=
  [⟨(some 20), (.move (.tmp 0)), none⟩, ⟨(some 21), (.move (.tmp 0)), none⟩, ⟨(some 22), (.call ⟨.builtin .len, #[.tmp 21], #[22]⟩), none⟩, ⟨(some 23), (.binOp .quo 3 (.tmp 22) (.const (.int .i64 2)) 3), none⟩, ⟨(some 24), (.slice 22 (.tmp 20) (some (.tmp 23)) none none), none⟩, ⟨(some 25), (.call ⟨.value (.func 108), #[.tmp 24], #[22]⟩), none⟩, ⟨(some 4), (.assign (.tmp 25)), none⟩]
instance : Live r_ref04sorted_5 := ⟨[0, 3]⟩
def r_ref04sorted_6 : List SOp :=
  [⟨(some 26), (.move (.tmp 0)), none⟩, ⟨(some 27), (.call ⟨.builtin .len, #[.tmp 26], #[22]⟩), none⟩, ⟨(some 28), (.makeSlice 22 (.const (.int .i64 0)) (.tmp 27)), none⟩, ⟨(some 5), (.assign (.tmp 28)), none⟩]
instance : Live r_ref04sorted_6 := ⟨[0, 3, 4]⟩
def r_ref04sorted_7 : List SOp :=
  [⟨(some 6), (.assign (.const (.int .i64 0))), none⟩, ⟨(some 7), (.assign (.const (.int .i64 0))), none⟩]
instance : Live r_ref04sorted_7 := ⟨[3, 4, 5]⟩
def r_ref04sorted_8 : List SOp :=
  [⟨(some 29), (.move (.tmp 6)), none⟩, ⟨(some 30), (.move (.tmp 3)), none⟩, ⟨(some 31), (.call ⟨.builtin .len, #[.tmp 30], #[22]⟩), none⟩, ⟨(some 32), (.binOp .lss 3 (.tmp 29) (.tmp 31) 3), none⟩, ⟨(some 33), (.move (.tmp 32)), none⟩, ⟨(some 34), (.move (.tmp 7)), (some ((some 33), false))⟩, ⟨(some 35), (.move (.tmp 4)), (some ((some 33), false))⟩, ⟨(some 36), (.call ⟨.builtin .len, #[.tmp 35], #[22]⟩), (some ((some 33), false))⟩, ⟨(some 37), (.binOp .lss 3 (.tmp 34) (.tmp 36) 3), (some ((some 33), false))⟩, ⟨(some 38), (.pick (.tmp 33) (.const (.bool true)) (.tmp 37)), none⟩]
instance : Live r_ref04sorted_8 := ⟨[3, 4, 5, 6, 7]⟩
def r_ref04sorted_9 : List SOp :=
  [⟨(some 39), (.move (.tmp 7)), none⟩, ⟨(some 40), (.move (.tmp 4)), none⟩, ⟨(some 41), (.call ⟨.builtin .len, #[.tmp 40], #[22]⟩), none⟩, ⟨(some 42), (.binOp .eql 3 (.tmp 39) (.tmp 41) 3), none⟩, ⟨(some 43), (.move (.tmp 42)), none⟩, ⟨(some 44), (.move (.tmp 6)), (some ((some 43), false))⟩, ⟨(some 45), (.move (.tmp 3)), (some ((some 43), false))⟩, ⟨(some 46), (.call ⟨.builtin .len, #[.tmp 45], #[22]⟩), (some ((some 43), false))⟩, ⟨(some 47), (.binOp .lss 3 (.tmp 44) (.tmp 46) 3), (some ((some 43), false))⟩, ⟨(some 48), (.move (.tmp 47)), (some ((some 43), false))⟩, ⟨(some 49), (.move (.tmp 3)), (some ((some 48), true))⟩, ⟨(some 50), (.move (.tmp 6)), (some ((some 48), true))⟩, ⟨(some 51), (.indexAddr 22 (.tmp 49) (.tmp 50)), (some ((some 48), true))⟩, ⟨(some 52), (.load 3 (.tmp 51)), (some ((some 48), true))⟩, ⟨(some 53), (.move (.tmp 4)), (some ((some 48), true))⟩, ⟨(some 54), (.move (.tmp 7)), (some ((some 48), true))⟩, ⟨(some 55), (.indexAddr 22 (.tmp 53) (.tmp 54)), (some ((some 48), true))⟩, ⟨(some 56), (.load 3 (.tmp 55)), (some ((some 48), true))⟩, ⟨(some 57), (.binOp .leq 3 (.tmp 52) (.tmp 56) 3), (some ((some 48), true))⟩, ⟨(some 58), (.pick (.tmp 48) (.tmp 57) (.const (.bool false))), (some ((some 43), false))⟩, ⟨(some 59), (.pick (.tmp 43) (.const (.bool true)) (.tmp 58)), none⟩]
instance : Live r_ref04sorted_9 := ⟨[3, 4, 5, 6, 7]⟩
def r_ref04sorted_10 : List SOp :=
  [⟨(some 60), (.move (.tmp 5)), none⟩, ⟨(some 61), (.move (.tmp 3)), none⟩, ⟨(some 62), (.move (.tmp 6)), none⟩, ⟨(some 63), (.indexAddr 22 (.tmp 61) (.tmp 62)), none⟩, ⟨(some 64), (.load 3 (.tmp 63)), none⟩, ⟨(some 65), (.buildSlice 22 1 #[(0, .tmp 64)]), none⟩, ⟨(some 66), (.call ⟨.builtin .append, #[.tmp 60, .tmp 65], #[22, 22]⟩), none⟩, ⟨(some 5), (.assign (.tmp 66)), none⟩]
instance : Live r_ref04sorted_10 := ⟨[3, 4, 5, 6, 7]⟩
def r_ref04sorted_11 : List SOp :=
  [⟨(some 67), (.move (.tmp 6)), none⟩, ⟨(some 68), (.binOp .add 3 (.tmp 67) (.const (.int .i64 1)) 3), none⟩, ⟨(some 6), (.assign (.tmp 68)), none⟩]
instance : Live r_ref04sorted_11 := ⟨[3, 4, 5, 6, 7]⟩
def r_ref04sorted_12 : List SOp :=
  [⟨(some 69), (.move (.tmp 5)), none⟩, ⟨(some 70), (.move (.tmp 4)), none⟩, ⟨(some 71), (.move (.tmp 7)), none⟩, ⟨(some 72), (.indexAddr 22 (.tmp 70) (.tmp 71)), none⟩, ⟨(some 73), (.load 3 (.tmp 72)), none⟩, ⟨(some 74), (.buildSlice 22 1 #[(0, .tmp 73)]), none⟩, ⟨(some 75), (.call ⟨.builtin .append, #[.tmp 69, .tmp 74], #[22, 22]⟩), none⟩, ⟨(some 5), (.assign (.tmp 75)), none⟩]
instance : Live r_ref04sorted_12 := ⟨[3, 4, 5, 6, 7]⟩
def r_ref04sorted_13 : List SOp :=
  [⟨(some 76), (.move (.tmp 7)), none⟩, ⟨(some 77), (.binOp .add 3 (.tmp 76) (.const (.int .i64 1)) 3), none⟩, ⟨(some 7), (.assign (.tmp 77)), none⟩]
instance : Live r_ref04sorted_13 := ⟨[3, 4, 5, 6, 7]⟩
def r_ref04sorted_14 : List SOp :=
  [⟨(some 78), (.move (.tmp 5)), none⟩, ⟨(some 2), (.assign (.tmp 78)), none⟩]
instance : Live r_ref04sorted_14 := ⟨[5]⟩
def t_ref04sorted_l1 : SC :=
  (.seq (.seq (.ops false r_ref04sorted_8) (.cond (.tmp 38) .skip (.exit 0))) (.block 1 (.seq (.ops true r_ref04sorted_9) (.cond (.tmp 59) (.seq (.ops false r_ref04sorted_10) (.ops false r_ref04sorted_11)) (.seq (.ops false r_ref04sorted_12) (.ops false r_ref04sorted_13))))))
def t_ref04sorted : SC :=
  (.seq (.ops false r_ref04sorted_1) (.seq (.seq (.ops false r_ref04sorted_2) (.cond (.tmp 10) (.seq (.ops false r_ref04sorted_3) .ret) .skip)) (.seq (.ops false r_ref04sorted_4) (.seq (.ops false r_ref04sorted_5) (.seq (.ops false r_ref04sorted_6) (.seq (.ops false r_ref04sorted_7) (.seq (.block 0 (.loop t_ref04sorted_l1)) (.seq (.ops false r_ref04sorted_14) .ret))))))))
theorem it_ref04sorted : FnIs Try.prog 108 79 [.tmp 2] t_ref04sorted := ⟨Try.f108, _, Try.func108, rfl, rfl, rfl, rfl, by kernel_rfl⟩
end Go.Proofs.Ytdmfjkhbodbgoaa.Avm
