/- Part 6 of the proof: lemmas. -/
import Derived.Test.YtkionmommpgcmaaGreatN5
import Derived.Test.YtkionmommpgcmaaGreatProg
import Derived.KernelRfl
set_option maxRecDepth 100000
set_option maxHeartbeats 4000000
set_option linter.unusedVariables false
set_option linter.unusedSimpArgs false
set_option linter.unusedSectionVars false
set_option linter.defProp false
namespace Go.Proofs.YtkionmommpgcmaaGreat.Avm
open Go.Proofs
theorem EvM.of_run {E : Env} {f : FuncId} {fn : Func} {c : Code} (h1 : E.P.funcs[f]? = some fn) (h2 : (fn.name == "runtime.NumGoroutine") = false) (h3 : fn.body = some c) {args : List AVal} {m m' : qdi} {out : Out} (hl : args.length ≤ fn.ntmps) (hd : ∀ k, lin m' k = lin m k)
 (hb : ∀ p ∈ m, p.1 < q5e) (hst' : ∀ p ∈ m', ∀ x ∈ p.2, q0n x = true)
 (h : ∀ (B : Nat → Prop) (G : Gh) (vs : Array Value) (w : World), vs.size = args.length → Rel fn.ntmps B G ⟨q45 args, mms (lnt m G.β)⟩ { tmps := vs ++ Array.replicate (fn.ntmps - vs.size) undef, defers := [] } w → ∀ R : Ending → World → Prop,
  (∀ e w' G' s a' n', Adv G w G' w' → Rel n' B G' s a' w' → FinM m m' G.β s → (∃ v', match out with
   | .ret x => e = .returned v' ∧ x.stb = true ∧ VR (Dm s.M) G' B w' x v'
   | .pan x => e = .panicked [{ v := v', recovered := false }] ∧ x.kin (lin m) = true ∧ VR (Dm s.M) G' B w' x v') → R e w') → Calls E.P f vs w R) : EvM E.P f args m out m' := by
 refine ⟨⟨fn, h1, h2, by simp [h3]⟩, hd, fun B w vs G hG hsz hv hmem hB hol => ?_⟩
 have hlt : ∀ k, lin m k = true → k < q5e := fun k hk => by
  obtain ⟨cs, hc⟩ := q3i hk
  obtain ⟨cs', _, hm⟩ := q23 hc
  exact hb _ hm
 have hD : ∀ k e, Dm (q3u m) k e → Dm (mms (lnt m G.β)) k e := fun k e hk => by
  have hk' := qma.1 hk
  unfold Dm
  rw [qm9 (hlt k hk')]
  exact hk
 have same : ∀ b, b < w.heap.size → ¬ B b → G.ow b = none → w.heap[b]? = w.heap[b]? ∧ ¬ B b ∧ G.ow b = none := fun b _ hn ho => ⟨rfl, hn, ho⟩
 have hR : Rel fn.ntmps B G ⟨q45 args, mms (lnt m G.β)⟩ { tmps := vs ++ Array.replicate (fn.ntmps - vs.size) undef, defers := [] } w := by
  refine ⟨by simp; omega, rfl, fun t => ?_, fun k blk hk => ?_, hB, hol⟩
  ·simp only [q45]
   cases ht : args[t]? with
   | none => exact .undef _
   | some x =>
    have hlt : t < vs.size := by
     rw [hsz]
     rcases Nat.lt_or_ge t args.length with h' | h'
     ·exact h'
     ·rw [List.getElem?_eq_none h'] at ht; cases ht
    have : (vs ++ Array.replicate (fn.ntmps - vs.size) undef).getD t undef = vs[t] := by
     rw [Array.getD_eq_getD_getElem?, Array.getElem?_append_left hlt]
     simp [hlt]
    simp only [Option.getD_some, this]
    exact VR.mono (G := G) (G' := G) (B := B) (B' := B) (w := w) (w' := w) hD (fun _ _ _ => ⟨rfl, rfl⟩) same (hv t x _ ht (by simp [hlt]))
  ·rcases qbb hk with hk | ⟨p, hp, rfl⟩
   ·exact BlkRel.mono (G := G) (G' := G) (B := B) (B' := B) (w := w) (w' := w) hD (fun _ _ _ => ⟨rfl, rfl⟩) same (fun b key _ _ hn ho => ⟨rfl, hn, ho⟩) (q8n hk) (hmem k blk hk)
   ·refine .ptr p.1 0 (hD _ _ (qma.2 ?_))
    unfold lin q3u
    rw [Option.isSome_map, List.find?_isSome]
    exact ⟨p, hp, by simp⟩
 refine h B G vs w hsz hR _ fun e w' G' s a' n' hA hR' hf hout => ?_
 let G2 : Gh := { G' with ow := fun b => match G'.ow b with | some (.box k) => if lin m k = true then some (.box k) else none | some (.cell k i) => if lin m k = true then some (.cell k i) else none | _ => none }
 have g2 : ∀ b, G'.ow b = none → G2.ow b = none := fun b hb => by simp only [G2, hb]
 have g3 : ∀ b, (G'.without fun j => !lin m j).ow b = none → G2.ow b = none := fun b hb => by
  simp only [Gh.without] at hb
  simp only [G2]
  cases hq : G'.ow b with
  | none => rfl
  | some key =>
   simp only [hq] at hb
   cases key with
   | arr j => rfl
   | box j => cases hl : lin m j <;> simp [OKey.of, hl] at hb ⊢
   | cell j i => cases hl : lin m j <;> simp [OKey.of, hl] at hb ⊢
 have hA2 : Adv G w G2 w' := ⟨hA.os, hA.tape, hA.output, hA.size, fun b hb ho => ⟨(hA.keep b hb ho).1, g2 b (hA.keep b hb ho).2⟩⟩
 have hkeys : ∀ b key, G2.ow b = some key → lin m key.of = true ∧ ∀ j, key ≠ .arr j := fun b key hk => by
  simp only [G2] at hk
  split at hk
  ·split at hk
   ·rename_i hl; cases hk; exact ⟨hl, fun _ h => (by cases h)⟩
   ·cases hk
  ·split at hk
   ·rename_i hl; cases hk; exact ⟨hl, fun _ h => (by cases h)⟩
   ·cases hk
  ·cases hk
 have hol2 : ∀ b, G2.ow b ≠ none → b < w'.heap.size := fun b hb => hR'.ol b fun hn => hb (g2 b hn)
 have fin : FinM m m' G.β s → (∀ k, lin m k = true → G2.β k = G.β k) ∧ (∀ k blk, q3u m' k = some blk → BlkRel (Dm (q3u m')) G2 B w' k blk) := fun ⟨f1, f2⟩ => by
  refine ⟨fun k hk => ?_, fun k blk hk => ?_⟩
  ·obtain ⟨cs, hc⟩ := q3i hk
   obtain ⟨cs', _, hm⟩ := q23 hc
   obtain ⟨j, hj⟩ := f2 _ hm
   have hn : VR (Dm s.M) G' B w' (.ptr k 0) (q3h (G.β k)) := hR'.mem j _ hj
   show G'.β k = G.β k
   unfold q3h at hn
   generalize hg : Value.pointer (some ⟨G.β k, 0, none⟩) = u at hn
   cases hn with
   | ptr _ _ hD =>
    simp only [Value.pointer.injEq, Option.some.injEq, Addr.mk.injEq] at hg
    exact hg.1.symm
  ·obtain ⟨cs, rfl, hm⟩ := q23 hk
   have hlk : lin m k = true := by rw [← hd]; unfold lin; rw [hk]; rfl
   exact q5n (G := G') (G' := G2) (B := B) (B' := B) (hst' _ hm) rfl (fun b hn ho => ⟨hn, by simp only [G2, ho, hlk, if_true]⟩) (fun b i hn ho => ⟨hn, by simp only [G2, ho, hlk, if_true]⟩) (fun b _ hn ho => ⟨hn, g2 b ho⟩) (hR'.mem k _ (f1 _ hm))
 obtain ⟨v', hout⟩ := hout
 cases out with
 | ret x =>
  obtain ⟨he, hs, hV⟩ := hout
  exact ⟨G2, v', hkeys, hol2, hA2, (fin hf).1, (fin hf).2, he, hV.stable (fun b _ hn ho => ⟨rfl, hn, g2 b ho⟩) hs⟩
 | pan x =>
  obtain ⟨he, hk, hV⟩ := hout
  refine ⟨G2, v', hkeys, hol2, hA2, (fin hf).1, (fin hf).2, he, ?_⟩
  have := VR.ren (K := lin m) (ρ := fun k => k) (G := G') (G' := G2) (B := B) (B' := B) (w := w') (w' := w') (D := Dm s.M) (D' := Dm (q3u m')) (fun b _ hn ho => ⟨rfl, hn, g2 b ho⟩) (fun k hk _ => ⟨qma.2 (by rw [hd]; exact hk), rfl⟩) hV hk
  rwa [AVal.ren_id] at this
theorem q68 {P : Program} {TE : TyE} (hT : q2s P TE) {s : AS} {x : Operand} {xt at' : TypeId} {i : TyI} (ht : TE at' = some i) (hna : i.td ≠ .iface) {z : AVal} (hz : ∀ D G B w, VR D G B w z i.zero) (hx : ev s.T x = .niliface) :
 Hook P s (.typeAssert x xt at' true) (fun v M' => M' = s.M ∧ v = .tup [z, .bool false]) := by
 intro n B G act w hR o ho K Q hK
 have q1 := hR.ev x
 rw [hx] at q1
 generalize hxv : act.eval x = xv at q1
 cases q1
 obtain ⟨d, inf, u1, u2, u3, u4, u5, u6, u7⟩ := hT at' i ht
 have hz0 := q0y hT ht w
 have hrun : (execOp act.eval o).run P w = .ok (.value (.tuple #[i.zero, .bool false])) w := by
  unfold execOp
  rw [ho]
  cases d <;> simp only [TD.of] at u2 <;> first | exact absurd u2.symm hna | simp [Instr.typeAssert, run_underlying u1, hxv, hz0, Result.andThen]
 unfold Oper.wp
 rw [hrun]
 exact hK _ _ s.M w G ⟨rfl, rfl⟩ (.refl G w) hR (.tup _ _ rfl fun n x v h1 h2 => by
  match n with
  | 0 => simp at h1 h2; subst h1; subst h2; exact hz _ _ _ _
  | 1 => simp at h1 h2; subst h1; subst h2; exact .bool false
  | n + 2 => simp at h1)
theorem qbh {P : Program} {TE : TyE} (hT : q2s P TE) {s : AS} {x : Operand} {xt at' : TypeId} {i : TyI} (ht : TE at' = some i) (hna : i.td ≠ .iface) {z : AVal} (hx : ev s.T x = .iface at' z) :
 Hook P s (.typeAssert x xt at' true) (fun v M' => M' = s.M ∧ v = .tup [z, .bool true]) := by
 intro n B G act w hR o ho K Q hK
 have q1 := hR.ev x
 rw [hx] at q1
 generalize hxv : act.eval x = xv at q1
 cases q1
 rename_i u hu
 obtain ⟨d, inf, u1, u2, u3, u4, u5, u6, u7⟩ := hT at' i ht
 have hrun : (execOp act.eval o).run P w = .ok (.value (.tuple #[u, .bool true])) w := by
  unfold execOp
  rw [ho]
  cases d <;> simp only [TD.of] at u2 <;> first | exact absurd u2.symm hna | simp [Instr.typeAssert, run_underlying u1, hxv, Result.andThen]
 unfold Oper.wp
 rw [hrun]
 exact hK _ _ s.M w G ⟨rfl, rfl⟩ (.refl G w) hR (.tup _ _ rfl fun n x v h1 h2 => by
  match n with
  | 0 => simp at h1 h2; subst h1; subst h2; exact hu
  | 1 => simp at h1 h2; subst h1; subst h2; exact .bool true
  | n + 2 => simp at h1)
theorem eqPS {P : Program} {t e : TypeId} {m : Nat} (hu : P.underlying t = some (.pointer e)) (w : World) (hs : (sizeOf e).run P w = .ok m w) (hm : m ≠ 0) (d : Nat) (a : Addr) : (Op.equalIn (d + 1) t (.pointer (some a)) (.pointer (some a))).run P w = .ok true w := by
 simp [Op.equalIn, run_underlying hu, hs, hm, sameAddr, Result.andThen]
theorem eqIN {P : Program} {t : TypeId} (hu : ∃ ms, P.underlying t = some (.interface ms)) (w : World) (d : Nat) : (Op.equalIn (d + 1) t .nilIface .nilIface).run P w = .ok true w := by
 obtain ⟨ms, hu⟩ := hu
 simp [Op.equalIn, run_underlying hu]
theorem qjq {P : Program} {TE : TyE} (hT : q2s P TE) {s : AS} {x y : Operand} {t u e : TypeId} {i ei : TyI} (ht : TE t = some i) (hd : i.td = .ptr e) (he : TE e = some ei) (hne : ei.size ≠ 0) {k off : Nat} (hx : ev s.T x = .ptr k off) (hy : ev s.T y = .ptr k off) :
 Hook P s (.binOp .neq t x y u) (fun v M' => M' = s.M ∧ v = .bool false) := by
 intro n B G act w hR o ho K Q hK
 have q1 := hR.ev x
 have q2 := hR.ev y
 rw [hx] at q1
 rw [hy] at q2
 generalize hxv : act.eval x = xv at q1
 generalize hyv : act.eval y = yv at q2
 cases q1
 cases q2
 obtain ⟨d, inf, u1, u2, u3, u4, u5, u6, u7⟩ := hT t i ht
 have hdd : d = .pointer e := by rw [hd] at u2; cases d <;> simp [TD.of] at u2; rw [u2]
 subst hdd
 have hs := q0k hT he w
 have hr : (Op.equalIn (9999 + 1) t (.pointer (some ⟨G.β k, off, none⟩)) (.pointer (some ⟨G.β k, off, none⟩))).run P w = .ok true w := eqPS u1 w hs hne 9999 _
 obtain ⟨_, g2⟩ := q3m (t := t) (ox := x) (oy := y) (fun op => by cases op <;> rfl) rfl rfl hr
 have hrun : (execOp act.eval o).run P w = .ok (.value (.bool false)) w := by
  unfold execOp
  rw [ho]
  simp only [hxv, hyv]
  rw [Sem.run_bind, g2]
  rfl
 unfold Oper.wp
 rw [hrun]
 exact hK _ _ s.M w G ⟨rfl, rfl⟩ (.refl G w) hR (.bool false)
theorem q9f {P : Program} {TE : TyE} (hT : q2s P TE) {s : AS} {x : Operand} {t u : TypeId} {i : TyI} (ht : TE t = some i) (hd : i.td = .iface) (hx : ev s.T x = .niliface) :
 Hook P s (.binOp .neq t x (.const .nilIface) u) (fun v M' => M' = s.M ∧ v = .bool false) := by
 intro n B G act w hR o ho K Q hK
 have q1 := hR.ev x
 rw [hx] at q1
 generalize hxv : act.eval x = xv at q1
 cases q1
 obtain ⟨d, inf, u1, u2, u3, u4, u5, u6, u7⟩ := hT t i ht
 have hr : (Op.equalIn (9999 + 1) t .nilIface .nilIface).run P w = .ok true w := by
  rw [hd] at u2
  cases d <;> simp [TD.of] at u2
  exact eqIN ⟨_, u1⟩ w 9999
 obtain ⟨_, g2⟩ := q3m (t := t) (ox := x) (oy := .const .nilIface) (fun op => by cases op <;> cases x <;> simp [eqGuard]) rfl rfl hr
 have hrun : (execOp act.eval o).run P w = .ok (.value (.bool false)) w := by
  unfold execOp
  rw [ho]
  have hc : act.eval (.const .nilIface) = .nilIface := rfl
  simp only [hxv, hc]
  rw [Sem.run_bind, g2]
  rfl
 unfold Oper.wp
 rw [hrun]
 exact hK _ _ s.M w G ⟨rfl, rfl⟩ (.refl G w) hR (.bool false)
def qmw (K : Nat → Bool) : AVal → Bool
 | .own _ xs => q0m xs
 | .hole => true
 | .ref _ => false
 | x => x.kin K
def renC (σ : Nat → Nat) : AVal → AVal
 | .own sz xs => .own sz xs
 | .hole => .hole
 | .ref cs => .ref cs
 | x => x.ren σ
def q78 (K : Nat → Bool) : ABlk → Bool
 | .cells cs => cs.all (qmw K)
 | .note x _ => x.kin K
 | _ => false
def z0m (σ : Nat → Nat) : ABlk → ABlk
 | .cells cs => .cells (cs.map (renC σ))
 | .note x v => .note (x.ren σ) v
 | b => b
theorem Wk.ren {n : Nat} {T : q14} {M : Mem} (σ τ : Nat → Nat) (K : Nat → Bool) (hK : ∀ k, M k ≠ none → τ (σ k) = k) (hT : ∀ t, (T t).kin K = true) (hM : ∀ k blk, M k = some blk → q78 K blk = true) :
 Wk n ⟨T, M⟩ ⟨fun t => (T t).ren σ, fun k => if σ (τ k) = k then (M (τ k)).map (z0m σ) else none⟩ := by
 intro B G a w hR
 let G' : Gh := { β := fun k => G.β (τ k), hd := G.hd, ow := fun b => (G.ow b).map (OKey.ren σ), hd1 := G.hd1 }
 have g0 : ∀ b, G.ow b = none → G'.ow b = none := fun b hb => by simp [G', hb]
 have g1 : ∀ b key, G.ow b = some key → G'.ow b = some (key.ren σ) := fun b key hb => by simp [G', hb]
 have hA : Adv G w G' w := ⟨⟨rfl, Nat.le_refl _⟩, rfl, rfl, Nat.le_refl _, fun b _ ho => ⟨rfl, g0 b ho⟩⟩
 have hw : ∀ b, b < w.heap.size → ¬ B b → G.ow b = none → w.heap[b]? = w.heap[b]? ∧ ¬ B b ∧ G'.ow b = none := fun b _ hn ho => ⟨rfl, hn, g0 b ho⟩
 let M' : Mem := fun k => if σ (τ k) = k then (M (τ k)).map (z0m σ) else none
 have hM' : ∀ k blk, M k = some blk → M' (σ k) = some (z0m σ blk) := fun k blk hk => by
  have := hK k (by rw [hk]; simp)
  simp only [M', this, if_true, hk, Option.map_some]
 have hD : ∀ k, K k = true → Dm M k 0 → Dm M' (σ k) 0 ∧ G'.β (σ k) = G.β k := fun k _ hd => by
  cases hk : M k with
  | none => exact absurd hd (q5r hk)
  | some blk =>
   refine ⟨?_, by simp only [G', hK k (by rw [hk]; simp)]⟩
   have h1 := hM k blk hk
   have h2 := hM' k blk hk
   cases blk with
   | cells cs => exact qa7 h2
   | note x v => simp only [Dm, h2, z0m]
   | arr e sz xs => simp [q78] at h1
   | dead => simp [q78] at h1
   | map es => simp [q78] at h1
 refine ⟨G', ⟨hR.size, hR.defers, fun t => (hR.temps t).ren hw hD (hT t), fun k' blk' hk' => ?_, fun b hb => ⟨(hR.fr b hb).1, g0 b (hR.fr b hb).2⟩, fun b hb => hR.ol b fun hn => hb (g0 b hn)⟩, hA⟩
 simp only at hk'
 split at hk'
 case isFalse => cases hk'
 rename_i hστ
 cases hk : M (τ k') with
 | none => rw [hk] at hk'; cases hk'
 | some blk =>
  rw [hk] at hk'
  cases hk'
  have h1 := hM _ _ hk
  have hmem := hR.mem _ _ hk
  generalize hkk : τ k' = k at *
  cases blk with
  | arr e sz xs => simp [q78] at h1
  | dead => simp [q78] at h1
  | map es => simp [q78] at h1
  | note x v => exact VR.ren hw hD hmem h1
  | cells cs =>
   obtain ⟨c, el, b1, b2, b3, b4, b5⟩ := hmem
   have hβ : G'.β k' = G.β k := by simp only [G', hkk]
   refine ⟨c, el, ?_, by rw [hβ]; exact b2, by rw [hβ]; exact b3, by simpa using b4, fun i x hx => ?_⟩
   ·rw [hβ, g1 _ _ b1]
    simp only [OKey.ren, hστ]
   ·rw [List.getElem?_map] at hx
    cases hy : cs[i]? with
    | none => simp [hy] at hx
    | some y =>
     simp only [hy, Option.map_some, Option.some.injEq] at hx
     subst hx
     obtain ⟨u, hu, hr⟩ := b5 i y hy
     refine ⟨u, hu, ?_⟩
     have hky := List.all_eq_true.1 h1 y (List.mem_of_getElem? hy)
     have gen : y.kin K = true → CellRel (Dm M) G B w k i y u → VR (Dm M) G B w y u → CellRel (Dm M') G' B w k' i (y.ren σ) u := fun q1 _ q3 => CellRel.of_VR (q3.ren hw hD q1)
     cases y with
     | own sz xs =>
      refine OwnAt.trade (fun b hn ho => ⟨hn, ?_⟩) (fun z hz u hr => hr.stable hw (q2j hky z hz)) hr
      rw [g1 _ _ ho]
      simp only [OKey.ren, hστ]
     | hole => trivial
     | ref cs => cases hky
     | _ => exact gen hky hr hr
theorem tms_kin {K : Nat → Bool} {l : List (Nat × AVal)} (h : l.all (fun p => p.2.kin K) = true) (t : Nat) : (tms l t).kin K = true := by
 induction l with
 | nil => rfl
 | cons p l ih =>
  obtain ⟨k, v⟩ := p
  simp only [List.all_cons, Bool.and_eq_true] at h
  simp only [tms]
  by_cases ht : t = k
  ·subst ht; rw [q00]; exact h.1
  ·rw [q0d _ _ ht]; exact ih h.2
theorem qm5 {k : Nat} {blk : ABlk} : ∀ {m : List (Nat × ABlk)}, mms m k = some blk → (k, blk) ∈ m
 | [], h => by cases h
 | (j, b) :: m, h => by
  simp only [mms] at h
  by_cases hj : k = j
  ·subst hj; rw [q00] at h; cases h; simp
  ·rw [q0d _ _ hj] at h; exact List.mem_cons_of_mem _ (qm5 h)
theorem Wk.renL {n : Nat} {l : List (Nat × AVal)} {m : List (Nat × ABlk)} (σ τ : Nat → Nat) (K : Nat → Bool) (hK : m.all (fun p => τ (σ p.1) == p.1) = true) (hT : l.all (fun p => p.2.kin K) = true) (hM : m.all (fun p => q78 K p.2) = true) :
 Wk n ⟨tms l, mms m⟩ ⟨fun t => (tms l t).ren σ, fun k => if σ (τ k) = k then (mms m (τ k)).map (z0m σ) else none⟩ := by
 refine Wk.ren σ τ K (fun k hk => ?_) (tms_kin hT) (fun k blk hk => List.all_eq_true.1 hM (k, blk) (qm5 hk))
 cases hb : mms m k with
 | none => exact absurd hb hk
 | some b => exact beq_iff_eq.1 (List.all_eq_true.1 hK (k, b) (qm5 hb))
theorem z0y {σ : Nat → Nat} : ∀ (l : List (Nat × AVal)) (t : Nat), (tms l t).ren σ = tms (l.map fun p => (p.1, p.2.ren σ)) t
 | [], t => rfl
 | (k, v) :: l, t => by
  simp only [tms, List.map_cons]
  by_cases h : t = k
  ·subst h; rw [q00, q00]
  ·rw [q0d _ _ h, q0d _ _ h, z0y l t]
theorem zan {σ τ : Nat → Nat} : ∀ (m : List (Nat × ABlk)), m.all (fun p => τ (σ p.1) == p.1) = true → ∀ k, (if σ (τ k) = k then (mms m (τ k)).map (z0m σ) else none) = mms (m.map fun p => (σ p.1, z0m σ p.2)) k
 | [], _, k => by simp [mms, NoM]
 | (j, b) :: m, h, k => by
  simp only [List.all_cons, Bool.and_eq_true, beq_iff_eq] at h
  have ih := zan m h.2 k
  simp only [mms, List.map_cons]
  by_cases hk : k = σ j
  ·subst hk
   rw [h.1, q00, q00, if_pos rfl]
   rfl
  ·rw [q0d _ _ hk, ← ih]
   split
   ·rename_i hs
    have : τ k ≠ j := fun e => hk (by rw [← hs, e])
    rw [q0d _ _ this]
   ·rfl
theorem Wk.renS {n : Nat} {l : List (Nat × AVal)} {m : List (Nat × ABlk)} (σ τ : Nat → Nat) (K : Nat → Bool) (hK : m.all (fun p => τ (σ p.1) == p.1) = true) (hT : l.all (fun p => p.2.kin K) = true) (hM : m.all (fun p => q78 K p.2) = true) :
 Wk n ⟨tms l, mms m⟩ ⟨tms (l.map fun p => (p.1, p.2.ren σ)), mms (m.map fun p => (σ p.1, z0m σ p.2))⟩ := by
 have h := Wk.renL (n := n) σ τ K hK hT hM
 have e1 : (fun t => (tms l t).ren σ) = tms (l.map fun p => (p.1, p.2.ren σ)) := funext (z0y l)
 have e2 : (fun k => if σ (τ k) = k then (mms m (τ k)).map (z0m σ) else none) = mms (m.map fun p => (σ p.1, z0m σ p.2)) := funext (zan m hK)
 rw [e1, e2] at h
 exact h
theorem qlm {σ : Nat → Nat} {cs : List AVal} (h : cs.all q0n = true) : cs.map (renC σ) = cs := by
 have : ∀ x ∈ cs, renC σ x = x := fun x hx => by
  have hx := List.all_eq_true.1 h x hx
  cases x <;> first | rfl | exact (AVal.stb_ren _ hx).1
 exact (List.map_congr_left this).trans (List.map_id _)
theorem q96 {K : Nat → Bool} {cs : List AVal} (h : cs.all q0n = true) : cs.all (qmw K) = true := by
 rw [List.all_eq_true] at h ⊢
 intro x hx
 have hx := h x hx
 cases x <;> first | exact hx | exact (AVal.stb_ren (ρ := fun k => k) _ hx).2 K
theorem qko {cs : List AVal} (h : cs.all q0n = true) : cs.all qyw = true := by
 rw [List.all_eq_true] at h ⊢
 intro x hx
 have hx := h x hx
 cases x <;> first | exact hx | rfl | exact absurd hx (by simp [q0n])
theorem Rel.noted {n : Nat} {B : Nat → Prop} {G : Gh} {T : q14} {M : Mem} {a : Act} {w : World} (h : Rel n B G ⟨T, M⟩ a w) {k : Nat} (hk : M k = none) {x : AVal} {v : Value} (hv : VR (Dm M) G B w x v) : Rel n B G ⟨T, upd M k (some (.note x v))⟩ a w :=
 h.update (Adv.refl G w) k (.note x v) (by show ql8 (M k) _; rw [hk]; trivial) (fun _ _ _ => ⟨rfl, rfl⟩) (fun b key _ _ ho _ => ⟨rfl, ho⟩) h.ol
  (hv.mono (fun j e => q32 (by show ql8 (M k) _; rw [hk]; trivial)) (fun _ _ _ => ⟨rfl, rfl⟩) (fun b _ hn ho => ⟨rfl, hn, ho⟩))
theorem Rel.seen {n n' : Nat} {B : Nat → Prop} {G : Gh} {s : AS} {a a' : Act} {w : World} (h : Rel n B G s a w) {T : q14} (hs : a'.tmps.size = n') (hd : a'.defers = []) (hT : ∀ t, VR (Dm s.M) G B w (T t) (a'.tmps.getD t undef)) : Rel n' B G ⟨T, s.M⟩ a' w :=
 ⟨hs, hd, hT, h.mem, h.fr, h.ol⟩

def qcp : SC → SC
 | .seq _ y => y
 | x => x
def RdQ (res : Int) (g o : List AVal) (v1 v2 v4 : Value) : Ex → AS → Prop
 | .normal, s => s.M 1004 = some (.cells [.int .i64 res]) ∧ s.M 900001 = some (.cells g) ∧ s.M 900002 = some (.cells o) ∧ s.M 1900001 = some (.note (.ptr 900001 0) v1) ∧ s.M 1900002 = some (.note (.ptr 900002 0) v2) ∧ s.M 1900004 = some (.note (.ptr 1004 0) v4)
 | _, _ => False
def RdM (b : Bs) (a e : Nat) (g o : List AVal) (v1 v2 v4 v5 : Value) : Mem :=
 mms [(1004, .cells [.int .i64 0]), (1005, .cells [.ptr 1008 0]), (1008, .cells (rdC b a e)), (900001, .cells g), (900002, .cells o), (1900001, .note (.ptr 900001 0) v1), (1900002, .note (.ptr 900002 0) v2), (1900004, .note (.ptr 1004 0) v4), (1900005, .note (.ptr 1005 0) v5)]
theorem qmz (b : Bs) (a : Nat) (hb : b.length ≤ 900000000000) (g o : List AVal) (v1 v2 v4 v5 : Value) :
 AW (En Tryz.prog rfl) 59 (qcp qai) (RdQ (if a < b.length then 52 else 0) g o v1 v2 v4) ⟨tms [(0, .ptr 1005 0), (1, .ptr 1004 0), (2, .niliface)], RdM b a 0 g o v1 v2 v4 v5⟩ := by
 refine Run.start ?_
 unfold qai
 simp only [qcp]
 unfold RdM
 have e1 := q1m b
 by_cases hlt : a < b.length
 ·rw [if_pos hlt]
  have hlt2 : (a : Int) < (b.length : Int) := by omega
  (focus (have hF := (aI @q07 (aI @e1 @hlt2)); (repeat' (first | refine go1 (k:=?_) | with_reducible refine Ny.of ?_ ?_ | (refine Hyp.of ?_; intro hc; (try simp only [hc]); (try simp only [Bh] at hc)))); all_goals clear hF))
  refine q2f (q68 (TE := TE0) qaf qz6 (by simp) (z := .agg [.nilptr]) ?_ rfl) ?_
  ·intro D G B w
   refine .agg _ _ rfl fun n x v h1 h2 => ?_
   match n with
   | 0 => simp at h1 h2; subst h1; subst h2; exact .nilptr
   | n + 1 => simp at h1
  rintro v M' ⟨rfl, rfl⟩
  dsimp only [AS.put]
  (focus (have hF := (aI @q07 (aI @e1 @hlt2)); (repeat' (first | refine go1 (k:=?_) | with_reducible refine Ny.of ?_ ?_ | (refine Hyp.of ?_; intro hc; (try simp only [hc]); (try simp only [Bh] at hc)))); all_goals clear hF))
  refine q2f (q9f (TE := TE0) qaf TE_20 rfl rfl) ?_
  rintro v M' ⟨rfl, rfl⟩
  dsimp only [AS.put]
  (focus (have hF := (aI @q07 (aI @e1 @hlt2)); (repeat' (first | refine go1 (k:=?_) | with_reducible refine Ny.of ?_ ?_ | (refine Hyp.of ?_; intro hc; (try simp only [hc]); (try simp only [Bh] at hc)))); all_goals clear hF))
  exact ⟨rfl, rfl, rfl, rfl, rfl, rfl⟩
 ·rw [if_neg hlt]
  have hlt2 : ¬ (a : Int) < (b.length : Int) := by omega
  (focus (have hF := (aI @q07 (aI @e1 @hlt2)); (repeat' (first | refine go1 (k:=?_) | with_reducible refine Ny.of ?_ ?_ | (refine Hyp.of ?_; intro hc; (try simp only [hc]); (try simp only [Bh] at hc)))); all_goals clear hF))
  refine q2f (q68 (TE := TE0) qaf qz6 (by simp) (z := .agg [.nilptr]) ?_ rfl) ?_
  ·intro D G B w
   refine .agg _ _ rfl fun n x v h1 h2 => ?_
   match n with
   | 0 => simp at h1 h2; subst h1; subst h2; exact .nilptr
   | n + 1 => simp at h1
  rintro v M' ⟨rfl, rfl⟩
  dsimp only [AS.put]
  (focus (have hF := (aI @q07 (aI @e1 @hlt2)); (repeat' (first | refine go1 (k:=?_) | with_reducible refine Ny.of ?_ ?_ | (refine Hyp.of ?_; intro hc; (try simp only [hc]); (try simp only [Bh] at hc)))); all_goals clear hF))
  refine q2f (q9f (TE := TE0) qaf TE_20 rfl rfl) ?_
  rintro v M' ⟨rfl, rfl⟩
  dsimp only [AS.put]
  (focus (have hF := (aI @q07 (aI @e1 @hlt2)); (repeat' (first | refine go1 (k:=?_) | with_reducible refine Ny.of ?_ ?_ | (refine Hyp.of ?_; intro hc; (try simp only [hc]); (try simp only [Bh] at hc)))); all_goals clear hF))
  exact ⟨rfl, rfl, rfl, rfl, rfl, rfl⟩
theorem qkw (b : Bs) (a e : Nat) (he : e ≠ 0) (hb : b.length ≤ 900000000000) (g o : List AVal) (v1 v2 v4 v5 : Value) :
 AW (En Tryz.prog rfl) 59 (qcp qai) (RdQ (e : Int) g o v1 v2 v4) ⟨tms [(0, .ptr 1005 0), (1, .ptr 1004 0), (2, .iface 165 (.agg [.ptr 1008 0]))], RdM b a e g o v1 v2 v4 v5⟩ := by
 refine Run.start ?_
 unfold qai
 simp only [qcp]
 unfold RdM
 have e1 := q1m b
 have he2 : ¬ (e : Int) = 0 := by omega
 (focus (have hF := (aI @q07 (aI @e1 @he2)); (repeat' (first | refine go0 (k:=?_) | fail)); all_goals clear hF))
 refine q2f (qbh (TE := TE0) qaf qz6 (by simp) (z := .agg [.ptr 1008 0]) rfl) ?_
 rintro v M' ⟨rfl, rfl⟩
 dsimp only [AS.put]
 (focus (have hF := (aI @q07 (aI @e1 @he2)); (repeat' (first | refine go1 (k:=?_) | with_reducible refine Ny.of ?_ ?_ | (refine Hyp.of ?_; intro hc; (try simp only [hc]); (try simp only [Bh] at hc)))); all_goals clear hF))
 refine q2f (qjq (TE := TE0) qaf TE_140 rfl TE_163 (by decide) (k := 1008) (off := 0) rfl rfl) ?_
 rintro v M' ⟨rfl, rfl⟩
 dsimp only [AS.put]
 (focus (have hF := (aI @q07 (aI @e1 @he2)); (repeat' (first | refine go1 (k:=?_) | with_reducible refine Ny.of ?_ ?_ | (refine Hyp.of ?_; intro hc; (try simp only [hc]); (try simp only [Bh] at hc)))); all_goals clear hF))
 exact ⟨rfl, rfl, rfl, rfl, rfl, rfl⟩
theorem qo7 {ops : Array Oper} {x y : SOp} (h : ops.toList.map (q4v ops) = [x, y]) : ∃ o1 o2, ops[0]? = some o1 ∧ ops[1]? = some o2 ∧ ops.size = 2 ∧ q4v ops o1 = x ∧ q4v ops o2 = y := by
 have hl := congrArg List.length h
 simp at hl
 refine ⟨ops[0], ops[1], by simp [hl], by simp [hl], hl, ?_, ?_⟩
 ·have := congrArg (·[0]?) h
  simpa [hl] using this
 ·have := congrArg (·[1]?) h
  simpa [hl] using this
theorem q7r {ops : Array Oper} {o : Oper} {d : Option Tmp} {op : Op} (h : q4v ops o = ⟨d, op, none⟩) : o.dst = d ∧ o.op = op ∧ o.guard = none := by
 obtain ⟨dst, op', ty, pos, after, guard⟩ := o
 simp only [q4v, SOp.mk.injEq] at h
 refine ⟨h.1, h.2.1, ?_⟩
 cases guard with
 | none => rfl
 | some g => exact absurd h.2.2 (by simp)
theorem q57 {o : Oper} (h : o.guard = none) (y : Nat → Option Bool) : Region.wanted o y = true := by
 unfold Region.wanted
 rw [h]
theorem q9i {n : Nat} {B : Nat → Prop} {G : Gh} {T : q14} {M : Mem} {a : Act} {w : World} (h : Rel n B G ⟨T, M⟩ a w) {p5 p4 xv : Value} (h5 : VR (Dm M) G B w (.ptr 1005 0) p5) (h4 : VR (Dm M) G B w (.ptr 1004 0) p4) {u u' : FrameMode} {x : AVal} (hx : VR (Dm M) G B w x xv)
 (hu : (u = .returning ∧ u' = .returning ∧ xv = .nilIface) ∨ (u = .panicking [{ v := xv, recovered := false }] ∧ u' = .panicking [{ v := xv, recovered := true }])) {Q : Ex → AS → Prop}
 (haw : AW (En Tryz.prog rfl) 59 (qcp qai) Q ⟨tms [(0, .ptr 1005 0), (1, .ptr 1004 0), (2, x)], M⟩) (hQ : ∀ e s, Q e s → e = .normal) {R : Ending → FrameMode → World → Prop}
 (hR : ∀ v' w' G' s' a', Adv G w G' w' → Rel 59 B G' s' a' w' → Q .normal s' → R (.returned v') u' w') : CallsD (En Tryz.prog rfl).P 130 #[p5, p4] u w R := by
 obtain ⟨fn, c, f1, f2, f3, f4, f5, f6⟩ := zaw
 obtain ⟨c0, c1, rfl, s0, s1⟩ := q9v (x := .ops false qe5) (y := qcp qai) f6
 obtain ⟨id, ops, rfl, hdst, hops⟩ := qo8 s0
 obtain ⟨o1, o2, g1, g2, g3, g4, g5⟩ := qo7 hops
 obtain ⟨a1, a2, a3⟩ := q7r g4
 obtain ⟨b1, b2, b3⟩ := q7r g5
 refine callsD_of_wpS f1 f3 fun c₀ cs hc₀ => ?_
 refine wpS_seq (wpS_region ?_)
 rw [g3, show List.range 2 = [0, 1] from rfl]
 have r1 : ∀ ρ, (execOp ρ o1).run (En Tryz.prog rfl).P w = .ok .recover w := fun ρ => by
  unfold execOp
  rw [a2]
  rfl
 have r2 : ∀ ρ, (execOp ρ o2).run (En Tryz.prog rfl).P w = .ok (.value (ρ (.tmp 6))) w := fun ρ => by
  unfold execOp
  rw [b2]
  rfl
 simp only [wpOpsS, g1, g2, q57 a3, q57 b3, if_true, r1, r2, Oper.upon, a1, b1]
 have fin : ∀ (A : Act) (cs' : List Frame), A = (({ tmps := #[p5, p4] ++ Array.replicate (fn.ntmps - #[p5, p4].size) undef, defers := [] } : Act).put (some 6) xv).put (some 2) ((({ tmps := #[p5, p4] ++ Array.replicate (fn.ntmps - #[p5, p4].size) undef, defers := [] } : Act).put (some 6) xv).eval (.tmp 6)) →
  cs' = { c₀ with mode := u' } :: cs → c1.wpS (En Tryz.prog rfl).P (bodyPostS (En Tryz.prog rfl).P fn c₀ cs R) A cs' w := by
  rintro A cs' rfl rfl
  refine wpS_of_wp (haw c1 s1 B G _ w ?_ _ fun e s' a' w' G' hA hR' hq => ?_)
  ·rw [f4]
   refine ⟨by simp [Act.put], by simp [Act.put], fun t => ?_, h.mem, h.fr, h.ol⟩
   have hev : (({ tmps := #[p5, p4] ++ Array.replicate (59 - #[p5, p4].size) undef, defers := [] } : Act).put (some 6) xv).eval (.tmp 6) = xv := by
    simp [Act.put, Act.eval]
   rw [hev]
   match t with
   | 0 => simpa [Act.put, tms, upd] using h5
   | 1 => simpa [Act.put, tms, upd] using h4
   | 2 => simpa [Act.put, tms, upd] using hx
   | t + 3 =>
    have : tms [(0, AVal.ptr 1005 0), (1, AVal.ptr 1004 0), (2, x)] (t + 3) = .undef := by simp [tms, upd]
    show VR _ G B w (tms [(0, AVal.ptr 1005 0), (1, AVal.ptr 1004 0), (2, x)] (t + 3)) _
    rw [this]
    exact .undef _
  ·have he := hQ _ _ hq
   subst he
   refine ⟨hR'.defers, u', rfl, .tuple #[], ?_, hR _ w' G' s' a' hA hR' hq⟩
   have hrs : fn.results = #[] := by simpa using f5
   unfold results
   rw [hrs]
   simp [Result.andThen]
 rcases hu with ⟨rfl, rfl, rfl⟩ | ⟨rfl, rfl⟩
 ·have hrec : recoverD (c₀ :: cs) = none := by simp [recoverD, hc₀]
  rw [hrec]
  exact fin _ _ rfl (by rw [← hc₀])
 ·have hrec : recoverD (c₀ :: cs) = some (xv, { c₀ with mode := .panicking [{ v := xv, recovered := true }] } :: cs) := by simp [recoverD, hc₀]
  rw [hrec]
  exact fin _ _ rfl rfl

section
theorem q83 {k : Nat} : ∀ {l : List (Nat × ABlk)}, k ∉ l.map Prod.fst → mms l k = none
 | [], _ => rfl
 | (j, b) :: l, h => by
  simp only [List.map_cons, List.mem_cons, not_or] at h
  simp only [mms]
  rw [q0d _ _ h.1]
  exact q83 h.2
def alk (P : Nat → Prop) : List Nat → Prop
 | [] => True
 | k :: l => P k ∧ alk P l
theorem qn2 {P : Nat → Prop} : ∀ {l : List Nat}, alk P l → ∀ k ∈ l, P k
 | [], _, k, h => by simp at h
 | j :: l, h, k, hk => by
  rcases List.mem_cons.1 hk with rfl | hk
  ·exact h.1
  ·exact qn2 h.2 k hk
theorem qm6 {l l' : List (Nat × ABlk)} (h : alk (fun k => mms l k = mms l' k) (l.map Prod.fst ++ l'.map Prod.fst)) : mms l = mms l' := by
 replace h := qn2 h
 funext k
 by_cases hk : k ∈ l.map Prod.fst ++ l'.map Prod.fst
 ·exact h k hk
 ·simp only [List.mem_append, not_or] at hk
  rw [q83 hk.1, q83 hk.2]
theorem qcl {l l' : List (Nat × ABlk)} {L : Nat → Bool} {σ : Nat → Nat} {m' : qdi} (hL : ∀ k, L k = true → k ∈ l.map Prod.fst) (h : alk (fun k => (if L k = true then q3u m' (σ k) else mms l k) = mms l' k) (l.map Prod.fst ++ l'.map Prod.fst)) : q1u (mms l) L σ m' = mms l' := by
 replace h := qn2 h
 funext k
 show (if L k = true then q3u m' (σ k) else mms l k) = mms l' k
 by_cases hk : k ∈ l.map Prod.fst ++ l'.map Prod.fst
 ·exact h k hk
 ·simp only [List.mem_append, not_or] at hk
  have : ¬ L k = true := fun e => hk.1 (hL k e)
  rw [if_neg this, q83 hk.1, q83 hk.2]
theorem Wk.eqM {n : Nat} {T : q14} {M M' : Mem} (h : M = M') : Wk n ⟨T, M⟩ ⟨T, M'⟩ := by subst h; exact Wk.refl _ _
section
variable {E : Env} {n : Nat} {ds : List Deferred} {Q : Ex → AS → Prop} {s : AS}
theorem AWd.run {l : List SOp} {o : SOp} {r : List SOp} (hl : l = o :: r) (h : q06 E false none (KQ E n Q .done) (o :: r) s) : AWd E n ds (.ops false l) Q s := by
 subst hl
 exact AWd.ops h
end
def up1k (k : Nat) : Nat := if k < 100 then 1000 + k else k
def dn1k (k : Nat) : Nat := if 1000 ≤ k ∧ k < 1100 then k - 1000 else k
def q63 (b : Bs) (a e : Nat) : Int := if e = 0 then (if a < b.length then 52 else 0) else e
def RdL (b : Bs) (a e : Nat) (g o : List AVal) (v1 v2 : Value) : List (Nat × ABlk) :=
 [(1004, .cells [.int .i64 0]), (1005, .cells [.ptr 1008 0]), (1008, .cells (rdC b a e)), (900001, .cells g), (900002, .cells o), (1900001, .note (.ptr 900001 0) v1), (1900002, .note (.ptr 900002 0) v2)]
section
variable (b : Bs) (F : FuncId) (g o : List AVal) (v1 v2 : Value)
def RdS : AS := ⟨tms [(1, .fn F [.ptr 900001 0, .ptr 900002 0]), (4, .ptr 1004 0), (5, .ptr 1005 0)], mms (RdL b 0 0 g o v1 v2)⟩
theorem qkv (hg : g.all q0n = true) (ho : o.all q0n = true) :
 AW (En Tryz.prog rfl) 15 (.ops false q9z) (fun e s => e = .normal ∧ AW (En Tryz.prog rfl) 15 (.ops false q9y) (fun e s => e = .normal ∧ Wk 15 s (RdS b F g o v1 v2)) s)
  ⟨q45 [.sl 1 (q1f b), .fn F [.ptr 900001 0, .ptr 900002 0]], mms [(900001, .cells g), (1900001, .note (.ptr 900001 0) v1), (900002, .cells o), (1900002, .note (.ptr 900002 0) v2)]⟩ := by
 refine Run.start ?_
 (focus (have hF := @q07; (repeat' (first | refine go1 (k:=?_) | with_reducible refine Ny.of ?_ ?_ | (refine Hyp.of ?_; intro hc; (try simp only [hc]); (try simp only [Bh] at hc)))); all_goals clear hF))
 refine ⟨rfl, Run.start ?_⟩
 (focus (have hF := @q07; (repeat' (first | refine go1 (k:=?_) | with_reducible refine Ny.of ?_ ?_ | (refine Hyp.of ?_; intro hc; (try simp only [hc]); (try simp only [Bh] at hc)))); all_goals clear hF))
 refine ⟨rfl, ?_⟩
 have hg2 := qko hg
 have ho2 := qko ho
 refine Wk.trans (Wk.keep [(1, .fn F [.ptr 900001 0, .ptr 900002 0]), (4, .ptr 4 0), (5, .ptr 5 0)] ⟨rfl, rfl, rfl, trivial⟩) ?_
 refine Wk.trans (Wk.eqM (M' := mms [(4, .cells [.int .i64 0]), (5, .cells [.ptr 8 0]), (8, .cells (rdC b 0 0)), (900001, .cells g), (900002, .cells o), (1900001, .note (.ptr 900001 0) v1), (1900002, .note (.ptr 900002 0) v2)]) (qm6 (l := [(5, .cells [.ptr 8 0]), (5, .cells [.nilptr]), (8, .cells (rdC b 0 0)), (4, .cells [.int .i64 0]), (900001, .cells g), (1900001, .note (.ptr 900001 0) v1), (900002, .cells o), (1900002, .note (.ptr 900002 0) v2)]) (by repeat (first | exact trivial | refine ⟨rfl, ?_⟩)))) ?_
 have h := Wk.renS (n := 15) (l := [(1, .fn F [.ptr 900001 0, .ptr 900002 0]), (4, .ptr 4 0), (5, .ptr 5 0)]) (m := [(4, .cells [.int .i64 0]), (5, .cells [.ptr 8 0]), (8, .cells (rdC b 0 0)), (900001, .cells g), (900002, .cells o), (1900001, .note (.ptr 900001 0) v1), (1900002, .note (.ptr 900002 0) v2)]) up1k dn1k (fun _ => true) rfl rfl (by simp [q78, q96 hg, q96 ho, q96 (q35 b 0 0), qmw, AVal.kin, AVal.stb])
 have e1 : ([(4, ABlk.cells [.int .i64 0]), (5, .cells [.ptr 8 0]), (8, .cells (rdC b 0 0)), (900001, .cells g), (900002, .cells o), (1900001, .note (.ptr 900001 0) v1), (1900002, .note (.ptr 900002 0) v2)].map fun p => (up1k p.1, z0m up1k p.2)) = RdL b 0 0 g o v1 v2 := by
  simp only [List.map_cons, List.map_nil, z0m, qlm hg, qlm ho, qlm (q35 b 0 0)]
  rfl
 rw [e1] at h
 exact h
end
def rdLL (j : Nat) : Bool := j == 1008 || j == 900001 || j == 900002
def rdσ (j : Nat) : Nat := if j = 1008 then 900000 else j
def rdρ (k : Nat) : Nat := if k = 900000 then 1008 else k
def qky (b : Bs) (a e : Nat) (g o : List AVal) (v1 v2 v4 v5 : Value) : List (Nat × ABlk) :=
 [(1004, .cells [.int .i64 0]), (1005, .cells [.ptr 1008 0]), (1008, .cells (rdC b a e)), (900001, .cells g), (900002, .cells o), (1900001, .note (.ptr 900001 0) v1), (1900002, .note (.ptr 900002 0) v2), (1900004, .note (.ptr 1004 0) v4), (1900005, .note (.ptr 1005 0) v5)]
def rdM (b : Bs) (a e : Nat) (g o : List AVal) : qdi := [(900000, rdC b a e), (900001, g), (900002, o)]
theorem q5b {b : Bs} {a e : Nat} {g o : List AVal} {k : Nat} : lin (rdM b a e g o) k = (k == 900000 || k == 900001 || k == 900002) := by
 unfold lin q3u rdM
 by_cases h0 : k = 900000
 ·subst h0; rfl
 ·by_cases h1 : k = 900001
  ·subst h1; rfl
  ·by_cases h2 : k = 900002
   ·subst h2; rfl
   ·have e0 : ((900000 : Nat) == k) = false := by simpa using fun h => h0 h.symm
    have e1 : ((900001 : Nat) == k) = false := by simpa using fun h => h1 h.symm
    have e2 : ((900002 : Nat) == k) = false := by simpa using fun h => h2 h.symm
    simp [List.find?, e0, e1, e2, h0, h1, h2]
theorem rd_L {b : Bs} {a e : Nat} {g o : List AVal} : ∀ j, rdLL j = true → lin (rdM b a e g o) (rdσ j) = true ∧ rdρ (rdσ j) = j := fun j hj => by
 simp only [rdLL, Bool.or_eq_true, beq_iff_eq] at hj
 rcases hj with (rfl | rfl) | rfl <;> exact ⟨by rw [q5b]; rfl, rfl⟩
theorem rd_ρ {b : Bs} {a e : Nat} {g o : List AVal} : ∀ k, lin (rdM b a e g o) k = true → rdLL (rdρ k) = true ∧ rdσ (rdρ k) = k := fun k hk => by
 rw [q5b] at hk
 simp only [Bool.or_eq_true, beq_iff_eq] at hk
 rcases hk with (rfl | rfl) | rfl <;> exact ⟨rfl, rfl⟩
section
variable (b : Bs) (F : FuncId) (a e : Nat) (g o o' : List AVal) (v1 v2 v4 v5 : Value)
def RdEnd : Ex → AS → Prop
 | .ret, s => e = 0 ∧ s.M = mms (qky b a e g o' v1 v2 v4 v5) ∧ s.T 4 = .ptr 1004 0
 | .pan x, s => e ≠ 0 ∧ x = .iface 165 (.agg [.ptr 1008 0]) ∧ s.M = mms (qky b a e g o' v1 v2 v4 v5) ∧ s.T 4 = .ptr 1004 0
 | _, _ => False
def qoc : SC → SC
 | .seq _ (.seq _ (.seq _ z)) => z
 | z => z
theorem awd_Read (ds : List Deferred) (hg : g.all q0n = true) (ho : o.all q0n = true) (ho' : o'.all q0n = true) {out : Out} (hF : EvM (En Tryz.prog rfl).P F [.ptr 900000 0, .ptr 900001 0, .ptr 900002 0] (rdM b 0 0 g o) out (rdM b a e g o'))
 (hout : out = .ret (.tup []) ∧ e = 0 ∨ out = .pan gup ∧ e ≠ 0) :
 AWd (En Tryz.prog rfl) 15 ds (qoc qg6) (RdEnd b a e g o' v1 v2 v4 v5) ⟨tms [(1, .fn F [.ptr 900001 0, .ptr 900002 0]), (4, .ptr 1004 0), (5, .ptr 1005 0)], mms (qky b 0 0 g o v1 v2 v4 v5)⟩ := by
 unfold qg6
 simp only [qoc]
 refine AWd.seq (AWd.seq (AWd.run rfl ?_))
 unfold qky
 (focus (have hF := @q07; (repeat' (first | refine go1 (k:=?_) | with_reducible refine Ny.of ?_ ?_ | (refine Hyp.of ?_; intro hc; (try simp only [hc]); (try simp only [Bh] at hc)))); all_goals clear hF))
 refine AWd.cond rfl (fun _ => AWd.run rfl ?_) (fun h => by cases h)
 (focus (have hF := @q07; (repeat' (first | refine go1 (k:=?_) | with_reducible refine Ny.of ?_ ?_ | (refine Hyp.of ?_; intro hc; (try simp only [hc]); (try simp only [Bh] at hc)))); all_goals clear hF))
 have hst : ∀ (a e : Nat) (o : List AVal), o.all q0n = true → ∀ p ∈ rdM b a e g o, ∀ x ∈ p.2, q0n x = true := fun a e o ho p hp x hx => by
  simp only [rdM, List.mem_cons, List.not_mem_nil, or_false] at hp
  rcases hp with rfl | rfl | rfl
  ·exact List.all_eq_true.1 (q35 b a e) x hx
  ·exact List.all_eq_true.1 hg x hx
  ·exact List.all_eq_true.1 ho x hx
 refine q8j (qa2 (s := ⟨_, _⟩) (l := [.ptr 1008 0, .ptr 900001 0, .ptr 900002 0]) (m := rdM b 0 0 g o) (m' := rdM b a e g o') (L := rdLL) (ρ := rdρ) (σ := rdσ) (by with_unfolding_all rfl) (by with_unfolding_all rfl) rd_L rd_ρ ?_ (hst 0 0 o ho) (hst a e o' ho') rfl rfl (out := out) ?_ hF) ?_ ?_
 ·intro k cs hk
  obtain ⟨cs', hc, hm⟩ := q23 hk
  cases hc
  simp only [rdM, List.mem_cons, List.not_mem_nil, or_false, Prod.mk.injEq] at hm
  rcases hm with ⟨rfl, rfl⟩ | ⟨rfl, rfl⟩ | ⟨rfl, rfl⟩ <;> rfl
 ·rcases hout with ⟨rfl, _⟩ | ⟨rfl, _⟩
  ·rfl
  ·show (AVal.iface _ _).kin _ = true
   simp only [AVal.kin, q9n, q5b]
   rfl
 ·rintro v M' ⟨y, rfl, rfl, rfl⟩
  have hM := qcl (l := qky b 0 0 g o v1 v2 v4 v5) (l' := qky b a e g o' v1 v2 v4 v5) (L := rdLL) (σ := rdσ) (m' := rdM b a e g o') (fun k hk => by
   simp only [rdLL, Bool.or_eq_true, beq_iff_eq] at hk
   rcases hk with (rfl | rfl) | rfl <;> simp [qky]) (by repeat (first | exact trivial | refine ⟨rfl, ?_⟩))
  unfold qky at hM
  dsimp only
  rw [hM]
  rcases hout with ⟨h1, he⟩ | ⟨h1, _⟩
  ·cases h1
   refine AWd.seq (AWd.run rfl ?_)
   have hz : (AVal.tup []).ren rdρ = .tup [] := rfl
   rw [hz]
   dsimp only [AS.put]
   (focus (have hF := @hz; (repeat' (first | refine go1 (k:=?_) | with_reducible refine Ny.of ?_ ?_ | (refine Hyp.of ?_; intro hc; (try simp only [hc]); (try simp only [Bh] at hc)))); all_goals clear hF))
   refine AWd.ret ⟨he, qm6 (l := (1004, .cells [.int .i64 0]) :: qky b a e g o' v1 v2 v4 v5) (by repeat (first | exact trivial | refine ⟨rfl, ?_⟩)), rfl⟩
  ·cases h1
 ·rintro v M' ⟨y, rfl, rfl, rfl⟩
  have hM := qcl (l := qky b 0 0 g o v1 v2 v4 v5) (l' := qky b a e g o' v1 v2 v4 v5) (L := rdLL) (σ := rdσ) (m' := rdM b a e g o') (fun k hk => by
   simp only [rdLL, Bool.or_eq_true, beq_iff_eq] at hk
   rcases hk with (rfl | rfl) | rfl <;> simp [qky]) (by repeat (first | exact trivial | refine ⟨rfl, ?_⟩))
  unfold qky at hM
  dsimp only
  rw [hM]
  rcases hout with ⟨h1, _⟩ | ⟨h1, he⟩
  ·cases h1
  ·cases h1
   exact ⟨he, rfl, rfl, rfl⟩
end
end
theorem upd_idle {T : q14} {t : Nat} (h : T t = .undef) : upd T t .undef = T := by
 funext j
 by_cases hj : j = t
 ·subst hj; rw [q00, h]
 ·rw [q0d _ _ hj]
theorem wp_Read3 {b : Bs} {F : FuncId} {a e : Nat} {g o o' : List AVal} {v1 v2 : Value} (hg : g.all q0n = true) (ho : o.all q0n = true) (ho' : o'.all q0n = true) {out : Out} (hF : EvM (En Tryz.prog rfl).P F [.ptr 900000 0, .ptr 900001 0, .ptr 900002 0] (rdM b 0 0 g o) out (rdM b a e g o'))
 (hout : out = .ret (.tup []) ∧ e = 0 ∨ out = .pan gup ∧ e ≠ 0) {c3 c4 : Code} (s3 : q7d 15 c3 = some (SC.ops false q9x)) (s4 : q7d 15 c4 = some (qoc qg6)) {B : Nat → Prop} {G : Gh} {a2 : Act} {w2 : World} (hR : Rel 15 B G (RdS b F g o v1 v2) a2 w2) {Q' : Exit → Act → World → Prop}
 (h : ∀ p5 p4, Post 15 B G w2 (RdEnd b a e g o' v1 v2 p4 p5) (fun e a' w' => Q' e (Act.sh a' [⟨.fn (.func 130) #[p5, p4], #[]⟩]) w')) : (c3.seq c4).wp (En Tryz.prog rfl).P Q' a2 w2 := by
 obtain ⟨id, ops, rfl, hdst, hops⟩ := qo8 s3
 obtain ⟨o1, o2, g1, g2, g3, g4, g5⟩ := qo7 hops
 obtain ⟨a1, a2', a3⟩ := q7r g4
 obtain ⟨b1, b2, b3⟩ := q7r g5
 refine wp_seq (wp_region ?_)
 rw [g3, show List.range 2 = [0, 1] from rfl]
 have r1 : ∀ ρ, (execOp ρ o1).run (En Tryz.prog rfl).P w2 = .ok (.value (.func (.func 130) #[] #[ρ (.tmp 5), ρ (.tmp 4)])) w2 := fun ρ => by
  unfold execOp
  rw [a2']
  simp [Instr.makeFunc]
 have r2 : ∀ ρ, ρ (.tmp 9) = .func (.func 130) #[] #[a2.eval (.tmp 5), a2.eval (.tmp 4)] → (execOp ρ o2).run (En Tryz.prog rfl).P w2 = .ok (.defer ⟨.fn (.func 130) #[a2.eval (.tmp 5), a2.eval (.tmp 4)], #[]⟩) w2 := fun ρ hρ => by
  unfold execOp
  rw [b2]
  simp [resolve, hρ, Deferred.ofValue]
 have hs2 := hR.size
 have h9 : (a2.put (some 9) (.func (.func 130) #[] #[a2.eval (.tmp 5), a2.eval (.tmp 4)])).eval (.tmp 9) = .func (.func 130) #[] #[a2.eval (.tmp 5), a2.eval (.tmp 4)] := by
  simp [Act.put, Act.eval, hs2]
 have r2' := r2 _ h9
 simp only [wpOps, g1, g2, q57 a3, q57 b3, if_true, Oper.wp, r1, a1, b1, Oper.upon, r2']
 refine .inl (.inl ?_)
 generalize hp5 : a2.eval (.tmp 5) = p5 at *
 generalize hp4 : a2.eval (.tmp 4) = p4 at *
 have hv5 : VR (Dm (mms (RdL b 0 0 g o v1 v2))) G B w2 (.ptr 1005 0) p5 := by rw [← hp5]; exact hR.temps 5
 have hv4 : VR (Dm (mms (RdL b 0 0 g o v1 v2))) G B w2 (.ptr 1004 0) p4 := by rw [← hp4]; exact hR.temps 4
 have hd2 := hR.defers
 have hR3 := hR.put (d := some 9) (v := .undef) (v' := .func (.func 130) #[] #[p5, p4]) (fun t ht => by cases ht; decide) (.undef _)
 have eT : upd (tms [(1, .fn F [.ptr 900001 0, .ptr 900002 0]), (4, .ptr 1004 0), (5, .ptr 1005 0)]) 9 .undef = tms [(1, .fn F [.ptr 900001 0, .ptr 900002 0]), (4, .ptr 1004 0), (5, .ptr 1005 0)] := upd_idle rfl
 have hR4 : Rel 15 B G ⟨tms [(1, .fn F [.ptr 900001 0, .ptr 900002 0]), (4, .ptr 1004 0), (5, .ptr 1005 0)], mms (RdL b 0 0 g o v1 v2)⟩ (a2.put (some 9) (.func (.func 130) #[] #[p5, p4])) w2 := by
  rw [← eT]
  exact hR3
 have hR5 := hR4.noted (k := 1900004) rfl hv4
 have hv5' : VR (Dm (upd (mms (RdL b 0 0 g o v1 v2)) 1900004 (some (.note (.ptr 1004 0) p4)))) G B w2 (.ptr 1005 0) p5 := by
  refine hv5.mono (fun j e hj => q32 ?_ hj) (fun _ _ _ => ⟨rfl, rfl⟩) (fun _ _ hn ho => ⟨rfl, hn, ho⟩)
  have : mms (RdL b 0 0 g o v1 v2) 1900004 = none := rfl
  rw [this]
  trivial
 have hR6 := hR5.noted (k := 1900005) rfl hv5'
 have eM : upd (upd (mms (RdL b 0 0 g o v1 v2)) 1900004 (some (.note (.ptr 1004 0) p4))) 1900005 (some (.note (.ptr 1005 0) p5)) = mms (qky b 0 0 g o v1 v2 p4 p5) :=
  qm6 (l := (1900005, .note (.ptr 1005 0) p5) :: (1900004, .note (.ptr 1004 0) p4) :: RdL b 0 0 g o v1 v2) (by repeat (first | exact trivial | refine ⟨rfl, ?_⟩))
 rw [eM] at hR6
 have key := awd_Read b F a e g o o' v1 v2 p4 p5 [⟨.fn (.func 130) #[p5, p4], #[]⟩] hg ho ho' hF hout c4 s4 B G _ w2 hR6 Q' (h p5 p4)
 have e0 : (Act.put ({ a2.put (some 9) (.func (.func 130) #[] #[p5, p4]) with defers := ⟨.fn (.func 130) #[p5, p4], #[]⟩ :: (a2.put (some 9) (.func (.func 130) #[] #[p5, p4])).defers } : Act) none undef) = Act.sh (a2.put (some 9) (.func (.func 130) #[] #[p5, p4])) [⟨.fn (.func 130) #[p5, p4], #[]⟩] := by
  simp [Act.sh, Act.put, hd2]
 show c4.wp _ Q' (Act.put ({ a2.put (some 9) (.func (.func 130) #[] #[p5, p4]) with defers := ⟨.fn (.func 130) #[p5, p4], #[]⟩ :: (a2.put (some 9) (.func (.func 130) #[] #[p5, p4])).defers } : Act) none undef) w2
 rw [e0]
 exact key
theorem qbd {b : Bs} {a e : Nat} {g o' : List AVal} {v1 v2 p4 p5 : Value} (hb : b.length ≤ 900000000000) {fn : Func} (f5 : fn.results.toList = [.cell 4 35]) {B : Nat → Prop} {G : Gh} {s : AS} {a3 : Act} {w : World} (h : Rel 15 B G s a3 w) (hM : s.M = mms (qky b a e g o' v1 v2 p4 p5)) (hT : s.T 4 = .ptr 1004 0)
 {u : FrameMode} {x : AVal} {xv : Value} (hx : VR (Dm s.M) G B w x xv) (hu : (u = .returning ∧ x = .niliface ∧ xv = .nilIface ∧ e = 0) ∨ (u = .panicking [{ v := xv, recovered := false }] ∧ x = .iface 165 (.agg [.ptr 1008 0]) ∧ e ≠ 0)) {R : Ending → World → Prop}
 (hfin : ∀ w' G' s' a' n', Adv G w G' w' → Rel n' B G' s' a' w' → s'.M 900001 = some (.cells g) → s'.M 900002 = some (.cells o') → s'.M 1900001 = some (.note (.ptr 900001 0) v1) → s'.M 1900002 = some (.note (.ptr 900002 0) v2) → R (.returned (.int .i64 (q63 b a e))) w') :
 Leaves (En Tryz.prog rfl).P fn a3.tmps R [⟨.fn (.func 130) #[p5, p4], #[]⟩] u w := by
 obtain ⟨T, M⟩ := s
 dsimp only at hM hT hx
 subst hM
 have h4 : VR (Dm (mms (qky b a e g o' v1 v2 p4 p5))) G B w (.ptr 1004 0) p4 := h.mem 1900004 _ rfl
 have h5 : VR (Dm (mms (qky b a e g o' v1 v2 p4 p5))) G B w (.ptr 1005 0) p5 := h.mem 1900005 _ rfl
 have e4 : a3.tmps.getD 4 undef = p4 := by
  have h4' := h.temps 4
  dsimp only at h4'
  rw [hT] at h4'
  generalize a3.tmps.getD 4 undef = q at h4'
  cases h4 with
  | ptr _ _ hd => cases h4' with | ptr _ _ hd' => rfl
 obtain ⟨fn1, c1, g1, g2, g3, g4, g5, g6⟩ := zaw
 have hinv : (invoke (Target.fn (.func 130) #[p5, p4]) #[]).run (En Tryz.prog rfl).P w = .ok (.enter 130 #[p5, p4]) w := by
  have g2' : (fn1.name = "runtime.NumGoroutine") = False := by simpa using g2
  have g1' : (En Tryz.prog rfl).P.funcs[130]? = some fn1 := g1
  simp [invoke, callFunc, g1', g2', g3]
 have fin : ∀ (u' : FrameMode) (w' : World) (G' : Gh) (s' : AS) (a' : Act), Adv G w G' w' → Rel 59 B G' s' a' w' → RdQ (q63 b a e) g o' v1 v2 p4 .normal s' → settle u' = .returning → Leaves (En Tryz.prog rfl).P fn a3.tmps R [] (settle u') w' := by
  intro u' w' G' s' a' hA hR hq hs
  obtain ⟨q1, q2, q3, q4, q5, q6⟩ := hq
  rw [hs]
  have hn : VR (Dm s'.M) G' B w' (.ptr 1004 0) p4 := hR.mem 1900004 _ q6
  have hV : Rel 15 B G' ⟨tms [(4, .ptr 1004 0)], s'.M⟩ a3 w' := hR.seen h.size h.defers fun t => by
   by_cases ht : t = 4
   ·subst ht
    rw [e4]
    exact hn
   ·have : tms [(4, AVal.ptr 1004 0)] t = .undef := by simp [tms, upd, ht]
    rw [this]
    exact .undef _
  obtain ⟨v, r1, r2⟩ := qav (K := fun _ => true) (En Tryz.prog rfl).hT hV (fn := fn) (xs := [.int .i64 (q63 b a e)]) (ys := [.int .i64 (q63 b a e)]) (by
   rw [f5]
   have ht : (En Tryz.prog rfl).TE 35 = _ := TE_35
   simp [q28, q4m, ht, tms, upd, q1]
   rfl) ⟨.inl rfl, trivial⟩
  refine ⟨v, r1, ?_⟩
  have hv : v = .int .i64 (q63 b a e) := by
   cases r2
   rfl
  rw [hv]
  exact hfin w' G' s' a' 59 hA hR q2 q3 q4 q5
 have step : u ≠ .run ∧ CallsD (En Tryz.prog rfl).P 130 #[p5, p4] u w (fun en u' w' => match en, u', w' with
  | .returned _, u', w' => Leaves (En Tryz.prog rfl).P fn a3.tmps R [] (settle u') w'
  | .panicked chain, u', w' => Leaves (En Tryz.prog rfl).P fn a3.tmps R [] (raised u' chain) w'
  | .outgrown, _, w' => R .outgrown w') := by
  rcases hu with ⟨rfl, rfl, rfl, rfl⟩ | ⟨rfl, rfl, he⟩
  ·refine ⟨by simp, q9i (Q := RdQ (q63 b a 0) g o' v1 v2 p4) h h5 h4 hx (u' := .returning) (.inl ⟨rfl, rfl, rfl⟩) (qmz b a hb g o' v1 v2 p4 p5) (fun ee s hq => ?_) fun v' w' G' s' a' hA hR hq => fin _ w' G' s' a' hA hR hq rfl⟩
   cases ee <;> first | rfl | exact hq.elim
  ·have hr : q63 b a e = e := by unfold q63; rw [if_neg he]
   refine ⟨by simp, q9i (Q := RdQ (q63 b a e) g o' v1 v2 p4) h h5 h4 hx (u' := .panicking [{ v := xv, recovered := true }]) (.inr ⟨rfl, rfl⟩) (by rw [hr]; exact qkw b a e he hb g o' v1 v2 p4 p5) (fun ee s hq => ?_) fun v' w' G' s' a' hA hR hq => fin _ w' G' s' a' hA hR hq rfl⟩
   cases ee <;> first | rfl | exact hq.elim
 exact ⟨step.1, _, _, _, _, rfl, hinv, step.2⟩
theorem zbz (b : Bs) (hb : b.length ≤ 900000000000) (F : FuncId) (a e : Nat) (g o o' : List AVal) (hg : g.all q0n = true) (ho : o.all q0n = true) (ho' : o'.all q0n = true) {out : Out} (hF : EvM (En Tryz.prog rfl).P F [.ptr 900000 0, .ptr 900001 0, .ptr 900002 0] (rdM b 0 0 g o) out (rdM b a e g o'))
 (hout : out = .ret (.tup []) ∧ e = 0 ∨ out = .pan gup ∧ e ≠ 0) : EvM (En Tryz.prog rfl).P 102 [.sl 1 (q1f b), .fn F [.ptr 900001 0, .ptr 900002 0]] [(900001, g), (900002, o)] (.ret (.int .i64 (q63 b a e))) [(900001, g), (900002, o')] := by
 obtain ⟨fn, c, f1, f2, f3, f4, f5, f6⟩ := it_k102
 refine EvM.of_run f1 f2 f3 (by simp [f4]) (fun k => ?_) ?_ ?_ ?_
 ·by_cases h1 : k = 900001
  ·subst h1; rfl
  ·by_cases h2 : k = 900002
   ·subst h2; rfl
   ·unfold lin q3u
    have e1 : ((900001 : Nat) == k) = false := by simpa using fun h => h1 h.symm
    have e2 : ((900002 : Nat) == k) = false := by simpa using fun h => h2 h.symm
    simp [List.find?, e1, e2]
 ·intro p hp
  simp only [List.mem_cons, List.not_mem_nil, or_false] at hp
  rcases hp with rfl | rfl <;> simp [q5e]
 ·intro p hp x hx
  simp only [List.mem_cons, List.not_mem_nil, or_false] at hp
  rcases hp with rfl | rfl
  ·exact List.all_eq_true.1 hg x hx
  ·exact List.all_eq_true.1 ho' x hx
 intro B G vs w hsz hR R hfin
 obtain ⟨c1, cr, rfl, s1, sr⟩ := q9v (x := .ops false q9z) (y := .seq (.ops false q9y) (.seq (.ops false q9x) (qoc qg6))) f6
 obtain ⟨c2, cr, rfl, s2, sr⟩ := q9v sr
 obtain ⟨c3, c4, rfl, s3, s4⟩ := q9v sr
 refine calls_of_wp_defers f1 f3 ?_
 rw [f4] at hR ⊢
 have hl : lnt [(900001, g), (900002, o)] G.β = [(900001, .cells g), (1900001, .note (.ptr 900001 0) (q3h (G.β 900001))), (900002, .cells o), (1900002, .note (.ptr 900002 0) (q3h (G.β 900002)))] := by
  simp only [lnt, q5e, List.flatMap_cons, List.flatMap_nil, List.cons_append, List.nil_append, List.append_nil, Nat.reduceAdd]
 rw [hl] at hR
 refine wp_seq (qkv b F g o (q3h (G.β 900001)) (q3h (G.β 900002)) hg ho c1 s1 B G _ w hR _ fun e1 S1 a1 w1 G1 hA1 hR1 hq1 => ?_)
 obtain ⟨rfl, hq1⟩ := hq1
 refine wp_seq (hq1 c2 s2 B G1 a1 w1 hR1 _ fun e2 S2 a2 w2 G2 hA2 hR2 hq2 => ?_)
 obtain ⟨rfl, hq2⟩ := hq2
 obtain ⟨G3, hR3, hA3⟩ := hq2 B G2 a2 w2 hR2
 refine wp_Read3 hg ho ho' hF hout s3 s4 hR3 fun p5 p4 e3 S3 a3 w3 G4 hA4 hR4 hq4 => ?_
 have hA : Adv G w G4 w3 := ((hA1.trans hA2).trans hA3).trans hA4
 have f5' : fn.results.toList = [.cell 4 35] := f5
 have hend : ∀ (G4 : Gh) (w3 : World), Adv G w G4 w3 → ∀ (w' : World) (G' : Gh) (s' : AS) (a' : Act) (n' : Nat), Adv G4 w3 G' w' → Rel n' B G' s' a' w' → s'.M 900001 = some (.cells g) → s'.M 900002 = some (.cells o') → s'.M 1900001 = some (.note (.ptr 900001 0) (q3h (G.β 900001))) → s'.M 1900002 = some (.note (.ptr 900002 0) (q3h (G.β 900002))) → R (.returned (.int .i64 (q63 b a e))) w' :=
  fun G4 w3 hA w' G' s' a' n' hA' hR' q1 q2 q3 q4 => hfin _ w' G' s' a' n' (hA.trans hA') hR' ⟨fun p hp => by
   simp only [List.mem_cons, List.not_mem_nil, or_false] at hp
   rcases hp with rfl | rfl
   ·exact q1
   ·exact q2, fun p hp => by
   simp only [List.mem_cons, List.not_mem_nil, or_false] at hp
   rcases hp with rfl | rfl
   ·exact ⟨1900001, q3⟩
   ·exact ⟨1900002, q4⟩⟩ ⟨_, rfl, rfl, .int _ _⟩
 cases e3 with
 | normal => exact hq4.elim
 | exit _ => exact hq4.elim
 | ret =>
  obtain ⟨he, hM, hT4⟩ := hq4
  subst he
  have hds : (Act.sh a3 [⟨.fn (.func 130) #[p5, p4], #[]⟩]).defers = [⟨.fn (.func 130) #[p5, p4], #[]⟩] := by simp [Act.sh, hR4.defers]
  show Leaves _ fn a3.tmps R (Act.sh a3 _).defers .returning w3
  rw [hds]
  exact qbd hb f5' hR4 hM hT4 .niliface (.inl ⟨rfl, rfl, rfl, rfl⟩) (hend G4 w3 hA)
 | pan x =>
  obtain ⟨he, rfl, hM, hT4⟩ := hq4
  intro v' hv'
  have hds : (Act.sh a3 [⟨.fn (.func 130) #[p5, p4], #[]⟩]).defers = [⟨.fn (.func 130) #[p5, p4], #[]⟩] := by simp [Act.sh, hR4.defers]
  show Leaves _ fn a3.tmps R (Act.sh a3 _).defers (.panicking [{ v := v', recovered := false }]) w3
  rw [hds]
  exact qbd hb f5' hR4 hM hT4 hv' (.inr ⟨rfl, rfl, he⟩) (hend G4 w3 hA)



def z4j : List SOp := [zO 3 (.box 112 (.tmp 1)),zO 4 (.assign (.const (.slice none 0 0))),zO 5 (.assign (.const (.bool false)))]
instance : Live z4j := ⟨[0,1]⟩
def z4i : List SOp := [zO 6 (.alloc 26)]
instance : Live z4i := ⟨[0,3]⟩
def z4h : List SOp := [zM 8 0,zO 9 (.makeFunc (.func 107) #[] #[.tmp 3,.tmp 6]),zO 10 (.call ⟨.value (.func 102),#[.tmp 8,.tmp 9],#[28,141]⟩),zG 7 10]
instance : Live z4h := ⟨[0,3,6]⟩
def qlq : List SOp := [zL 11 26 6,zM 12 7,zO 13 (.binOp .eql 35 (.tmp 12) (.const (.int .i64 0)) 35),zG 4 11,zG 5 13]
instance : Live qlq := ⟨[6,7]⟩
def t_k61 : SC :=
 (.seq (.ops false z4j) (.seq (.ops false z4i) (.seq (.ops false z4h) (.seq (.ops false qlq) .ret))))
theorem it_k61 : FnIs Tryz.prog 61 14 [.tmp 4, .tmp 5] t_k61 := ⟨Tryz.f61, _, Tryz.func61, rfl, rfl, rfl, rfl, by kernel_rfl⟩

def qx1 : List SOp := [zL 4 112 1,zM 5 0,zO 6 (.call ⟨.value (.tmp 4),#[.tmp 5],#[140]⟩),⟨none,.store 26 (.tmp 2) (.tmp 6),none⟩]
instance : Live qx1 := ⟨[0,1,2]⟩
def t_k107 : SC :=
 (.ops false qx1)
theorem it_k107 : FnIs Tryz.prog 107 7 [] t_k107 := ⟨Tryz.f107, _, Tryz.func107, rfl, rfl, rfl, rfl, by kernel_rfl⟩

def z3t : List SOp := [zO 3 (.box 117 (.tmp 1)),zO 4 (.assign (.const (.slice none 0 0))),zO 5 (.assign (.const (.bool false)))]
instance : Live z3t := ⟨[0,1]⟩
def z3s : List SOp := [zO 6 (.alloc 27)]
instance : Live z3s := ⟨[0,3]⟩
def z3r : List SOp := [zM 8 0,zO 9 (.makeFunc (.func 111) #[] #[.tmp 3,.tmp 6]),zO 10 (.call ⟨.value (.func 102),#[.tmp 8,.tmp 9],#[28,141]⟩),zG 7 10]
instance : Live z3r := ⟨[0,3,6]⟩
def qlp : List SOp := [zL 11 27 6,zM 12 7,zO 13 (.binOp .eql 35 (.tmp 12) (.const (.int .i64 0)) 35),zG 4 11,zG 5 13]
instance : Live qlp := ⟨[6,7]⟩
def t_k65 : SC :=
 (.seq (.ops false z3t) (.seq (.ops false z3s) (.seq (.ops false z3r) (.seq (.ops false qlp) .ret))))
theorem it_k65 : FnIs Tryz.prog 65 14 [.tmp 4, .tmp 5] t_k65 := ⟨Tryz.f65, _, Tryz.func65, rfl, rfl, rfl, rfl, by kernel_rfl⟩

def qwl : List SOp := [zL 4 117 1,zM 5 0,zO 6 (.call ⟨.value (.tmp 4),#[.tmp 5],#[140]⟩),⟨none,.store 27 (.tmp 2) (.tmp 6),none⟩]
instance : Live qwl := ⟨[0,1,2]⟩
def t_k111 : SC :=
 (.ops false qwl)
theorem it_k111 : FnIs Tryz.prog 111 7 [] t_k111 := ⟨Tryz.f111, _, Tryz.func111, rfl, rfl, rfl, rfl, by kernel_rfl⟩

def rdE {α : Type} : Rs α → Nat
 | .ok _ => 0
 | .error (e, _) => e
def rdA {α : Type} : Rs α → Nat
 | .ok (_, a) => a
 | .error (_, a) => a
def rdO {α : Type} (r : Rs α) (o : List AVal) (f : α → List AVal) : List AVal :=
 match r with
 | .ok (x, _) => f x
 | .error _ => o
def rdOut {α : Type} : Rs α → Out
 | .ok _ => .ret (.tup [])
 | .error _ => .pan gup
theorem rdM_lt {b : Bs} {a e : Nat} {g o : List AVal} : ∀ p ∈ rdM b a e g o, p.1 < q5e := fun p hp => by
 simp only [rdM, List.mem_cons, List.not_mem_nil, or_false] at hp
 rcases hp with rfl | rfl | rfl <;> simp [q5e]
theorem rdM_st {b : Bs} {a e : Nat} {g o : List AVal} (hg : g.all q0n = true) (ho : o.all q0n = true) : ∀ p ∈ rdM b a e g o, ∀ x ∈ p.2, q0n x = true := fun p hp x hx => by
 simp only [rdM, List.mem_cons, List.not_mem_nil, or_false] at hp
 rcases hp with rfl | rfl | rfl
 ·exact List.all_eq_true.1 (q35 b a e) x hx
 ·exact List.all_eq_true.1 hg x hx
 ·exact List.all_eq_true.1 ho x hx
theorem qdu {b : Bs} {a e a0 e0 : Nat} {g o g0 o0 : List AVal} {β : Nat → Nat} {s : AS} (h0 : s.M 900000 = some (.cells (rdC b a e))) (h1 : s.M 900001 = some (.cells g)) (h2 : s.M 900002 = some (.cells o))
 (n0 : s.M 1900000 = some (.note (.ptr 900000 0) (q3h (β 900000)))) (n1 : s.M 1900001 = some (.note (.ptr 900001 0) (q3h (β 900001)))) (n2 : s.M 1900002 = some (.note (.ptr 900002 0) (q3h (β 900002)))) : FinM (rdM b a0 e0 g0 o0) (rdM b a e g o) β s := by
 refine ⟨fun p hp => ?_, fun p hp => ?_⟩
 ·simp only [rdM, List.mem_cons, List.not_mem_nil, or_false] at hp
  rcases hp with rfl | rfl | rfl <;> assumption
 ·simp only [rdM, List.mem_cons, List.not_mem_nil, or_false] at hp
  rcases hp with rfl | rfl | rfl
  ·exact ⟨_, n0⟩
  ·exact ⟨_, n1⟩
  ·exact ⟨_, n2⟩
theorem z1i {b : Bs} {a e : Nat} {g o : List AVal} {β : Nat → Nat} : lnt (rdM b a e g o) β = [(900000, .cells (rdC b a e)), (1900000, .note (.ptr 900000 0) (q3h (β 900000))), (900001, .cells g), (1900001, .note (.ptr 900001 0) (q3h (β 900001))), (900002, .cells o), (1900002, .note (.ptr 900002 0) (q3h (β 900002)))] := by
 simp only [lnt, rdM, q5e, List.flatMap_cons, List.flatMap_nil, List.cons_append, List.nil_append, List.append_nil, Nat.reduceAdd]
def qmn (l : List Ent) : List AVal := [.sl 4 (q1j l)]
def qln (l : List Rec) : List AVal := [.sl 3 (q1i l)]
theorem qkc (b : Bs) (hb : b.length ≤ 900000000000) : EvM (En Tryz.prog rfl).P 107 [.ptr 900000 0, .ptr 900001 0, .ptr 900002 0] (rdM b 0 0 [.fn 62 []] [.nil]) (rdOut (q0g b 0)) (rdM b (rdA (q0g b 0)) (rdE (q0g b 0)) [.fn 62 []] (rdO (q0g b 0) [.nil] qmn)) := by
 have he := qex b 0 hb (Nat.zero_le _)
 refine EvM.of_body it_k107 (by simp) (fun k => by rw [q5b, q5b]) rdM_lt (rdM_st rfl ?_) fun β => ?_
 ·cases q0g b 0 with
  | ok q => exact by simp [rdO, qmn, q0n, AVal.stb, q0i]
  | error q => rfl
 rw [z1i]
 refine Run.start ?_
 unfold t_k107
 (focus (have hF := @q07; (repeat' (first | refine go1 (k:=?_) | with_reducible refine Ny.of ?_ ?_ | (refine Hyp.of ?_; intro hc; (try simp only [hc]); (try simp only [Bh] at hc)))); all_goals clear hF))
 cases hr : q0g b 0 with
 | ok q =>
  obtain ⟨x, a⟩ := q
  rw [hr] at he
  refine q5o 900000 900000 (f := 62) (by with_unfolding_all rfl) (by with_unfolding_all rfl) (by with_unfolding_all rfl) (by with_unfolding_all rfl) (by with_unfolding_all rfl) (q35 b 0 0) (q35 b a 0) he.1 he.2 ?_
  dsimp only [AS.put]
  (focus (have hF := @q07; (repeat' (first | refine go1 (k:=?_) | with_reducible refine Ny.of ?_ ?_ | (refine Hyp.of ?_; intro hc; (try simp only [hc]); (try simp only [Bh] at hc)))); all_goals clear hF))
  exact ⟨[], rfl, rfl, ⟨[], trivial, rfl⟩, qdu rfl rfl rfl rfl rfl rfl⟩
 | error q =>
  obtain ⟨e, a⟩ := q
  rw [hr] at he
  exact qbz 900000 900000 (f := 62) (by with_unfolding_all rfl) (by with_unfolding_all rfl) (by with_unfolding_all rfl) (by with_unfolding_all rfl) (by with_unfolding_all rfl) (q35 b 0 0) (q35 b a e) (v := gup) rfl he ⟨by show (AVal.iface _ _).kin _ = true; simp only [AVal.kin, q9n, q5b]; rfl, rfl, qdu rfl rfl rfl rfl rfl rfl⟩
theorem qf0 (b : Bs) (hb : b.length ≤ 900000000000) : EvM (En Tryz.prog rfl).P 111 [.ptr 900000 0, .ptr 900001 0, .ptr 900002 0] (rdM b 0 0 [.fn 66 []] [.nil]) (rdOut (q0f b 0)) (rdM b (rdA (q0f b 0)) (rdE (q0f b 0)) [.fn 66 []] (rdO (q0f b 0) [.nil] qln)) := by
 have he := qew b 0 hb (Nat.zero_le _)
 refine EvM.of_body it_k111 (by simp) (fun k => by rw [q5b, q5b]) rdM_lt (rdM_st rfl ?_) fun β => ?_
 ·cases q0f b 0 with
  | ok q => exact by simp [rdO, qln, q0n, AVal.stb, q0p]
  | error q => rfl
 rw [z1i]
 refine Run.start ?_
 unfold t_k111
 (focus (have hF := @q07; (repeat' (first | refine go1 (k:=?_) | with_reducible refine Ny.of ?_ ?_ | (refine Hyp.of ?_; intro hc; (try simp only [hc]); (try simp only [Bh] at hc)))); all_goals clear hF))
 cases hr : q0f b 0 with
 | ok q =>
  obtain ⟨x, a⟩ := q
  rw [hr] at he
  refine q5o 900000 900000 (f := 66) (by with_unfolding_all rfl) (by with_unfolding_all rfl) (by with_unfolding_all rfl) (by with_unfolding_all rfl) (by with_unfolding_all rfl) (q35 b 0 0) (q35 b a 0) he.1 he.2 ?_
  dsimp only [AS.put]
  (focus (have hF := @q07; (repeat' (first | refine go1 (k:=?_) | with_reducible refine Ny.of ?_ ?_ | (refine Hyp.of ?_; intro hc; (try simp only [hc]); (try simp only [Bh] at hc)))); all_goals clear hF))
  exact ⟨[], rfl, rfl, ⟨[], trivial, rfl⟩, qdu rfl rfl rfl rfl rfl rfl⟩
 | error q =>
  obtain ⟨e, a⟩ := q
  rw [hr] at he
  exact qbz 900000 900000 (f := 66) (by with_unfolding_all rfl) (by with_unfolding_all rfl) (by with_unfolding_all rfl) (by with_unfolding_all rfl) (by with_unfolding_all rfl) (q35 b 0 0) (q35 b a e) (v := gup) rfl he ⟨by show (AVal.iface _ _).kin _ = true; simp only [AVal.kin, q9n, q5b]; rfl, rfl, qdu rfl rfl rfl rfl rfl rfl⟩

theorem Wk.cells_nil {n : Nat} {T : q14} {M : Mem} {k : Nat} {cs ds : List AVal} (hk : M k = some (.cells cs)) (h : ql1 cs ds) : Wk n ⟨T, M⟩ ⟨T, upd M k (some (.cells ds))⟩ := by
 intro B G a w hR
 obtain ⟨c, el, b1, b2, b3, b4, b5⟩ := hR.mem k _ hk
 have hD : ∀ j e, Dm M j e → Dm (upd M k (some (.cells ds))) j e := fun j e => q32 (by rw [hk]; trivial)
 have hw : ∀ b, b < w.heap.size → ¬ B b → G.ow b = none → w.heap[b]? = w.heap[b]? ∧ ¬ B b ∧ G.ow b = none := fun b _ hn ho => ⟨rfl, hn, ho⟩
 refine ⟨G, hR.update (.refl G w) k (.cells ds) (by show ql8 (M k) _; rw [hk]; trivial) (fun _ _ _ => ⟨rfl, rfl⟩) (fun b key _ _ ho _ => ⟨rfl, ho⟩) (fun b hb => hR.ol b hb) ?_, .refl G w⟩
 refine ⟨c, el, b1, b2, b3, by rw [b4, q9t h], fun i y hy => ?_⟩
 obtain ⟨x, hx, hs⟩ := q9u h hy
 obtain ⟨u, hu, hr⟩ := b5 i x hx
 refine ⟨u, hu, ?_⟩
 rcases hs with rfl | ⟨rfl, sz, rfl⟩
 ·cases x with
  | own sz' xs' => exact OwnAt.mono hD (fun _ _ _ => ⟨rfl, rfl⟩) hw (fun b _ hb2 hb3 => ⟨rfl, hb2, hb3⟩) hr
  | hole => trivial
  | _ => exact VR.mono hD (fun _ _ _ => ⟨rfl, rfl⟩) hw hr
 ·have hr : VR (Dm M) G B w .nil u := hr
  cases hr
  exact .slnil sz


def z87 : List SOp := [zO 2 (.assign (.const (.slice none 0 0))),zO 3 (.assign (.const (.int .i64 0)))]
instance : Live z87 := ⟨[0]⟩
def z86 : List SOp := [zM 7 0,zO 8 (.call ⟨.value (.func 61),#[.tmp 7,.func 62],#[28,112]⟩),zM 6 8,zX 9 6 0,zX 10 6 1,zG 4 9,zG 5 10]
instance : Live z86 := ⟨[0]⟩
def z85 : List SOp := [zM 11 5,zO 12 (.unOp .not 4 (.tmp 11)),zM 13 12,⟨some 14,.move (.tmp 4),some ((some 13),false)⟩,⟨some 15,.call ⟨.value (.func 49),#[.tmp 14],#[26]⟩,some ((some 13),false)⟩,⟨some 16,.binOp .neq 35 (.tmp 15) (.const (.int .i64 0)) 35,some ((some 13),false)⟩,zO 17 (.pick (.tmp 13) (.const (.bool true)) (.tmp 16))]
instance : Live z85 := ⟨[4,5]⟩
def z84 : List SOp := [zO 2 (.assign (.const (.slice none 0 0))),zO 3 (.assign (.const (.int .i64 8)))]
instance : Live z84 := ⟨[]⟩
def z83 : List SOp := [zM 18 4,zG 2 18,zO 3 (.assign (.const (.int .i64 0)))]
instance : Live z83 := ⟨[4]⟩
def t_k24 : SC :=
 (.seq (.ops false z87) (.seq (.ops false z86) (.seq (.seq (.ops false z85) (.cond (.tmp 17) (.seq (.ops false z84) .ret) .skip)) (.seq (.ops false z83) .ret))))
theorem it_k24 : FnIs Tryz.prog 24 19 [.tmp 2, .tmp 3] t_k24 := ⟨Tryz.f24, _, Tryz.func24, rfl, rfl, rfl, rfl, by kernel_rfl⟩

def z7t : List SOp := [zO 2 (.assign (.const (.slice none 0 0))),zO 3 (.assign (.const (.int .i64 0)))]
instance : Live z7t := ⟨[0]⟩
def z7s : List SOp := [zM 7 0,zO 8 (.call ⟨.value (.func 65),#[.tmp 7,.func 66],#[28,117]⟩),zM 6 8,zX 9 6 0,zX 10 6 1,zG 4 9,zG 5 10]
instance : Live z7s := ⟨[0]⟩
def z7r : List SOp := [zM 11 5,zO 12 (.unOp .not 4 (.tmp 11)),zM 13 12,⟨some 14,.move (.tmp 4),some ((some 13),false)⟩,⟨some 15,.call ⟨.value (.func 57),#[.tmp 14],#[27]⟩,some ((some 13),false)⟩,⟨some 16,.binOp .neq 35 (.tmp 15) (.const (.int .i64 0)) 35,some ((some 13),false)⟩,zO 17 (.pick (.tmp 13) (.const (.bool true)) (.tmp 16))]
instance : Live z7r := ⟨[4,5]⟩
def z7q : List SOp := [zO 2 (.assign (.const (.slice none 0 0))),zO 3 (.assign (.const (.int .i64 8)))]
instance : Live z7q := ⟨[]⟩
def z7p : List SOp := [zM 18 4,zG 2 18,zO 3 (.assign (.const (.int .i64 0)))]
instance : Live z7p := ⟨[4]⟩
def t_k26 : SC :=
 (.seq (.ops false z7t) (.seq (.ops false z7s) (.seq (.seq (.ops false z7r) (.cond (.tmp 17) (.seq (.ops false z7q) .ret) .skip)) (.seq (.ops false z7p) .ret))))
theorem it_k26 : FnIs Tryz.prog 26 19 [.tmp 2, .tmp 3] t_k26 := ⟨Tryz.f26, _, Tryz.func26, rfl, rfl, rfl, rfl, by kernel_rfl⟩

section
def rdV {α : Type} (z : α) : Rs α → α
 | .ok (x, _) => x
 | .error _ => z
def qoe {α : Type} (b : Bs) (r : Rs α) : Bool := decide (q63 b (rdA r) (rdE r) = 0)
theorem qod {α : Type} {r : Rs α} (h : ∀ e a, r = .error (e, a) → e ≠ 0) : rdOut r = .ret (.tup []) ∧ rdE r = 0 ∨ rdOut r = .pan gup ∧ rdE r ≠ 0 := by
 cases r with
 | ok q => exact .inl ⟨rfl, rfl⟩
 | error q => exact .inr ⟨rfl, h _ _ rfl⟩
section
variable {E : Env} {n : Nat} {Q : Ex → AS → Prop} {r : List SOp} {T : q14} {M : Mem} {t : Tmp} {x : Operand} {args : Array Operand} {ts : Array TypeId} {f F : FuncId} {g o o' bs : List AVal} {v : Int}
theorem qyz (k1 k2 : Nat) (hf : ev T x = .fn f []) (hl : evs T args.toList ++ [] = [.sl 1 bs, .fn F [.ptr k1 0, .ptr k2 0]]) (h1 : M k1 = some (.cells g)) (h2 : M k2 = some (.cells o)) (h12 : k1 ≠ k2) (hbs : q0m bs = true) (hg : g.all q0n = true) (ho : o.all q0n = true) (ho' : o'.all q0n = true)
 (he : EvM E.P f [.sl 1 bs, .fn F [.ptr 900001 0, .ptr 900002 0]] [(900001, g), (900002, o)] (.ret (.int .i64 v)) [(900001, g), (900002, o')])
 (kk : q06 E false none Q r (AS.put ⟨T, upd M k2 (some (.cells o'))⟩ (some t) (.int .i64 v))) : q06 E false none Q (⟨some t, .call ⟨.value x, args, ts⟩, none⟩ :: r) ⟨T, M⟩ := by
 have hlin : ∀ (o : List AVal) (k : Nat), lin [(900001, g), (900002, o)] k = (k == 900001 || k == 900002) := fun o k => by
  unfold lin q3u
  by_cases h1 : k = 900001
  ·subst h1; rfl
  ·by_cases h2 : k = 900002
   ·subst h2; rfl
   ·have e1 : ((900001 : Nat) == k) = false := by simpa using fun h => h1 h.symm
    have e2 : ((900002 : Nat) == k) = false := by simpa using fun h => h2 h.symm
    simp [List.find?, e1, e2, h1, h2]
 have hst : ∀ o : List AVal, o.all q0n = true → ∀ p ∈ [((900001 : Nat), g), (900002, o)], ∀ x ∈ p.2, q0n x = true := fun o ho p hp x hx => by
  simp only [List.mem_cons, List.not_mem_nil, or_false] at hp
  rcases hp with rfl | rfl
  ·exact List.all_eq_true.1 hg x hx
  ·exact List.all_eq_true.1 ho x hx
 have h21 : k2 ≠ k1 := fun e => h12 e.symm
 refine q8j (qa2 (s := ⟨T, M⟩) (l := [.sl 1 bs, .fn F [.ptr k1 0, .ptr k2 0]]) (m := [(900001, g), (900002, o)]) (m' := [(900001, g), (900002, o')]) (L := fun j => j == k1 || j == k2) (ρ := fun k => if k = 900001 then k1 else k2) (σ := fun j => if j = k1 then 900001 else 900002) hf hl
  (fun j hj => ?_) (fun k hk => ?_) (fun k cs hk => ?_) (hst o ho) (hst o' ho') ?_ ?_ (out := .ret (.int .i64 v)) rfl he) ?_ ?_
 ·simp only [Bool.or_eq_true, beq_iff_eq] at hj
  rcases hj with rfl | rfl
  ·simp [hlin]
  ·simp [hlin, h21]
 ·rw [hlin] at hk
  simp only [Bool.or_eq_true, beq_iff_eq] at hk
  rcases hk with rfl | rfl
  ·simp
  ·simp [h21]
 ·obtain ⟨cs', hc, hm⟩ := q23 hk
  cases hc
  simp only [List.mem_cons, List.not_mem_nil, or_false, Prod.mk.injEq] at hm
  rcases hm with ⟨rfl, rfl⟩ | ⟨rfl, rfl⟩
  ·simpa using h1
  ·simpa using h2
 ·simpa [q9n, AVal.kin, AVal.stb] using hbs
 ·simp [q8o, AVal.ren, h21]
 ·rintro y M' ⟨z, hz, rfl, rfl⟩
  cases hz
  have hM : q1u M (fun j => j == k1 || j == k2) (fun j => if j = k1 then 900001 else 900002) [(900001, g), (900002, o')] = upd M k2 (some (.cells o')) := by
   funext j
   unfold q1u
   by_cases a1 : j = k1
   ·subst a1
    rw [q0d _ _ h12]
    simp [h1, q3u]
   ·by_cases a2 : j = k2
    ·subst a2
     rw [q00]
     simp [a1, q3u]
    ·rw [q0d _ _ a2]
     simp [a1, a2]
  dsimp only
  rw [hM]
  exact kk
 ·rintro y M' ⟨z, hz, _⟩
  cases hz
end
def noZ {α : Type} (r : Rs α) : Prop := ∀ e a, r = .error (e, a) → e ≠ 0
theorem q1t {α β : Type} {r : Rs α} {f : α → Nat → Rs β} (h : noZ r) (hf : ∀ x a, noZ (f x a)) : noZ (r.bind f) := by
 cases r with
 | ok q => exact hf q.1 q.2
 | error q => intro e a he; exact h e a (by cases he; rfl)
theorem noZ_ite {α : Type} {c : Prop} [Decidable c] {x y : Rs α} (hx : noZ x) (hy : noZ y) : noZ (if c then x else y) := by
 split
 ·exact hx
 ·exact hy
theorem qb6 {α : Type} (q : α × Nat) : noZ (.ok q : Rs α) := fun e a h => by cases h
theorem qjj {α : Type} {e a : Nat} (h : e ≠ 0) : noZ (.error (e, a) : Rs α) := fun e' a' h' => by cases h'; exact h
theorem q4o (m : Nat) (b : Bs) (p : Nat) : noZ (qc5 m b p) := fun e a h => (rNum_err h).1
theorem qb7 (m : Nat) (b : Bs) (p : Nat) : noZ (q4g m b p) := by
 unfold q4g
 cases h : qc5 9223372036854775807 b p with
 | error q => exact fun e a he => q4o _ b p e a (by rw [h, ← he])
 | ok q =>
  simp only
  split
  ·exact qjj (by decide)
  ·exact qb6 _
theorem noZ_take (m : Nat) (b : Bs) (p : Nat) : noZ (qc9 m b p) := by
 unfold qc9
 cases h : qc5 m b p with
 | error q => exact fun e a he => q4o m b p e a (by rw [h]; cases he; rfl)
 | ok q =>
  simp only
  split
  ·exact qjj (by decide)
  ·exact qb6 _
theorem qy3 (m : Nat) (b : Bs) (p : Nat) : noZ (qe8 m b p) := fun e a h => noZ_take m b p e a (Rs.map_error h)
theorem zam (b : Bs) : ∀ (k : Nat) (acc : List Int) (p : Nat), noZ (qzm b k acc p)
 | 0, acc, p => qb6 _
 | k + 1, acc, p => by rw [qzm]; exact q1t (q4o _ _ _) fun x a => zam b k _ _
theorem qjk (vec : List Int) (b : Bs) : ∀ (k rep : Nat) (acc : List Sn) (p : Nat), noZ (q4h vec b k rep acc p)
 | 0, rep, acc, p => qb6 _
 | k + 1, rep, acc, p => by
  rw [q4h]
  refine q1t (q4o _ _ _) fun x a => ?_
  split
  ·exact qjj (by decide)
  ·refine q1t (q4o _ _ _) fun x a => q1t (q4o _ _ _) fun x a => ?_
   split
   ·exact qjj (by decide)
   ·exact qjk vec b k _ _ _
theorem rPast_ne (b : Bs) (p : Nat) : noZ (qe9 b p) :=
 q1t (q4o _ _ _) fun x a => q1t (zam _ _ _ _) fun x a => q1t (qb7 _ _ _) fun x a => q1t (qjk _ _ _ _ _ _) fun x a => qb6 _
theorem qy5 (b : Bs) : ∀ (k rep next : Nat) (acc : List Ent) (p : Nat), noZ (qcb b k rep next acc p)
 | 0, rep, next, acc, p => qb6 _
 | k + 1, rep, next, acc, p => by
  rw [qcb]
  exact q1t (q4o _ _ _) fun x a => q1t (q4o _ _ _) fun x a => noZ_ite (qjj (by decide)) (q1t (qy3 _ _ _) fun x a => q1t (q4o _ _ _) fun x a => qy5 b k _ _ _ _)
theorem qm1 (b : Bs) (p : Nat) : noZ (q0g b p) := q1t (qb7 _ _ _) fun x a => qy5 _ _ _ _ _ _
theorem qy4 (b : Bs) : ∀ (k : Nat) (acc : List Rec) (p : Nat), noZ (qca b k acc p)
 | 0, acc, p => qb6 _
 | k + 1, acc, p => by
  rw [qca]
  exact q1t (qy3 _ _ _) fun x a => q1t (rPast_ne _ _) fun x a => qy4 b k _ _
theorem qm0 (b : Bs) (p : Nat) : noZ (q0f b p) := q1t (qb7 _ _ _) fun x a => qy4 _ _ _ _
theorem ev_k61 (b : Bs) (hb : b.length ≤ 900000000000) : Ev (En Tryz.prog rfl).P 61 [.sl 1 (q1f b), .fn 62 []] (.ret (.tup [.sl 4 (q1j (rdV [] (q0g b 0))), .bool (qoe b (q0g b 0))])) := by
 have he := zbz b hb 107 (rdA (q0g b 0)) (rdE (q0g b 0)) [.fn 62 []] [.nil] (rdO (q0g b 0) [.nil] qmn) rfl rfl (by
  cases q0g b 0 with
  | ok q => exact by simp [rdO, qmn, q0n, AVal.stb, q0i]
  | error q => rfl) (qkc b hb) (qod fun e a h => qm1 b 0 e a h)
 refine Ev.of_body it_k61 (by simp) (Run.start ?_)
 unfold t_k61
 generalize hx : SC.ops false qlq = X
 (focus (have hF := @q00; (repeat' (first | refine go1 (k:=?_) | with_reducible refine Ny.of ?_ ?_ | (refine Hyp.of ?_; intro hc; (try simp only [hc]); (try simp only [Bh] at hc)))); all_goals clear hF))
 refine qyz 3 6 (by with_unfolding_all rfl) (by with_unfolding_all rfl) (by with_unfolding_all rfl) (by with_unfolding_all rfl) (by decide) (q01 b) rfl rfl (by
  cases q0g b 0 with
  | ok q => exact by simp [rdO, qmn, q0n, AVal.stb, q0i]
  | error q => rfl) he ?_
 dsimp only [AS.put]
 (focus (have hF := @q00; (repeat' (first | refine go1 (k:=?_) | with_reducible refine Ny.of ?_ ?_ | (refine Hyp.of ?_; intro hc; (try simp only [hc]); (try simp only [Bh] at hc)))); all_goals clear hF))
 have hE : (q63 b (rdA (q0g b 0)) (rdE (q0g b 0)) = 0) = (qoe b (q0g b 0) = true) := by simp [qoe]
 generalize q63 b (rdA (q0g b 0)) (rdE (q0g b 0)) = y at hE
 generalize qoe b (q0g b 0) = yo at hE ⊢
 refine Run.wk (Wk.cells_nil (k := 6) (ds := qmn (rdV [] (q0g b 0))) (by with_unfolding_all rfl) ?_) ?_
 ·cases q0g b 0 with
  | ok q => exact q5z _
  | error q => exact ⟨.inr ⟨rfl, 4, rfl⟩, trivial⟩
 subst hx
 generalize rdV [] (q0g b 0) = x
 have hC : qmn x = [.sl 4 (q1j x)] := rfl
 have hD : decide (yo = true) = yo := by simp
 (focus (have hF := (aI (aI @q00 @hC) (aI @hE @hD)); (repeat' (first | refine go1 (k:=?_) | with_reducible refine Ny.of ?_ ?_ | (refine Hyp.of ?_; intro hc; (try simp only [hc]); (try simp only [Bh] at hc)))); all_goals clear hF))
 exact Fin.all (xs := [.sl 4 (q1j x), .bool yo]) rfl (by simp [q0m, AVal.stb, q0i]) rfl
theorem ev_k65 (b : Bs) (hb : b.length ≤ 900000000000) : Ev (En Tryz.prog rfl).P 65 [.sl 1 (q1f b), .fn 66 []] (.ret (.tup [.sl 3 (q1i (rdV [] (q0f b 0))), .bool (qoe b (q0f b 0))])) := by
 have he := zbz b hb 111 (rdA (q0f b 0)) (rdE (q0f b 0)) [.fn 66 []] [.nil] (rdO (q0f b 0) [.nil] qln) rfl rfl (by
  cases q0f b 0 with
  | ok q => exact by simp [rdO, qln, q0n, AVal.stb, q0p]
  | error q => rfl) (qf0 b hb) (qod fun e a h => qm0 b 0 e a h)
 refine Ev.of_body it_k65 (by simp) (Run.start ?_)
 unfold t_k65
 generalize hx : SC.ops false qlp = X
 (focus (have hF := @q00; (repeat' (first | refine go1 (k:=?_) | with_reducible refine Ny.of ?_ ?_ | (refine Hyp.of ?_; intro hc; (try simp only [hc]); (try simp only [Bh] at hc)))); all_goals clear hF))
 refine qyz 3 6 (by with_unfolding_all rfl) (by with_unfolding_all rfl) (by with_unfolding_all rfl) (by with_unfolding_all rfl) (by decide) (q01 b) rfl rfl (by
  cases q0f b 0 with
  | ok q => exact by simp [rdO, qln, q0n, AVal.stb, q0p]
  | error q => rfl) he ?_
 dsimp only [AS.put]
 (focus (have hF := @q00; (repeat' (first | refine go1 (k:=?_) | with_reducible refine Ny.of ?_ ?_ | (refine Hyp.of ?_; intro hc; (try simp only [hc]); (try simp only [Bh] at hc)))); all_goals clear hF))
 have hE : (q63 b (rdA (q0f b 0)) (rdE (q0f b 0)) = 0) = (qoe b (q0f b 0) = true) := by simp [qoe]
 generalize q63 b (rdA (q0f b 0)) (rdE (q0f b 0)) = y at hE
 generalize qoe b (q0f b 0) = yo at hE ⊢
 refine Run.wk (Wk.cells_nil (k := 6) (ds := qln (rdV [] (q0f b 0))) (by with_unfolding_all rfl) ?_) ?_
 ·cases q0f b 0 with
  | ok q => exact q5z _
  | error q => exact ⟨.inr ⟨rfl, 3, rfl⟩, trivial⟩
 subst hx
 generalize rdV [] (q0f b 0) = x
 have hC : qln x = [.sl 3 (q1i x)] := rfl
 have hD : decide (yo = true) = yo := by simp
 (focus (have hF := (aI (aI @q00 @hC) (aI @hE @hD)); (repeat' (first | refine go1 (k:=?_) | with_reducible refine Ny.of ?_ ?_ | (refine Hyp.of ?_; intro hc; (try simp only [hc]); (try simp only [Bh] at hc)))); all_goals clear hF))
 exact Fin.all (xs := [.sl 3 (q1i x), .bool yo]) rfl (by simp [q0m, AVal.stb, q0p]) rfl
def getV {α : Type} (z : α) (ok : α → Bool) (b : Bs) (r : Rs α) : α := if (qoe b r && ok (rdV z r)) = true then rdV z r else z
def getE {α : Type} (z : α) (ok : α → Bool) (b : Bs) (r : Rs α) : Int := if (qoe b r && ok (rdV z r)) = true then 0 else 8
theorem ev_k24 (b : Bs) (hb : b.length ≤ 900000000000) (hw : (rdV [] (q0g b 0)).length ≤ 1000000000) : Ev (En Tryz.prog rfl).P 24 [.sl 1 (q1f b)] (.ret (.tup [.sl 4 (q1j (getV [] q4c b (q0g b 0))), .int .i64 (getE [] q4c b (q0g b 0))])) := by
 refine Ev.of_body it_k24 (by simp) (Run.start ?_)
 unfold t_k24
 have hS := qo6
 (focus (have hF := @q00; (repeat' (first | refine go1 (k:=?_) | with_reducible refine Ny.of ?_ ?_ | (refine Hyp.of ?_; intro hc; (try simp only [hc]); (try simp only [Bh] at hc)))); all_goals clear hF))
 refine q05 [.sl 1 (q1f b), .fn 62 []] (he := ev_k61 b hb) (k:=?_)
 unfold getV getE
 generalize rdV [] (q0g b 0) = x at *
 generalize qoe b (q0g b 0) = yo
 cases yo with
 | false =>
  (focus (have hF := @q00; (repeat' (first | refine go1 (k:=?_) | with_reducible refine Ny.of ?_ ?_ | (refine Hyp.of ?_; intro hc; (try simp only [hc]); (try simp only [Bh] at hc)))); all_goals clear hF))
  exact Fin.two rfl rfl rfl rfl (.inr ⟨rfl, 4, rfl⟩) (.inl rfl)
 | true =>
  (focus (have hF := @q00; (repeat' (first | refine go1 (k:=?_) | with_reducible refine Ny.of ?_ ?_ | (refine Hyp.of ?_; intro hc; (try simp only [hc]); (try simp only [Bh] at hc)))); all_goals clear hF))
  refine q05 [.sl 4 (q1j x)] (he := ev_k49 x hw) (k:=?_)
  cases hn : q4c x with
  | false =>
   (focus (have hF := @q00; (repeat' (first | refine go1 (k:=?_) | with_reducible refine Ny.of ?_ ?_ | (refine Hyp.of ?_; intro hc; (try simp only [hc]); (try simp only [Bh] at hc)))); all_goals clear hF))
   exact Fin.two rfl rfl rfl rfl (.inr ⟨rfl, 4, rfl⟩) (.inl rfl)
  | true =>
   (focus (have hF := @q00; (repeat' (first | refine go1 (k:=?_) | with_reducible refine Ny.of ?_ ?_ | (refine Hyp.of ?_; intro hc; (try simp only [hc]); (try simp only [Bh] at hc)))); all_goals clear hF))
   exact Fin.two (y := .sl 4 (q1j x)) rfl (q0i x) rfl rfl (.inl rfl) (.inl rfl)
theorem ev_k26 (b : Bs) (hb : b.length ≤ 900000000000) (hl : (rdV [] (q0f b 0)).length ≤ 1000000000) (hw : ∀ r ∈ rdV [] (q0f b 0), wt r.past ≤ 40000000) : Ev (En Tryz.prog rfl).P 26 [.sl 1 (q1f b)] (.ret (.tup [.sl 3 (q1i (getV [] q4z b (q0f b 0))), .int .i64 (getE [] q4z b (q0f b 0))])) := by
 refine Ev.of_body it_k26 (by simp) (Run.start ?_)
 unfold t_k26
 have hS := qo6
 (focus (have hF := @q00; (repeat' (first | refine go1 (k:=?_) | with_reducible refine Ny.of ?_ ?_ | (refine Hyp.of ?_; intro hc; (try simp only [hc]); (try simp only [Bh] at hc)))); all_goals clear hF))
 refine q05 [.sl 1 (q1f b), .fn 66 []] (he := ev_k65 b hb) (k:=?_)
 unfold getV getE
 generalize rdV [] (q0f b 0) = x at *
 generalize qoe b (q0f b 0) = yo
 cases yo with
 | false =>
  (focus (have hF := @q00; (repeat' (first | refine go1 (k:=?_) | with_reducible refine Ny.of ?_ ?_ | (refine Hyp.of ?_; intro hc; (try simp only [hc]); (try simp only [Bh] at hc)))); all_goals clear hF))
  exact Fin.two rfl rfl rfl rfl (.inr ⟨rfl, 3, rfl⟩) (.inl rfl)
 | true =>
  (focus (have hF := @q00; (repeat' (first | refine go1 (k:=?_) | with_reducible refine Ny.of ?_ ?_ | (refine Hyp.of ?_; intro hc; (try simp only [hc]); (try simp only [Bh] at hc)))); all_goals clear hF))
  refine q05 [.sl 3 (q1i x)] (he := q8d x hl hw) (k:=?_)
  cases hn : q4z x with
  | false =>
   (focus (have hF := @q00; (repeat' (first | refine go1 (k:=?_) | with_reducible refine Ny.of ?_ ?_ | (refine Hyp.of ?_; intro hc; (try simp only [hc]); (try simp only [Bh] at hc)))); all_goals clear hF))
   exact Fin.two rfl rfl rfl rfl (.inr ⟨rfl, 3, rfl⟩) (.inl rfl)
  | true =>
   (focus (have hF := @q00; (repeat' (first | refine go1 (k:=?_) | with_reducible refine Ny.of ?_ ?_ | (refine Hyp.of ?_; intro hc; (try simp only [hc]); (try simp only [Bh] at hc)))); all_goals clear hF))
   exact Fin.two (y := .sl 3 (q1i x)) rfl (q0p x) rfl rfl (.inl rfl) (.inl rfl)
end
theorem qek (t : Tab) (r : Nat) : 0 ≤ q5g t r ∧ q5g t r ≤ 1000000000 ∧ (q43 t r).Pairwise qlk ∧ ∀ x ∈ q43 t r, okR x ∧ q5g t r + 2 ≤ x.1 := by
 unfold q5g q43
 have hc := q2k (t.getD r [])
 cases hl : q12 (t.getD r []) with
 | nil => simp [q1p]
 | cons x l =>
  rw [hl] at hc
  have hp := hc.1
  have ho := hc.2
  have hx : okR x := ho x (by simp)
  rw [List.pairwise_cons] at hp
  unfold okR at hx
  by_cases h1 : x.1 = 1
  ·rw [qa1 h1]
   refine ⟨by simp only; omega, by simp only; omega, hp.2, fun y hy => ⟨ho y (by simp [hy]), ?_⟩⟩
   have := hp.1 y hy
   unfold qlk at this
   simp only
   omega
  ·rw [qa0 h1]
   refine ⟨by simp, by simp, by simp only; rw [List.pairwise_cons]; exact hp, fun y hy => ⟨ho y hy, ?_⟩⟩
   simp only at hy ⊢
   rcases List.mem_cons.1 hy with rfl | hy
   ·omega
   ·have := hp.1 y hy
    unfold qlk at this
    omega
theorem lowI_T (t : Tab) {r : Nat} (hr : r < 16) : qjn (q64 t).vec r = q5g t r + 2 := by
 unfold qjn q64
 simp only
 rw [List.getElem?_take]
 by_cases h : r < q2x t 16
 ·rw [if_pos h, qzq t hr]
 ·rw [if_neg h]
  have h1 := qco t 16 r hr (by omega)
  have h2 := (qek t r).1
  simp only
  omega
theorem qz9 {vec : List Int} : ∀ {l sf m : List Sn}, CldF vec sf l → CldF vec (sf ++ l) m → CldF vec sf (l ++ m)
 | [], sf, m, _, h => by simpa using h
 | x :: l, sf, m, h1, h2 => ⟨h1.1, qz9 h1.2 (by simpa using h2)⟩
theorem qmc {vec : List Int} {r : Nat} (sf : List Sn) (lo hi : Int) : q1a vec r (sf ++ [((r : Int), lo, hi)]) = hi + 2 := by
 unfold q1a
 rw [List.getLast?_append]
 simp
theorem qz7 {vec : List Int} {r : Nat} (hr : r ≤ 15) : ∀ (xs : List Rn) (sf : List Sn), xs.Pairwise qlk → (∀ x ∈ xs, okR x) → 0 ≤ q37 sf → q37 sf ≤ (r : Int) → (∀ x ∈ xs, q1a vec r sf ≤ x.1) → CldF vec sf (xs.map (q3n r))
 | [], sf, _, _, _, _, _ => trivial
 | x :: xs, sf, hp, ho, h1, h2, h3 => by
  rw [List.pairwise_cons] at hp
  have hx := ho x (by simp)
  unfold okR at hx
  refine ⟨⟨h1, h2, by simp only [q3n]; omega, ?_, by simp only [q3n]; omega, by simp only [q3n]; omega⟩, qz7 hr xs _ hp.2 (fun y hy => ho y (by simp [hy])) ?_ ?_ fun y hy => ?_⟩
  ·simp only [q3n, Int.toNat_natCast]
   exact h3 x (by simp)
  ·rw [q4x]
   simp only [q3n]
   omega
  ·rw [q4x]
   simp only [q3n]
   omega
  ·have := hp.1 y hy
   unfold qlk at this
   unfold q3n
   rw [qmc]
   omega
theorem qki (t : Tab) : ∀ n, n ≤ 16 → CldF (q64 t).vec [] (q1c t n) ∧ ∀ s ∈ q1c t n, 0 ≤ s.1 ∧ s.1 < (n : Int)
 | 0, _ => ⟨trivial, fun s hs => by simp [q1c] at hs⟩
 | n + 1, hn => by
  obtain ⟨h1, h2⟩ := qki t n (by omega)
  obtain ⟨l1, l2, l3, l4⟩ := qek t n
  rw [q4a]
  have hrep : 0 ≤ q37 (q1c t n) ∧ q37 (q1c t n) ≤ (n : Int) := by
   unfold q37
   cases hg : (q1c t n).getLast? with
   | none => simp only; omega
   | some s => have := h2 s (List.mem_of_getLast? hg); simp only; omega
  have hle : q1a (q64 t).vec n (q1c t n) = q5g t n + 2 := by
   rw [← lowI_T t (by omega : n < 16)]
   unfold q1a
   cases hg : (q1c t n).getLast? with
   | none => rfl
   | some s =>
    have := h2 s (List.mem_of_getLast? hg)
    simp only
    rw [if_neg (by omega)]
  refine ⟨qz9 h1 ?_, fun s hs => ?_⟩
  ·rw [List.nil_append]
   refine qz7 (by omega) _ _ l3 (fun x hx => (l4 x hx).1) hrep.1 hrep.2 fun x hx => ?_
   rw [hle]
   exact (l4 x hx).2
  ·rcases List.mem_append.1 hs with hs | hs
   ·have := h2 s hs; omega
   ·simp only [q5l, List.mem_map] at hs
    obtain ⟨x, _, rfl⟩ := hs
    simp only [q3n]
    omega
theorem pastT_PF (t : Tab) : PF (q64 t) := by
 refine ⟨?_, fun x hx => ?_, (qki t 16 (Nat.le_refl _)).1⟩
 ·show ((q26 t 16).take (q2x t 16)).length ≤ 16
  rw [List.length_take, q2e]
  omega
 ·have hx : x ∈ q26 t 16 := List.mem_of_mem_take hx
  simp only [q26, List.mem_map] at hx
  obtain ⟨r, _, rfl⟩ := hx
  exact ⟨(qek t r).1, (qek t r).2.1⟩
theorem q71 {p : Pst} (h : q15 p = true) : PF p := by
 have := q5h.1 h
 unfold CanP at this
 rw [← this]
 exact pastT_PF _
theorem qz8 {vec : List Int} : ∀ {l sf : List Sn} {i : Nat} {s : Sn}, CldF vec sf l → l[i]? = some s → spanF vec (sf ++ l.take i) s
 | [], sf, i, s, _, h => by simp at h
 | x :: l, sf, 0, s, hc, h => by simp at h; subst h; simpa using hc.1
 | x :: l, sf, i + 1, s, hc, h => by
  have := qz8 hc.2 (by simpa using h)
  simpa using this
theorem zci {vec : List Int} (hv : okVr vec) : ∀ {l sf : List Sn}, okCr sf → CldF vec sf l → okCr (sf ++ l)
 | [], sf, h, _ => by simpa using h
 | x :: l, sf, h, hc => by
  have := zci hv (qjh hv h hc.1) hc.2
  simpa using this
theorem PF.pw {p : Pst} (h : PF p) (hl : p.cloud.length ≤ 1000000000) : PW p := by
 have hcr : okCr p.cloud := by simpa using zci h.v (fun s hs => by cases hs) h.c
 have := h.vl
 refine ⟨by omega, h.v, hl, hcr, fun i s hs => ?_⟩
 have h1 := qz8 h.c hs
 rw [List.nil_append] at h1
 obtain ⟨q1, q2, q3, q4, q5, q6⟩ := h1
 exact ⟨q1, q2, by omega, q4, q5, q6⟩
theorem EntsF_of {l : List Ent} : ∀ {sf : List Ent}, (∀ (i : Nat) e, l[i]? = some e → entF (sf ++ l.take i) e) → zch sf l := by
 induction l with
 | nil => intro sf _; trivial
 | cons x l ih =>
  intro sf h
  refine ⟨by simpa using h 0 x rfl, ih fun i e he => ?_⟩
  have := h (i + 1) e (by simpa using he)
  simpa using this
theorem qbo {e : Ent} (h : q3p e = 0) : 0 ≤ e.rep ∧ e.rep ≤ 15 ∧ 1 ≤ e.num ∧ e.num ≤ 1000000000 ∧ q69 e.sku = true ∧ 1 ≤ e.qty ∧ e.qty ≤ 1000000 := by
 unfold q3p at h
 by_cases h1 : e.rep < 0 ∨ 16 ≤ e.rep
 ·rw [if_pos h1] at h; omega
 ·rw [if_neg h1] at h
  by_cases h2 : e.num < 1 ∨ 1000000000 < e.num
  ·rw [if_pos h2] at h; omega
  ·rw [if_neg h2] at h
   by_cases h3 : q69 e.sku = false
   ·rw [if_pos h3] at h; omega
   ·rw [if_neg h3] at h
    by_cases h4 : e.qty < 1 ∨ 1000000 < e.qty
    ·rw [if_pos h4] at h; omega
    ·refine ⟨by omega, by omega, by omega, by omega, by simpa using h3, by omega, by omega⟩
theorem q8x {s : ByteArray} (h : q69 s = true) : 1 ≤ s.size ∧ s.size ≤ 24 := by
 unfold q69 qfa at h
 by_cases h1 : s.size = 0
 ·rw [if_pos h1] at h; simp at h
 ·rw [if_neg h1] at h
  by_cases h2 : 24 < s.size
  ·rw [if_pos h2] at h; simp at h
  ·omega
theorem qd1 {l : List Ent} (h : q4c l = true) (i : Nat) (e : Ent) (he : l[i]? = some e) : entF (l.take i) e := by
 obtain ⟨h1, h2⟩ := qjs.1 h
 obtain ⟨a1, a2, a3, a4, a5, a6, a7⟩ := qbo (h1 i e he)
 have a8 := q8x a5
 cases i with
 | zero =>
  refine ⟨by simp [q9d], by simp [q9d]; omega, a2, by simp [q4p], by simp [q4p], ?_, a4, a8.2, a6, by omega⟩
  unfold q3w
  simp only [List.take_zero, q9d, q4p, List.getLast?_nil, ite_self]
  omega
 | succ j =>
  have hlt : j + 1 < l.length := (List.getElem?_eq_some_iff.1 he).1
  have hg : l[j]? = some (l[j]) := List.getElem?_eq_getElem (by omega)
  obtain ⟨b1, b2, b3, b4, b5, b6, b7⟩ := qbo (h1 j _ hg)
  have hd := h2 j _ _ hg he
  rw [q21 hg]
  generalize l[j] = x at *
  have hdl : x.rep < e.rep ∨ (x.rep = e.rep ∧ x.num < e.num) := by
   unfold q5x Ent.dot at hd
   simpa using hd
  refine ⟨by rw [q4w]; omega, by rw [q4w]; omega, a2, by rw [q3x]; omega, by rw [q3x]; omega, ?_, a4, a8.2, a6, by omega⟩
  unfold q3w
  rw [q4w, q3x]
  split <;> omega
theorem qmh {l : List Ent} (h : q4c l = true) : zch [] l := EntsF_of fun i e he => by
 rw [List.nil_append]
 exact qd1 h i e he
theorem qye {l : List Ent} (hl : l.length ≤ 100000000) (h : q4c l = true) : EW l := ⟨hl, fun i e he => by
 obtain ⟨q1, q2, q3, q4, q5, q6, q7, q8, q9, q10⟩ := qd1 h i e he
 exact ⟨q1, q2, by omega, q4, by omega, q6, q7, by omega, q9, by omega⟩⟩
theorem formE_sz {l : List Ent} (h : q4c l = true) : ∀ e ∈ l, 1 ≤ e.sku.size ∧ e.qty ≤ 1000000 := fun e he => by
 obtain ⟨i, hi⟩ := List.mem_iff_getElem?.1 he
 obtain ⟨a1, a2, a3, a4, a5, a6, a7⟩ := qbo ((qjs.1 h).1 i e hi)
 exact ⟨(q8x a5).1, a7⟩
theorem size_empty : q7s ⟨[], []⟩ = 0 := by
 have h : q27 [⟨[], []⟩] = List.replicate 16 [] := by decide
 have n0 : q12 [] = [] := q1o Can.nil
 unfold q7s q1v
 rw [h]
 have : ∀ r, (List.replicate 16 ([] : List Rn)).getD r [] = [] := fun r => by
  rw [List.getD_eq_getElem?_getD, List.getElem?_replicate]
  split <;> rfl
 simp only [this, n0]
 rfl
theorem qeo {l : List Rec} (h : q4z l = true) : ∀ r ∈ l, (r.sku.size ≤ 24 ∧ PF r.past) ∧ (r.past.vec ≠ [] ∨ r.past.cloud ≠ []) := fun r hr => by
 obtain ⟨i, hi⟩ := List.mem_iff_getElem?.1 hr
 have he := (zb8.1 h).1 i r hi
 unfold q3o at he
 by_cases h1 : ¬ r.sku.size = 0 ∧ q69 r.sku = false
 ·rw [if_pos h1] at he; omega
 ·rw [if_neg h1] at he
  by_cases h2 : q15 r.past = false ∨ q7s r.past = 0
  ·rw [if_pos h2] at he; omega
  ·have hn : q15 r.past = true := by
    cases hq : q15 r.past with
    | true => rfl
    | false => exact absurd (.inl hq) h2
   refine ⟨⟨?_, q71 hn⟩, ?_⟩
   ·by_cases h0 : r.sku.size = 0
    ·omega
    ·refine (q8x ?_).2
     cases hg : q69 r.sku with
     | true => rfl
     | false => exact absurd ⟨h0, hg⟩ h1
   ·by_cases hv : r.past.vec = []
    ·refine .inr fun hc => h2 (.inr ?_)
     obtain ⟨s, ⟨v, c⟩⟩ := r
     simp only at hv hc
     subst hv
     subst hc
     exact size_empty
    ·exact .inl hv

def z1m : List SOp := [zO 2 (.box 25 (.tmp 0)),zO 4 (.assign (.const (.int .i64 0)))]
instance : Live z1m := ⟨[0,1]⟩
def z1l : List SOp := [zM 5 1,zF 6 25 2 0,zL 7 22 6,zO 8 (.call ⟨.builtin .len,#[.tmp 7],#[22]⟩),zO 9 (.binOp .lss 3 (.tmp 5) (.tmp 8) 3)]
instance : Live z1l := ⟨[1,2]⟩
def z1k : List SOp := [zF 10 25 2 0,zL 11 22 10,zM 12 1,zI 13 22 11 12,zL 14 3 13,zG 4 14]
instance : Live z1k := ⟨[1,2]⟩
def z1j : List SOp := [zO 4 (.assign (.const (.int .i64 0)))]
instance : Live z1j := ⟨[]⟩
def t_k99 : SC :=
 (.seq (.ops false z1m) (.seq (.seq (.ops false z1l) (.cond (.tmp 9) (.seq (.ops false z1k) .ret) .skip)) (.seq (.ops false z1j) .ret)))
theorem it_k99 : FnIs Tryz.prog 99 15 [.tmp 4] t_k99 := ⟨Tryz.f99, _, Tryz.func99, rfl, rfl, rfl, rfl, by kernel_rfl⟩

def z5y : List SOp := [zO 3 (.box 25 (.tmp 1)),zO 4 (.assign (.const (.slice none 0 0)))]
instance : Live z5y := ⟨[0,1]⟩
def z5x : List SOp := [zM 11 0,zF 12 25 3 0,zL 13 22 12,zO 14 (.call ⟨.builtin .len,#[.tmp 13],#[22]⟩),zO 15 (.call ⟨.value (.func 55),#[.tmp 11,.tmp 14],#[28,3]⟩),zG 0 15]
instance : Live z5x := ⟨[0,3]⟩
def z5w : List SOp := [zO 5 (.assign (.const (.int .i64 0)))]
instance : Live z5w := ⟨[0,3]⟩
def z5v : List SOp := [zM 16 5,zF 17 25 3 0,zL 18 22 17,zO 19 (.call ⟨.builtin .len,#[.tmp 18],#[22]⟩),zO 20 (.binOp .lss 3 (.tmp 16) (.tmp 19) 3)]
instance : Live z5v := ⟨[0,3,5]⟩
def z5u : List SOp := [zM 23 0,zF 24 25 3 0,zL 25 22 24,zM 26 5,zI 27 22 25 26,zL 28 3 27,zO 29 (.call ⟨.value (.func 55),#[.tmp 23,.tmp 28],#[28,3]⟩),zG 0 29]
instance : Live z5u := ⟨[0,3,5]⟩
def z5t : List SOp := [zM 21 5,zO 22 (.binOp .add 3 (.tmp 21) (.const (.int .i64 1)) 3),zG 5 22]
instance : Live z5t := ⟨[0,3,5]⟩
def z5s : List SOp := [zM 30 0,zF 31 25 3 1,zL 32 23 31,zO 33 (.call ⟨.builtin .len,#[.tmp 32],#[23]⟩),zO 34 (.call ⟨.value (.func 55),#[.tmp 30,.tmp 33],#[28,3]⟩),zG 0 34]
instance : Live z5s := ⟨[0,3]⟩
def z5r : List SOp := [zO 6 (.assign (.const (.int .i64 0))),zO 7 (.assign (.const (.int .i64 0)))]
instance : Live z5r := ⟨[0,3]⟩
def z5q : List SOp := [zO 8 (.assign (.const (.int .i64 0)))]
instance : Live z5q := ⟨[0,3,6,7]⟩
def qpo : List SOp := [zM 35 8,zF 36 25 3 1,zL 37 23 36,zO 38 (.call ⟨.builtin .len,#[.tmp 37],#[23]⟩),zO 39 (.binOp .lss 3 (.tmp 35) (.tmp 38) 3)]
instance : Live qpo := ⟨[0,3,6,7,8]⟩
def qpn : List SOp := [zF 42 25 3 1,zL 43 23 42,zM 44 8,zI 45 23 43 44,zL 46 82 45,zO 9 (.alloc 82),⟨none,.store 82 (.tmp 9) (.tmp 46),none⟩]
instance : Live qpn := ⟨[0,3,6,7,8]⟩
def qpm : List SOp := [zL 47 25 3,zF 48 82 9 0,zL 49 3 48,zO 50 (.call ⟨.value (.func 99),#[.tmp 47,.tmp 49],#[25,3]⟩),zO 51 (.binOp .add 3 (.tmp 50) (.const (.int .i64 2)) 3),zG 10 51]
instance : Live qpm := ⟨[0,3,6,7,8,9]⟩
def qpl : List SOp := [zM 52 8,zO 53 (.binOp .gtr 3 (.tmp 52) (.const (.int .i64 0)) 3),zM 54 53,⟨some 55,.fieldAddr 82 (.tmp 9) 0,some ((some 54),true)⟩,⟨some 56,.load 3 (.tmp 55),some ((some 54),true)⟩,⟨some 57,.move (.tmp 6),some ((some 54),true)⟩,⟨some 58,.binOp .eql 3 (.tmp 56) (.tmp 57) 3,some ((some 54),true)⟩,zO 59 (.pick (.tmp 54) (.tmp 58) (.const (.bool false)))]
instance : Live qpl := ⟨[0,3,6,7,8,9,10]⟩
def qpk : List SOp := [zM 60 7,zO 61 (.binOp .add 3 (.tmp 60) (.const (.int .i64 2)) 3),zG 10 61]
instance : Live qpk := ⟨[0,3,6,7,8,9]⟩
def qpj : List SOp := [zM 62 0,zF 63 82 9 0,zL 64 3 63,zM 65 6,zO 66 (.binOp .sub 3 (.tmp 64) (.tmp 65) 3),zO 67 (.call ⟨.value (.func 55),#[.tmp 62,.tmp 66],#[28,3]⟩),zG 0 67]
instance : Live qpj := ⟨[0,3,6,8,9,10]⟩
def qpi : List SOp := [zM 68 0,zF 69 82 9 1,zL 70 3 69,zM 71 10,zO 72 (.binOp .sub 3 (.tmp 70) (.tmp 71) 3),zO 73 (.call ⟨.value (.func 55),#[.tmp 68,.tmp 72],#[28,3]⟩),zG 0 73]
instance : Live qpi := ⟨[0,3,8,9,10]⟩
def qph : List SOp := [zM 74 0,zF 75 82 9 2,zL 76 3 75,zF 77 82 9 1,zL 78 3 77,zO 79 (.binOp .sub 3 (.tmp 76) (.tmp 78) 3),zO 80 (.call ⟨.value (.func 55),#[.tmp 74,.tmp 79],#[28,3]⟩),zG 0 80]
instance : Live qph := ⟨[0,3,8,9]⟩
def qpg : List SOp := [zF 81 82 9 0,zL 82 3 81,zF 83 82 9 2,zL 84 3 83,zG 6 82,zG 7 84]
instance : Live qpg := ⟨[0,3,8,9]⟩
def qpf : List SOp := [zM 40 8,zO 41 (.binOp .add 3 (.tmp 40) (.const (.int .i64 1)) 3),zG 8 41]
instance : Live qpf := ⟨[0,3,6,7,8]⟩
def qpe : List SOp := [zM 85 0,zG 4 85]
instance : Live qpe := ⟨[0]⟩
def qnt : SC :=
 (.seq (.seq (.ops false z5v) (.cond (.tmp 20) .skip (.exit 0))) (.seq (.block 1 (.ops false z5u)) (.ops false z5t)))
def qns : SC :=
 (.seq (.seq (.ops false qpo) (.cond (.tmp 39) .skip (.exit 2))) (.seq (.block 3 (.seq (.ops false qpn) (.seq (.ops false qpm) (.seq (.seq (.ops false qpl) (.cond (.tmp 59) (.ops false qpk) .skip)) (.seq (.ops false qpj) (.seq (.ops false qpi) (.seq (.ops false qph) (.ops true qpg)))))))) (.ops false qpf)))
def t_k54 : SC :=
 (.seq (.ops false z5y) (.seq (.ops false z5x) (.seq (.seq (.ops false z5w) (.block 0 (.loop qnt))) (.seq (.ops false z5s) (.seq (.ops false z5r) (.seq (.seq (.ops false z5q) (.block 2 (.loop qns))) (.seq (.ops false qpe) .ret)))))))
theorem it_k54 : FnIs Tryz.prog 54 86 [.tmp 4] t_k54 := ⟨Tryz.f54, _, Tryz.func54, rfl, rfl, rfl, rfl, by kernel_rfl⟩

def z90 : List SOp := [zO 1 (.box 25 (.tmp 0)),zO 2 (.assign (.const (.slice none 0 0))),zO 3 (.assign (.const (.int .i64 0)))]
instance : Live z90 := ⟨[0]⟩
def z8z : List SOp := [zL 4 25 1,zO 5 (.call ⟨.value (.func 22),#[.tmp 4],#[25]⟩),zO 6 (.unOp .not 4 (.tmp 5))]
instance : Live z8z := ⟨[1]⟩
def z8y : List SOp := [zO 2 (.assign (.const (.slice none 0 0))),zO 3 (.assign (.const (.int .i64 1)))]
instance : Live z8y := ⟨[]⟩
def z8x : List SOp := [zL 7 25 1,zO 8 (.call ⟨.value (.func 54),#[.const (.slice none 0 0),.tmp 7],#[28,25]⟩),zG 2 8,zO 3 (.assign (.const (.int .i64 0)))]
instance : Live z8x := ⟨[1]⟩
def t_k18 : SC :=
 (.seq (.ops false z90) (.seq (.seq (.ops false z8z) (.cond (.tmp 6) (.seq (.ops false z8y) .ret) .skip)) (.seq (.ops false z8x) .ret)))
theorem it_k18 : FnIs Tryz.prog 18 9 [.tmp 2, .tmp 3] t_k18 := ⟨Tryz.f18, _, Tryz.func18, rfl, rfl, rfl, rfl, by kernel_rfl⟩

theorem ev_k99 (p : Pst) (r : Nat) (hv : okVr p.vec) (hl : p.vec.length ≤ 1000000000) : Ev (En Tryz.prog rfl).P 99 [q1k p, .int .i64 (r : Int)] (.ret (.int .i64 (qjn p.vec r - 2))) := by
 refine Ev.of_body it_k99 (by simp) (Run.start ?_)
 unfold t_k99 q1k qjn
 have e1 := q0b p.vec
 by_cases hlt : r < p.vec.length
 ·have g1 : p.vec[r]? = some p.vec[r] := List.getElem?_eq_getElem hlt
  have g2 := q0q g1
  have hlt2 : (r : Int) < (p.vec.length : Int) := by omega
  rw [g1]
  simp only
  generalize p.vec[r] = z at *
  rw [show z + 2 - 2 = z by omega]
  (focus (have hF := (aI @e1 (aI @hlt2 @g2)); (repeat' (first | refine go1 (k:=?_) | with_reducible refine Ny.of ?_ ?_ | (refine Hyp.of ?_; intro hc; (try simp only [hc]); (try simp only [Bh] at hc)))); all_goals clear hF))
  exact Fin.tmp' rfl rfl
 ·rw [List.getElem?_eq_none (by omega)]
  have hlt2 : ¬ (r : Int) < (p.vec.length : Int) := by omega
  simp only
  (focus (have hF := (aI @e1 @hlt2); (repeat' (first | refine go1 (k:=?_) | with_reducible refine Ny.of ?_ ?_ | (refine Hyp.of ?_; intro hc; (try simp only [hc]); (try simp only [Bh] at hc)))); all_goals clear hF))
  exact Fin.tmp' rfl rfl
def hiAt (l : List Sn) : Int := match l.getLast? with | some s => s.2.2 | none => 0
theorem zb1 (l : List Sn) (s : Sn) : hiAt (l ++ [s]) = s.2.2 := by simp [hiAt]
theorem zat {vec : List Int} {r : Nat} {l : List Sn} : q1a vec r l = if 0 < l.length ∧ q37 l = (r : Int) then hiAt l + 2 else qjn vec r := by
 unfold q1a q37 hiAt
 rcases List.eq_nil_or_concat l with rfl | ⟨m, s, rfl⟩
 ·simp
 ·simp only [List.concat_eq_append, List.getLast?_append, List.getLast?_singleton, Option.some_or, List.length_append, List.length_singleton]
  by_cases h : s.1 = (r : Int)
  ·rw [if_pos h, if_pos ⟨by omega, h⟩]
  ·rw [if_neg h, if_neg (fun e => h e.2)]
theorem q62 (b : Bs) (p : Pst) (hb : b.length ≤ 700000000000) (hp : PW p) {Q : Ex → AS → Prop} (hQ : ∀ (s : AS) (e : Nat), s.T 4 = .os 0 e → s.M 0 = some (.arr e 1 (q1f (b ++ q34 p))) → Q .ret s) :
 Run (En Tryz.prog rfl) 86 Q t_k54 .done ⟨tms [(0, .os 0 0), (1, q1k p)], mms [(0, .arr 0 1 (q1f b))]⟩ := by
 unfold t_k54 q1k
 have e1 := q0b p.vec
 have e2 := q16 p.cloud
 have hvl := hp.vl
 have hcl := hp.cl
 (focus (have hF := (aI @e1 @e2); (repeat' (first | refine go1 (k:=?_) | with_reducible refine Ny.of ?_ ?_ | (refine Hyp.of ?_; intro hc; (try simp only [hc]); (try simp only [Bh] at hc)))); all_goals clear hF))
 refine q0s (args' := [.undef, .int .i64 (p.vec.length : Int)]) 0 0 rfl rfl rfl rfl rfl (q01 _) (q01 _) (q0l b p.vec.length (by omega) (by omega)) ?_
 have l1 := q08 (n := p.vec.length) (by omega)
 have l2 := q08 (n := p.cloud.length) (by omega)
 generalize hb1 : b ++ q0u p.vec.length = b1
 have hl1 : b1.length ≤ b.length + 10 := by rw [← hb1, List.length_append]; omega
 (focus (have hF := (aI @e1 @e2); (repeat' (first | refine go1 (k:=?_) | with_reducible refine Ny.of ?_ ?_ | (refine Hyp.of ?_; intro hc; (try simp only [hc]); (try simp only [Bh] at hc)))); all_goals clear hF))
 refine Run.while (σ := Nat) (fun i => ⟨tms [(0, .os 0 (1 + i)), (3, .ptr 3 0), (5, .int .i64 (i : Int))], mms [(0, .arr (1 + i) 1 (q1f (b1 ++ q9k (p.vec.take i)))), (3, .cells [.sl 1 (q04 p.vec), .sl 3 (q0e p.cloud)])]⟩)
  (fun i => i ≤ p.vec.length) (fun i => p.vec.length - i) 0 (have hW := (aI @qn8 @List.append_nil.{0}); q0v) (Nat.zero_le _) ?_
 intro i hi
 unfold qnt
 have hvb : (q9k (p.vec.take i)).length ≤ 10 * i := by
  have := qdj (l := p.vec.take i) (fun x hx => by have := hp.v x (List.mem_of_mem_take hx); omega)
  rw [List.length_take] at this
  omega
 by_cases hlt : i < p.vec.length
 ·have hlt2 : (i : Int) < (p.vec.length : Int) := by omega
  have hg : p.vec[i]? = some (p.vec[i]) := List.getElem?_eq_getElem hlt
  have hx := hp.v _ (List.getElem_mem hlt)
  obtain ⟨n, hn⟩ : ∃ n : Nat, p.vec[i] = (n : Int) := ⟨p.vec[i].toNat, by omega⟩
  rw [hn] at hg hx
  have g1 := q0q hg
  have hsn : b1 ++ q9k (p.vec.take (i + 1)) = b1 ++ q9k (p.vec.take i) ++ q0u n := by rw [q21 hg, qff, List.append_assoc]; rfl
  have w1 := q0t (i := i) (by omega)
  have x1 : 1 + (i + 1) = 1 + i + 1 := by omega
  (focus (have hF := (aI (aI @e1 @e2) (aI @hlt2 @g1)); (repeat' (first | refine go1 (k:=?_) | with_reducible refine Ny.of ?_ ?_ | (refine Hyp.of ?_; intro hc; (try simp only [hc]); (try simp only [Bh] at hc)))); all_goals clear hF))
  refine q0s (args' := [.undef, .int .i64 (n : Int)]) 0 0 rfl rfl rfl rfl rfl (q01 _) (q01 _) (q0l _ n (by simp only [List.length_append]; omega) (by omega)) ?_
  rw [← hsn]
  (focus (have hF := (aI @e1 (aI @e2 @w1)); (repeat' (first | refine go1 (k:=?_) | with_reducible refine Ny.of ?_ ?_ | (refine Hyp.of ?_; intro hc; (try simp only [hc]); (try simp only [Bh] at hc)))); all_goals clear hF))
  (refine Fin.nextW (i + 1) ?_ (have hW := @x1; q0v); (try dsimp only))
  omega
 ·have hin : i = p.vec.length := by omega
  subst hin
  have hlt2 : ¬ (p.vec.length : Int) < (p.vec.length : Int) := by omega
  rw [List.take_length] at hvb ⊢
  generalize hb2 : b1 ++ q9k p.vec = b2
  have hl2 : b2.length ≤ b1.length + 10 * p.vec.length := by rw [← hb2, List.length_append]; omega
  generalize he0 : 1 + p.vec.length = e0
  (focus (have hF := (aI @e1 (aI @e2 @hlt2)); (repeat' (first | refine go1 (k:=?_) | with_reducible refine Ny.of ?_ ?_ | (refine Hyp.of ?_; intro hc; (try simp only [hc]); (try simp only [Bh] at hc)))); all_goals clear hF))
  refine q0s (args' := [.undef, .int .i64 (p.cloud.length : Int)]) 0 0 rfl rfl rfl rfl rfl (q01 _) (q01 _) (q0l b2 p.cloud.length (by omega) (by omega)) ?_
  generalize hb3 : b2 ++ q0u p.cloud.length = b3
  have hl3 : b3.length ≤ b2.length + 10 := by rw [← hb3, List.length_append]; omega
  have hfin : b3 ++ q1z p.vec [] p.cloud = b ++ q34 p := by rw [← hb3, ← hb2, ← hb1]; simp [q34]
  (focus (have hF := (aI @e1 @e2); (repeat' (first | refine go1 (k:=?_) | with_reducible refine Ny.of ?_ ?_ | (refine Hyp.of ?_; intro hc; (try simp only [hc]); (try simp only [Bh] at hc)))); all_goals clear hF))
  refine Run.while (σ := Nat) (fun i => ⟨tms [(0, .os 0 (e0 + 1 + 3 * i)), (3, .ptr 3 0), (6, .int .i64 (q37 (p.cloud.take i))), (7, .int .i64 (hiAt (p.cloud.take i))), (8, .int .i64 (i : Int))], mms [(0, .arr (e0 + 1 + 3 * i) 1 (q1f (b3 ++ q1z p.vec [] (p.cloud.take i)))), (3, .cells [.sl 1 (q04 p.vec), .sl 3 (q0e p.cloud)])]⟩)
   (fun i => i ≤ p.cloud.length) (fun i => p.cloud.length - i) 0 (have hW := (aI @qda @List.append_nil.{0}); q0v) (Nat.zero_le _) ?_
  intro i hi
  unfold qns
  have hcb := q6u hp i hi
  by_cases hlt : i < p.cloud.length
  ·have hlt2 : (i : Int) < (p.cloud.length : Int) := by omega
   have hg : p.cloud[i]? = some (p.cloud[i]) := List.getElem?_eq_getElem hlt
   have g1 := q1x hg
   obtain ⟨q1, q2, q3, q4, q5, q6⟩ := hp.s i _ hg
   have hsn := q21 hg
   generalize p.cloud[i] = s at hg g1 q1 q2 q3 q4 q5 q6 hsn
   obtain ⟨sr, lo, hi'⟩ := s
   simp only at q1 q2 q3 q4 q5 q6
   obtain ⟨r, rfl⟩ : ∃ r : Nat, sr = (r : Int) := ⟨sr.toNat, by omega⟩
   simp only [Int.toNat_natCast] at q4
   obtain ⟨q7, q8⟩ := hp.least i r
   have g2 : (q0e p.cloud)[i]? = some (.agg [.int .i64 (r : Int), .int .i64 lo, .int .i64 hi']) := g1
   have hra : q37 (p.cloud.take (i + 1)) = (r : Int) := by rw [hsn, q4x]
   have hha : hiAt (p.cloud.take (i + 1)) = hi' := by rw [hsn, zb1]
   have hli : q1a p.vec r (p.cloud.take i) = if 0 < i ∧ q37 (p.cloud.take i) = (r : Int) then hiAt (p.cloud.take i) + 2 else qjn p.vec r := by
    rw [zat, List.length_take, Nat.min_eq_left hi]
   have hlow : 2 ≤ qjn p.vec r ∧ qjn p.vec r ≤ 1000000002 := by
    have := q66 (rep := r) hp.v (cl := []) (fun s hs => by cases hs)
    simpa [q1a] using this
   have hsp : qan p.vec (p.cloud.take i) ((r : Int), lo, hi') = q0u ((r : Int) - q37 (p.cloud.take i)).toNat ++ (q0u (lo - q1a p.vec r (p.cloud.take i)).toNat ++ q0u (hi' - lo).toNat) := by
    simp only [qan, Int.toNat_natCast]
   have c1 := ev_k99 p r hp.v hvl
   have hb5 : b3 ++ q1z p.vec [] (p.cloud.take (i + 1)) = b3 ++ q1z p.vec [] (p.cloud.take i) ++ q0u ((r : Int) - q37 (p.cloud.take i)).toNat ++ q0u (lo - q1a p.vec r (p.cloud.take i)).toNat ++ q0u (hi' - lo).toNat := by
    rw [hsn, q5m, List.nil_append, hsp]
    simp
   generalize hrp : q37 (p.cloud.take i) = rp at *
   generalize hhp : hiAt (p.cloud.take i) = hp' at *
   generalize hls : q1a p.vec r (p.cloud.take i) = ls at *
   generalize qjn p.vec r = lw at *
   generalize hb4 : b3 ++ q1z p.vec [] (p.cloud.take i) = b4 at *
   have hl4 : b4.length ≤ b3.length + 30 * i := by rw [← hb4, List.length_append]; omega
   have w0 : IntKind.i64.wrap (lw - 2 + 2) = lw := by rw [q0a (by omega)]; omega
   have w1 : IntKind.i64.wrap ((r : Int) - rp) = ((((r : Int) - rp).toNat : Nat) : Int) := by rw [q0a (by omega)]; omega
   have w2 : IntKind.i64.wrap (lo - ls) = (((lo - ls).toNat : Nat) : Int) := by rw [q0a (by omega)]; omega
   have w3 : IntKind.i64.wrap (hi' - lo) = (((hi' - lo).toNat : Nat) : Int) := by rw [q0a (by omega)]; omega
   have n1 := q08 (n := ((r : Int) - rp).toNat) (by omega)
   have n2 := q08 (n := (lo - ls).toNat) (by omega)
   have o1 : ((r : Int) - rp).toNat < 9223372036854775808 := by omega
   have o2 : (lo - ls).toNat < 9223372036854775808 := by omega
   have o3 : (hi' - lo).toNat < 9223372036854775808 := by omega
   have x1 := q0t (i := i) (by omega)
   have x2 : e0 + 1 + 3 * (i + 1) = e0 + 1 + 3 * i + 1 + 1 + 1 := by omega
   (focus (have hF := (aI (aI @e1 @e2) (aI @hlt2 @g2)); (repeat' (first | refine go1 (k:=?_) | with_reducible refine Ny.of ?_ ?_ | (refine Hyp.of ?_; intro hc; (try simp only [hc]); (try simp only [Bh] at hc)))); all_goals clear hF))
   refine q05 [q1k p, .int .i64 (r : Int)] (he := c1) (k:=?_)
   generalize ((r : Int) - rp).toNat = m1 at *
   generalize (lo - ls).toNat = m2 at *
   generalize hm3 : (hi' - lo).toNat = m3 at *
   by_cases h0 : 0 < i
   ·have h0' : (i : Int) > 0 := by omega
    by_cases hrr : rp = (r : Int)
    ·rw [if_pos ⟨h0, hrr⟩] at hli
     have hrr2 : ((r : Int) = rp) = True := eq_true hrr.symm
     have w4 : IntKind.i64.wrap (hp' + 2) = ls := by rw [q0a (by omega)]; omega
     (focus (have hF := (aI (aI @w0 @h0') (aI @hrr2 (aI @w1 @w4))); (repeat' (first | refine go1 (k:=?_) | with_reducible refine Ny.of ?_ ?_ | (refine Hyp.of ?_; intro hc; (try simp only [hc]); (try simp only [Bh] at hc)))); all_goals clear hF))
     refine q0s (args' := [.undef, .int .i64 (m1 : Int)]) 0 0 rfl rfl rfl rfl rfl (q01 _) (q01 _) (q0l b4 m1 (by omega) o1) ?_
     (focus (have hF := @w2; (repeat' (first | refine go1 (k:=?_) | with_reducible refine Ny.of ?_ ?_ | (refine Hyp.of ?_; intro hc; (try simp only [hc]); (try simp only [Bh] at hc)))); all_goals clear hF))
     refine q0s (args' := [.undef, .int .i64 (m2 : Int)]) 0 0 rfl rfl rfl rfl rfl (q01 _) (q01 _) (q0l (b4 ++ q0u m1) m2 (by simp only [List.length_append]; omega) o2) ?_
     (focus (have hF := @w3; (repeat' (first | refine go1 (k:=?_) | with_reducible refine Ny.of ?_ ?_ | (refine Hyp.of ?_; intro hc; (try simp only [hc]); (try simp only [Bh] at hc)))); all_goals clear hF))
     refine q0s (args' := [.undef, .int .i64 (m3 : Int)]) 0 0 rfl rfl rfl rfl rfl (q01 _) (q01 _) (q0l (b4 ++ q0u m1 ++ q0u m2) m3 (by simp only [List.length_append]; omega) o3) ?_
     rw [← hb5]
     (focus (have hF := @x1; (repeat' (first | refine go1 (k:=?_) | with_reducible refine Ny.of ?_ ?_ | (refine Hyp.of ?_; intro hc; (try simp only [hc]); (try simp only [Bh] at hc)))); all_goals clear hF))
     (refine Fin.nextW (i + 1) ?_ (have hW := (aI @hra (aI @hha @x2)); q0v); (try dsimp only))
     omega
    ·rw [if_neg (fun h => hrr h.2)] at hli
     have hrr2 : ((r : Int) = rp) = False := eq_false fun h => hrr h.symm
     subst hli
     (focus (have hF := (aI (aI @w0 @h0') (aI @hrr2 @w1)); (repeat' (first | refine go1 (k:=?_) | with_reducible refine Ny.of ?_ ?_ | (refine Hyp.of ?_; intro hc; (try simp only [hc]); (try simp only [Bh] at hc)))); all_goals clear hF))
     refine q0s (args' := [.undef, .int .i64 (m1 : Int)]) 0 0 rfl rfl rfl rfl rfl (q01 _) (q01 _) (q0l b4 m1 (by omega) o1) ?_
     (focus (have hF := @w2; (repeat' (first | refine go1 (k:=?_) | with_reducible refine Ny.of ?_ ?_ | (refine Hyp.of ?_; intro hc; (try simp only [hc]); (try simp only [Bh] at hc)))); all_goals clear hF))
     refine q0s (args' := [.undef, .int .i64 (m2 : Int)]) 0 0 rfl rfl rfl rfl rfl (q01 _) (q01 _) (q0l (b4 ++ q0u m1) m2 (by simp only [List.length_append]; omega) o2) ?_
     (focus (have hF := @w3; (repeat' (first | refine go1 (k:=?_) | with_reducible refine Ny.of ?_ ?_ | (refine Hyp.of ?_; intro hc; (try simp only [hc]); (try simp only [Bh] at hc)))); all_goals clear hF))
     refine q0s (args' := [.undef, .int .i64 (m3 : Int)]) 0 0 rfl rfl rfl rfl rfl (q01 _) (q01 _) (q0l (b4 ++ q0u m1 ++ q0u m2) m3 (by simp only [List.length_append]; omega) o3) ?_
     rw [← hb5]
     (focus (have hF := @x1; (repeat' (first | refine go1 (k:=?_) | with_reducible refine Ny.of ?_ ?_ | (refine Hyp.of ?_; intro hc; (try simp only [hc]); (try simp only [Bh] at hc)))); all_goals clear hF))
     (refine Fin.nextW (i + 1) ?_ (have hW := (aI @hra (aI @hha @x2)); q0v); (try dsimp only))
     omega
   ·rw [if_neg (fun h => h0 h.1)] at hli
    have h0' : ¬ (i : Int) > 0 := by omega
    subst hli
    (focus (have hF := (aI @w0 (aI @h0' @w1)); (repeat' (first | refine go1 (k:=?_) | with_reducible refine Ny.of ?_ ?_ | (refine Hyp.of ?_; intro hc; (try simp only [hc]); (try simp only [Bh] at hc)))); all_goals clear hF))
    refine q0s (args' := [.undef, .int .i64 (m1 : Int)]) 0 0 rfl rfl rfl rfl rfl (q01 _) (q01 _) (q0l b4 m1 (by omega) o1) ?_
    (focus (have hF := @w2; (repeat' (first | refine go1 (k:=?_) | with_reducible refine Ny.of ?_ ?_ | (refine Hyp.of ?_; intro hc; (try simp only [hc]); (try simp only [Bh] at hc)))); all_goals clear hF))
    refine q0s (args' := [.undef, .int .i64 (m2 : Int)]) 0 0 rfl rfl rfl rfl rfl (q01 _) (q01 _) (q0l (b4 ++ q0u m1) m2 (by simp only [List.length_append]; omega) o2) ?_
    (focus (have hF := @w3; (repeat' (first | refine go1 (k:=?_) | with_reducible refine Ny.of ?_ ?_ | (refine Hyp.of ?_; intro hc; (try simp only [hc]); (try simp only [Bh] at hc)))); all_goals clear hF))
    refine q0s (args' := [.undef, .int .i64 (m3 : Int)]) 0 0 rfl rfl rfl rfl rfl (q01 _) (q01 _) (q0l (b4 ++ q0u m1 ++ q0u m2) m3 (by simp only [List.length_append]; omega) o3) ?_
    rw [← hb5]
    (focus (have hF := @x1; (repeat' (first | refine go1 (k:=?_) | with_reducible refine Ny.of ?_ ?_ | (refine Hyp.of ?_; intro hc; (try simp only [hc]); (try simp only [Bh] at hc)))); all_goals clear hF))
    (refine Fin.nextW (i + 1) ?_ (have hW := (aI @hra (aI @hha @x2)); q0v); (try dsimp only))
    omega
  ·have hin : i = p.cloud.length := by omega
   subst hin
   have hlt2 : ¬ (p.cloud.length : Int) < (p.cloud.length : Int) := by omega
   rw [List.take_length, hfin]
   (focus (have hF := (aI @e1 (aI @e2 @hlt2)); (repeat' (first | refine go1 (k:=?_) | with_reducible refine Ny.of ?_ ?_ | (refine Hyp.of ?_; intro hc; (try simp only [hc]); (try simp only [Bh] at hc)))); all_goals clear hF))
   exact Fin.done (hQ _ _ rfl rfl)
theorem qbn (b : Bs) (p : Pst) (hb : b.length ≤ 700000000000) (hp : PW p) : EvOwn (En Tryz.prog rfl).P 54 [.undef, q1k p] 0 1 (q1f b) true .undef (q1f (b ++ q34 p)) := by
 refine EvOwn.of_body it_k54 (by simp) (Run.start ?_)
 unfold q8v
 exact Run.wk (have hW := True.intro; q0v) (q62 b p hb hp fun s e h1 h2 => ⟨e, h1, h2, q01 _⟩)
theorem qbq (p : Pst) (hp : PW p) : EvFresh (En Tryz.prog rfl).P 54 [.nil, q1k p] 1 (q1f (q34 p)) := by
 refine EvFresh.of_body it_k54 (by simp) (Run.start ?_)
 refine Run.wk (Wk.trans (Wk.own_nil 0 0 1 rfl rfl) (have hW := True.intro; q0v)) (q62 [] p (by simp) hp fun s e h1 h2 => ⟨0, e, h1, h2, q01 _⟩)
theorem ev_k18 (p : Pst) (hw : wt p ≤ 30000000) (h : q15 p = true → PW p) : Ev (En Tryz.prog rfl).P 18 [q1k p] (.ret (putR (q15 p) (q34 p))) := by
 refine Ev.of_body it_k18 (by simp) (Run.start ?_)
 unfold t_k18 q1k
 (focus (have hF := @q00; (repeat' (first | refine go1 (k:=?_) | with_reducible refine Ny.of ?_ ?_ | (refine Hyp.of ?_; intro hc; (try simp only [hc]); (try simp only [Bh] at hc)))); all_goals clear hF))
 refine q05 [q1k p] (he := ev_k22 p hw) (k:=?_)
 cases hn : q15 p with
 | false =>
  (focus (have hF := @q00; (repeat' (first | refine go1 (k:=?_) | with_reducible refine Ny.of ?_ ?_ | (refine Hyp.of ?_; intro hc; (try simp only [hc]); (try simp only [Bh] at hc)))); all_goals clear hF))
  exact Fin.two rfl rfl rfl rfl (.inr ⟨rfl, 1, rfl⟩) (.inl rfl)
 | true =>
  have c1 := qbq p (h hn)
  (focus (have hF := @q00; (repeat' (first | refine go1 (k:=?_) | with_reducible refine Ny.of ?_ ?_ | (refine Hyp.of ?_; intro hc; (try simp only [hc]); (try simp only [Bh] at hc)))); all_goals clear hF))
  refine qlf [.nil, q1k p] (he := c1) (k:=?_)
  (focus (have hF := @q00; (repeat' (first | refine go1 (k:=?_) | with_reducible refine Ny.of ?_ ?_ | (refine Hyp.of ?_; intro hc; (try simp only [hc]); (try simp only [Bh] at hc)))); all_goals clear hF))
  exact Fin.two rfl (q01 _) rfl rfl (.inl rfl) (.inl rfl)

def z8w : List SOp := [zO 2 (.assign (.const (.slice none 0 0))),zO 3 (.assign (.const (.int .i64 0)))]
instance : Live z8w := ⟨[0]⟩
def z8v : List SOp := [zM 9 0,zO 10 (.call ⟨.value (.func 16),#[.tmp 9],#[26]⟩),zO 11 (.unOp .not 4 (.tmp 10))]
instance : Live z8v := ⟨[0]⟩
def z8u : List SOp := [zO 2 (.assign (.const (.slice none 0 0))),zO 3 (.assign (.const (.int .i64 1)))]
instance : Live z8u := ⟨[]⟩
def z8t : List SOp := [zM 12 0,zO 13 (.call ⟨.builtin .len,#[.tmp 12],#[26]⟩),zO 14 (.call ⟨.value (.func 55),#[.const (.slice none 0 0),.tmp 13],#[28,3]⟩),zG 4 14]
instance : Live z8t := ⟨[0]⟩
def z8s : List SOp := [zO 5 (.assign (.const (.int .i64 0))),zO 6 (.assign (.const (.int .i64 0)))]
instance : Live z8s := ⟨[0,4]⟩
def z8r : List SOp := [zO 7 (.assign (.const (.int .i64 0)))]
instance : Live z8r := ⟨[0,4,5,6]⟩
def z8q : List SOp := [zM 15 7,zM 16 0,zO 17 (.call ⟨.builtin .len,#[.tmp 16],#[26]⟩),zO 18 (.binOp .lss 3 (.tmp 15) (.tmp 17) 3)]
instance : Live z8q := ⟨[0,4,5,6,7]⟩
def z8p : List SOp := [zM 21 0,zM 22 7,zI 23 26 21 22,zF 24 45 23 0,zL 25 43 24,zO 8 (.alloc 43),⟨none,.store 43 (.tmp 8) (.tmp 25),none⟩]
instance : Live z8p := ⟨[0,4,5,6,7]⟩
def z8o : List SOp := [zF 26 43 8 0,zL 27 3 26,zM 28 5,zO 29 (.binOp .neq 3 (.tmp 27) (.tmp 28) 3)]
instance : Live z8o := ⟨[0,4,5,6,7,8]⟩
def qqa : List SOp := [zO 6 (.assign (.const (.int .i64 0)))]
instance : Live qqa := ⟨[0,4,5,7,8]⟩
def qq9 : List SOp := [zM 30 4,zF 31 43 8 0,zL 32 3 31,zM 33 5,zO 34 (.binOp .sub 3 (.tmp 32) (.tmp 33) 3),zO 35 (.call ⟨.value (.func 55),#[.tmp 30,.tmp 34],#[28,3]⟩),zG 4 35]
instance : Live qq9 := ⟨[0,4,5,6,7,8]⟩
def qq8 : List SOp := [zM 36 4,zF 37 43 8 1,zL 38 3 37,zM 39 6,zO 40 (.binOp .sub 3 (.tmp 38) (.tmp 39) 3),zO 41 (.binOp .sub 3 (.tmp 40) (.const (.int .i64 1)) 3),zO 42 (.call ⟨.value (.func 55),#[.tmp 36,.tmp 41],#[28,3]⟩),zG 4 42]
instance : Live qq8 := ⟨[0,4,6,7,8]⟩
def qq7 : List SOp := [zM 43 4,zM 44 0,zM 45 7,zI 46 26 44 45,zF 47 45 46 1,zL 48 9 47,zO 49 (.call ⟨.value (.func 56),#[.tmp 43,.tmp 48],#[28,9]⟩),zG 4 49]
instance : Live qq7 := ⟨[0,4,7,8]⟩
def qq6 : List SOp := [zM 50 4,zM 51 0,zM 52 7,zI 53 26 51 52,zF 54 45 53 2,zL 55 3 54,zO 56 (.binOp .sub 3 (.tmp 55) (.const (.int .i64 1)) 3),zO 57 (.call ⟨.value (.func 55),#[.tmp 50,.tmp 56],#[28,3]⟩),zG 4 57]
instance : Live qq6 := ⟨[0,4,7,8]⟩
def qq5 : List SOp := [zF 58 43 8 0,zL 59 3 58,zF 60 43 8 1,zL 61 3 60,zG 5 59,zG 6 61]
instance : Live qq5 := ⟨[0,4,7,8]⟩
def qq4 : List SOp := [zM 19 7,zO 20 (.binOp .add 3 (.tmp 19) (.const (.int .i64 1)) 3),zG 7 20]
instance : Live qq4 := ⟨[0,4,5,6,7]⟩
def qq3 : List SOp := [zM 62 4,zG 2 62,zO 3 (.assign (.const (.int .i64 0)))]
instance : Live qq3 := ⟨[4]⟩
def qo3 : SC :=
 (.seq (.seq (.ops false z8q) (.cond (.tmp 18) .skip (.exit 0))) (.seq (.block 1 (.seq (.ops false z8p) (.seq (.seq (.ops false z8o) (.cond (.tmp 29) (.ops false qqa) .skip)) (.seq (.ops false qq9) (.seq (.ops false qq8) (.seq (.ops false qq7) (.seq (.ops false qq6) (.ops true qq5)))))))) (.ops false qq4)))
def t_k19 : SC :=
 (.seq (.ops false z8w) (.seq (.seq (.ops false z8v) (.cond (.tmp 11) (.seq (.ops false z8u) .ret) .skip)) (.seq (.ops false z8t) (.seq (.ops false z8s) (.seq (.seq (.ops false z8r) (.block 0 (.loop qo3))) (.seq (.ops false qq3) .ret))))))
theorem it_k19 : FnIs Tryz.prog 19 63 [.tmp 2, .tmp 3] t_k19 := ⟨Tryz.f19, _, Tryz.func19, rfl, rfl, rfl, rfl, by kernel_rfl⟩

def z8i : List SOp := [zO 2 (.assign (.const (.slice none 0 0))),zO 3 (.assign (.const (.int .i64 0)))]
instance : Live z8i := ⟨[0]⟩
def z8h : List SOp := [zM 6 0,zO 7 (.call ⟨.value (.func 25),#[.tmp 6],#[27]⟩),zO 8 (.binOp .neq 35 (.tmp 7) (.const (.int .i64 0)) 35)]
instance : Live z8h := ⟨[0]⟩
def z8g : List SOp := [zO 2 (.assign (.const (.slice none 0 0))),zO 3 (.assign (.const (.int .i64 1)))]
instance : Live z8g := ⟨[]⟩
def z8f : List SOp := [zM 9 0,zO 10 (.call ⟨.builtin .len,#[.tmp 9],#[27]⟩),zO 11 (.call ⟨.value (.func 55),#[.const (.slice none 0 0),.tmp 10],#[28,3]⟩),zG 4 11]
instance : Live z8f := ⟨[0]⟩
def z8e : List SOp := [zO 5 (.assign (.const (.int .i64 0)))]
instance : Live z8e := ⟨[0,4]⟩
def z8d : List SOp := [zM 12 5,zM 13 0,zO 14 (.call ⟨.builtin .len,#[.tmp 13],#[27]⟩),zO 15 (.binOp .lss 3 (.tmp 12) (.tmp 14) 3)]
instance : Live z8d := ⟨[0,4,5]⟩
def z8c : List SOp := [zM 18 4,zM 19 0,zM 20 5,zI 21 27 19 20,zF 22 84 21 0,zL 23 9 22,zO 24 (.call ⟨.value (.func 56),#[.tmp 18,.tmp 23],#[28,9]⟩),zG 4 24]
instance : Live z8c := ⟨[0,4,5]⟩
def z8b : List SOp := [zM 25 4,zM 26 0,zM 27 5,zI 28 27 26 27,zF 29 84 28 1,zL 30 25 29,zO 31 (.call ⟨.value (.func 54),#[.tmp 25,.tmp 30],#[28,25]⟩),zG 4 31]
instance : Live z8b := ⟨[0,4,5]⟩
def z8a : List SOp := [zM 16 5,zO 17 (.binOp .add 3 (.tmp 16) (.const (.int .i64 1)) 3),zG 5 17]
instance : Live z8a := ⟨[0,4,5]⟩
def qq2 : List SOp := [zM 32 4,zG 2 32,zO 3 (.assign (.const (.int .i64 0)))]
instance : Live qq2 := ⟨[4]⟩
def qo2 : SC :=
 (.seq (.seq (.ops false z8d) (.cond (.tmp 15) .skip (.exit 0))) (.seq (.block 1 (.seq (.ops false z8c) (.ops false z8b))) (.ops false z8a)))
def t_k21 : SC :=
 (.seq (.ops false z8i) (.seq (.seq (.ops false z8h) (.cond (.tmp 8) (.seq (.ops false z8g) .ret) .skip)) (.seq (.ops false z8f) (.seq (.seq (.ops false z8e) (.block 0 (.loop qo2))) (.seq (.ops false qq2) .ret)))))
theorem it_k21 : FnIs Tryz.prog 21 33 [.tmp 2, .tmp 3] t_k21 := ⟨Tryz.f21, _, Tryz.func21, rfl, rfl, rfl, rfl, by kernel_rfl⟩

theorem ev_k19 (l : List Ent) (hl0 : l.length ≤ 1000000000) (h : q4c l = true → EW l) : Ev (En Tryz.prog rfl).P 19 [.sl 4 (q1j l)] (.ret (putR (q4c l) (q1q l))) := by
 refine Ev.of_body it_k19 (by simp) (Run.start ?_)
 unfold t_k19
 have e1 := q53 l
 have hS := qo6
 (focus (have hF := @e1; (repeat' (first | refine go1 (k:=?_) | with_reducible refine Ny.of ?_ ?_ | (refine Hyp.of ?_; intro hc; (try simp only [hc]); (try simp only [Bh] at hc)))); all_goals clear hF))
 refine q05 [.sl 4 (q1j l)] (he := ev_k16 l hl0) (k:=?_)
 cases hn : q4c l with
 | false =>
  (focus (have hF := @e1; (repeat' (first | refine go1 (k:=?_) | with_reducible refine Ny.of ?_ ?_ | (refine Hyp.of ?_; intro hc; (try simp only [hc]); (try simp only [Bh] at hc)))); all_goals clear hF))
  exact Fin.two rfl rfl rfl rfl (.inr ⟨rfl, 1, rfl⟩) (.inl rfl)
 | true =>
 have hw := h hn
 have hl := hw.ll
 (focus (have hF := @e1; (repeat' (first | refine go1 (k:=?_) | with_reducible refine Ny.of ?_ ?_ | (refine Hyp.of ?_; intro hc; (try simp only [hc]); (try simp only [Bh] at hc)))); all_goals clear hF))
 refine qlf [.nil, .int .i64 (l.length : Int)] (he := qbr l.length (by omega)) (k:=?_)
 have l1 := q08 (n := l.length) (by omega)
 have hfin : q0u l.length ++ q46 [] l = q1q l := rfl
 generalize q0u l.length = b1 at *
 (focus (have hF := @e1; (repeat' (first | refine go1 (k:=?_) | with_reducible refine Ny.of ?_ ?_ | (refine Hyp.of ?_; intro hc; (try simp only [hc]); (try simp only [Bh] at hc)))); all_goals clear hF))
 refine Run.while (σ := Nat) (fun i => ⟨tms [(0, .sl 4 (q1j l)), (4, .os 14 (4 * i)), (5, .int .i64 (q9d (l.take i))), (6, .int .i64 (q4p (l.take i) - 1)), (7, .int .i64 (i : Int))], mms [(14, .arr (4 * i) 1 (q1f (b1 ++ q46 [] (l.take i))))]⟩)
  (fun i => i ≤ l.length) (fun i => l.length - i) 0 (have hW := (aI @qjy (aI @List.append_nil.{0} @q0i)); q0v) (Nat.zero_le _) ?_
 intro i hi
 unfold qo3
 have hcb := q8f hw i hi
 by_cases hlt : i < l.length
 ·have hlt2 : (i : Int) < (l.length : Int) := by omega
  have hg : l[i]? = some (l[i]) := List.getElem?_eq_getElem hlt
  have g1 := q49 hg
  have hew := hw.e i _ hg
  have hen := qez hew
  obtain ⟨q1, q2, q3, q4, q4', q5, q6, q7, q8, q9⟩ := hew
  have hsn := q21 hg
  generalize l[i] = e at hg g1 q1 q2 q3 q4 q4' q5 q6 q7 q8 q9 hsn hen
  have hsp : entB (l.take i) e = q0u (e.rep - q9d (l.take i)).toNat ++ (q0u (e.num - q3w (l.take i) e).toNat ++ ((q0u e.sku.size ++ e.sku.data.toList) ++ q0u (e.qty - 1).toNat)) := rfl
  have h10 : 1 ≤ q3w (l.take i) e := by unfold q3w; split <;> omega
  have hbe : q3w (l.take i) e = if e.rep = q9d (l.take i) then q4p (l.take i) else 1 := rfl
  generalize hrp : q9d (l.take i) = rp at *
  generalize hnx : q4p (l.take i) = nx at *
  generalize hba : q3w (l.take i) e = ba at *
  obtain ⟨er, en, es, eq⟩ := e
  simp only at q2 q3 q5 q6 q7 q8 q9 hsp hbe
  have g2 : (q1j l)[i]? = some (.agg [.int .i64 er, .int .i64 en, .str es, .int .i64 eq]) := g1
  generalize hb4 : b1 ++ q46 [] (l.take i) = b4
  have hl4 : b4.length ≤ b1.length + 1040 * i := by rw [← hb4, List.length_append]; omega
  have w1 : IntKind.i64.wrap (er - rp) = (((er - rp).toNat : Nat) : Int) := by rw [q0a (by omega)]; omega
  have w3 : IntKind.i64.wrap (eq - 1) = (((eq - 1).toNat : Nat) : Int) := by rw [q0a (by omega)]; omega
  have n1 := q08 (n := (er - rp).toNat) (by omega)
  have n2 := q08 (n := (en - ba).toNat) (by omega)
  have n3 := q08 (n := es.size) (by omega)
  have n4 : es.data.toList.length = es.size := rfl
  have o1 : (er - rp).toNat < 9223372036854775808 := by omega
  have o2 : (en - ba).toNat < 9223372036854775808 := by omega
  have o3 : (eq - 1).toNat < 9223372036854775808 := by omega
  have x1 := q0t (i := i) (by omega)
  have x2 : 4 * (i + 1) = 4 * i + 1 + 1 + 1 + 1 := by omega
  have hra : q9d (l.take (i + 1)) = er := by rw [hsn, q4w]
  have hna : q4p (l.take (i + 1)) - 1 = en := by rw [hsn, q3x]; simp only; omega
  have hb5 : b4 ++ q0u (er - rp).toNat ++ q0u (en - ba).toNat ++ (q0u es.size ++ es.data.toList) ++ q0u (eq - 1).toNat = b1 ++ q46 [] (l.take (i + 1)) := by
   rw [hsn, q6p, List.nil_append, hsp, ← hb4]
   simp
  have m2e : (((en - ba).toNat : Nat) : Int) = en - ba := by omega
  generalize (er - rp).toNat = m1 at *
  generalize (en - ba).toNat = m2 at *
  generalize (eq - 1).toNat = m3 at *
  by_cases hrr : er = rp
  ·have hrr2 : (er = rp) = True := eq_true hrr
   rw [if_pos hrr] at hbe
   subst hbe
   have w2 : IntKind.i64.wrap (en - (ba - 1)) = en - ba + 1 := by rw [q0a (by omega)]; omega
   have w4 : IntKind.i64.wrap (en - ba + 1 - 1) = (m2 : Int) := by rw [q0a (by omega)]; omega
   (focus (have hF := (aI (aI @e1 @hlt2) (aI @g2 (aI @hrr2 @w1))); (repeat' (first | refine go1 (k:=?_) | with_reducible refine Ny.of ?_ ?_ | (refine Hyp.of ?_; intro hc; (try simp only [hc]); (try simp only [Bh] at hc)))); all_goals clear hF))
   refine q0s (args' := [.undef, .int .i64 (m1 : Int)]) 0 14 rfl rfl rfl rfl rfl (q01 _) (q01 _) (q0l b4 m1 (by omega) o1) ?_
   (focus (have hF := (aI (aI @e1 @hlt2) (aI @g2 (aI @w2 @w4))); (repeat' (first | refine go1 (k:=?_) | with_reducible refine Ny.of ?_ ?_ | (refine Hyp.of ?_; intro hc; (try simp only [hc]); (try simp only [Bh] at hc)))); all_goals clear hF))
   refine q0s (args' := [.undef, .int .i64 (m2 : Int)]) 0 14 rfl rfl rfl rfl rfl (q01 _) (q01 _) (q0l (b4 ++ q0u m1) m2 (by simp only [List.length_append]; omega) o2) ?_
   (focus (have hF := (aI @e1 (aI @hlt2 @g2)); (repeat' (first | refine go1 (k:=?_) | with_reducible refine Ny.of ?_ ?_ | (refine Hyp.of ?_; intro hc; (try simp only [hc]); (try simp only [Bh] at hc)))); all_goals clear hF))
   refine q0s (args' := [.undef, .str es]) 0 14 rfl rfl rfl rfl rfl (q01 _) (q01 _) (q6c (b4 ++ q0u m1 ++ q0u m2) es (by simp only [List.length_append]; omega) (by omega)) ?_
   (focus (have hF := (aI (aI @e1 @hlt2) (aI @g2 @w3)); (repeat' (first | refine go1 (k:=?_) | with_reducible refine Ny.of ?_ ?_ | (refine Hyp.of ?_; intro hc; (try simp only [hc]); (try simp only [Bh] at hc)))); all_goals clear hF))
   refine q0s (args' := [.undef, .int .i64 (m3 : Int)]) 0 14 rfl rfl rfl rfl rfl (q01 _) (q01 _) (q0l (b4 ++ q0u m1 ++ q0u m2 ++ (q0u es.size ++ es.data.toList)) m3 (by simp only [List.length_append]; omega) o3) ?_
   rw [hb5]
   (focus (have hF := (aI @e1 @x1); (repeat' (first | refine go1 (k:=?_) | with_reducible refine Ny.of ?_ ?_ | (refine Hyp.of ?_; intro hc; (try simp only [hc]); (try simp only [Bh] at hc)))); all_goals clear hF))
   (refine Fin.nextW (i + 1) ?_ (have hW := (aI (aI @hra @hna) (aI @x2 @q0i)); q0v); (try dsimp only))
   omega
  ·have hrr2 : (er = rp) = False := eq_false hrr
   rw [if_neg hrr] at hbe
   subst hbe
   have w2 : IntKind.i64.wrap (en - 0) = en := by rw [q0a (by omega)]; omega
   have w2' : IntKind.i64.wrap en = en := q0a (by omega)
   have w4 : IntKind.i64.wrap (en - 1) = (m2 : Int) := by rw [q0a (by omega)]; omega
   (focus (have hF := (aI (aI @e1 @hlt2) (aI @g2 (aI @hrr2 @w1))); (repeat' (first | refine go1 (k:=?_) | with_reducible refine Ny.of ?_ ?_ | (refine Hyp.of ?_; intro hc; (try simp only [hc]); (try simp only [Bh] at hc)))); all_goals clear hF))
   refine q0s (args' := [.undef, .int .i64 (m1 : Int)]) 0 14 rfl rfl rfl rfl rfl (q01 _) (q01 _) (q0l b4 m1 (by omega) o1) ?_
   (focus (have hF := (aI (aI @e1 (aI @hlt2 @g2)) (aI (aI @w2 @w2') (aI @w4 @Int.sub_zero))); (repeat' (first | refine go1 (k:=?_) | with_reducible refine Ny.of ?_ ?_ | (refine Hyp.of ?_; intro hc; (try simp only [hc]); (try simp only [Bh] at hc)))); all_goals clear hF))
   refine q0s (args' := [.undef, .int .i64 (m2 : Int)]) 0 14 rfl rfl rfl rfl rfl (q01 _) (q01 _) (q0l (b4 ++ q0u m1) m2 (by simp only [List.length_append]; omega) o2) ?_
   (focus (have hF := (aI @e1 (aI @hlt2 @g2)); (repeat' (first | refine go1 (k:=?_) | with_reducible refine Ny.of ?_ ?_ | (refine Hyp.of ?_; intro hc; (try simp only [hc]); (try simp only [Bh] at hc)))); all_goals clear hF))
   refine q0s (args' := [.undef, .str es]) 0 14 rfl rfl rfl rfl rfl (q01 _) (q01 _) (q6c (b4 ++ q0u m1 ++ q0u m2) es (by simp only [List.length_append]; omega) (by omega)) ?_
   (focus (have hF := (aI (aI @e1 @hlt2) (aI @g2 @w3)); (repeat' (first | refine go1 (k:=?_) | with_reducible refine Ny.of ?_ ?_ | (refine Hyp.of ?_; intro hc; (try simp only [hc]); (try simp only [Bh] at hc)))); all_goals clear hF))
   refine q0s (args' := [.undef, .int .i64 (m3 : Int)]) 0 14 rfl rfl rfl rfl rfl (q01 _) (q01 _) (q0l (b4 ++ q0u m1 ++ q0u m2 ++ (q0u es.size ++ es.data.toList)) m3 (by simp only [List.length_append]; omega) o3) ?_
   rw [hb5]
   (focus (have hF := (aI @e1 @x1); (repeat' (first | refine go1 (k:=?_) | with_reducible refine Ny.of ?_ ?_ | (refine Hyp.of ?_; intro hc; (try simp only [hc]); (try simp only [Bh] at hc)))); all_goals clear hF))
   (refine Fin.nextW (i + 1) ?_ (have hW := (aI (aI @hra @hna) (aI @x2 @q0i)); q0v); (try dsimp only))
   omega
 ·have hin : i = l.length := by omega
  subst hin
  have hlt2 : ¬ (l.length : Int) < (l.length : Int) := by omega
  rw [List.take_length, hfin]
  (focus (have hF := (aI @e1 @hlt2); (repeat' (first | refine go1 (k:=?_) | with_reducible refine Ny.of ?_ ?_ | (refine Hyp.of ?_; intro hc; (try simp only [hc]); (try simp only [Bh] at hc)))); all_goals clear hF))
  exact Fin.two (x := .sl 1 (q1f (q1q l))) (by simp [fz, fzc, mms, upd, tms, q70]) (q01 _) rfl rfl (.inl rfl) (.inl rfl)
theorem ev_k21 (l : List Rec) (hl0 : l.length ≤ 1000000000) (hw0 : ∀ r ∈ l, wt r.past ≤ 30000000) (h : q4z l = true → RW l ∧ (q19 l).length ≤ 600000000000) : Ev (En Tryz.prog rfl).P 21 [.sl 3 (q1i l)] (.ret (putR (q4z l) (q19 l))) := by
 refine Ev.of_body it_k21 (by simp) (Run.start ?_)
 unfold t_k21
 have e1 := q51 l
 have hS := qo6
 (focus (have hF := @e1; (repeat' (first | refine go1 (k:=?_) | with_reducible refine Ny.of ?_ ?_ | (refine Hyp.of ?_; intro hc; (try simp only [hc]); (try simp only [Bh] at hc)))); all_goals clear hF))
 refine q05 [.sl 3 (q1i l)] (he := qcg l hl0 hw0) (k:=?_)
 cases hn : q4z l with
 | false =>
  (focus (have hF := @e1; (repeat' (first | refine go1 (k:=?_) | with_reducible refine Ny.of ?_ ?_ | (refine Hyp.of ?_; intro hc; (try simp only [hc]); (try simp only [Bh] at hc)))); all_goals clear hF))
  exact Fin.two rfl rfl rfl rfl (.inr ⟨rfl, 1, rfl⟩) (.inl rfl)
 | true =>
 obtain ⟨hw, htot⟩ := h hn
 have hl := hw.ll
 (focus (have hF := @e1; (repeat' (first | refine go1 (k:=?_) | with_reducible refine Ny.of ?_ ?_ | (refine Hyp.of ?_; intro hc; (try simp only [hc]); (try simp only [Bh] at hc)))); all_goals clear hF))
 refine qlf [.nil, .int .i64 (l.length : Int)] (he := qbr l.length (by omega)) (k:=?_)
 have l1 := q08 (n := l.length) (by omega)
 have hfin : q0u l.length ++ q2q l = q19 l := rfl
 rw [← hfin, List.length_append] at htot
 generalize q0u l.length = b1 at *
 (focus (have hF := @e1; (repeat' (first | refine go1 (k:=?_) | with_reducible refine Ny.of ?_ ?_ | (refine Hyp.of ?_; intro hc; (try simp only [hc]); (try simp only [Bh] at hc)))); all_goals clear hF))
 refine Run.while (σ := Nat) (fun i => ⟨tms [(0, .sl 3 (q1i l)), (4, .os 11 (2 * i)), (5, .int .i64 (i : Int))], mms [(11, .arr (2 * i) 1 (q1f (b1 ++ q2q (l.take i))))]⟩)
  (fun i => i ≤ l.length) (fun i => l.length - i) 0 (have hW := (aI @qgc (aI @List.append_nil.{0} @q0p)); q0v) (Nat.zero_le _) ?_
 intro i hi
 unfold qo2
 by_cases hlt : i < l.length
 ·have hlt2 : (i : Int) < (l.length : Int) := by omega
  have hg : l[i]? = some (l[i]) := List.getElem?_eq_getElem hlt
  have g1 := q48 hg
  obtain ⟨q1, q2⟩ := hw.r _ (List.getElem_mem hlt)
  have hsn := q21 hg
  have hcb := qcs l (i + 1)
  generalize l[i] = e at hg g1 q1 q2 hsn
  rw [hsn, q6l] at hcb
  obtain ⟨es, ⟨vec, cl⟩⟩ := e
  have g2 : (q1i l)[i]? = some (.agg [.str es, .sl 1 (q04 vec), .sl 3 (q0e cl)]) := g1
  simp only at q1 q2
  have hsp : recB ⟨es, ⟨vec, cl⟩⟩ = (q0u es.size ++ es.data.toList) ++ q34 ⟨vec, cl⟩ := rfl
  rw [hsp] at hcb
  simp only [List.length_append] at hcb
  generalize hb4 : b1 ++ q2q (l.take i) = b4
  have hl4 : b4.length = b1.length + (q2q (l.take i)).length := by rw [← hb4, List.length_append]
  have hb5 : b4 ++ (q0u es.size ++ es.data.toList) ++ q34 ⟨vec, cl⟩ = b1 ++ q2q (l.take (i + 1)) := by
   rw [hsn, q6l, hsp, ← hb4]
   simp
  have x1 := q0t (i := i) (by omega)
  have x2 : 2 * (i + 1) = 2 * i + 1 + 1 := by omega
  (focus (have hF := (aI @e1 (aI @hlt2 @g2)); (repeat' (first | refine go1 (k:=?_) | with_reducible refine Ny.of ?_ ?_ | (refine Hyp.of ?_; intro hc; (try simp only [hc]); (try simp only [Bh] at hc)))); all_goals clear hF))
  refine q0s (args' := [.undef, .str es]) 0 11 rfl rfl rfl rfl rfl (q01 _) (q01 _) (q6c b4 es (by omega) (by omega)) ?_
  (focus (have hF := (aI @e1 (aI @hlt2 @g2)); (repeat' (first | refine go1 (k:=?_) | with_reducible refine Ny.of ?_ ?_ | (refine Hyp.of ?_; intro hc; (try simp only [hc]); (try simp only [Bh] at hc)))); all_goals clear hF))
  refine q0s (args' := [.undef, .agg [.sl 1 (q04 vec), .sl 3 (q0e cl)]]) 0 11 rfl rfl rfl rfl (by simp [q0m, AVal.stb, q02, q03]) (q01 _) (q01 _) (qbn _ ⟨vec, cl⟩ (by simp only [List.length_append]; omega) q2) ?_
  rw [hb5]
  (focus (have hF := (aI @e1 @x1); (repeat' (first | refine go1 (k:=?_) | with_reducible refine Ny.of ?_ ?_ | (refine Hyp.of ?_; intro hc; (try simp only [hc]); (try simp only [Bh] at hc)))); all_goals clear hF))
  (refine Fin.nextW (i + 1) ?_ (have hW := (aI @x2 @q0p); q0v); (try dsimp only))
  omega
 ·have hin : i = l.length := by omega
  subst hin
  have hlt2 : ¬ (l.length : Int) < (l.length : Int) := by omega
  rw [List.take_length, hfin]
  (focus (have hF := (aI @e1 @hlt2); (repeat' (first | refine go1 (k:=?_) | with_reducible refine Ny.of ?_ ?_ | (refine Hyp.of ?_; intro hc; (try simp only [hc]); (try simp only [Bh] at hc)))); all_goals clear hF))
  exact Fin.two (x := .sl 1 (q1f (q19 l))) (by simp [fz, fzc, mms, upd, tms, q70]) (q01 _) rfl rfl (.inl rfl) (.inl rfl)

def fixP : Pst := ⟨[4], [(0, 6, 12), (1, 2, 2)]⟩
def qmi : List Ent := [⟨2, 1, ⟨#[65]⟩, 5⟩]
def ql6 : List Rec := [⟨⟨#[]⟩, ⟨[1], []⟩⟩]
def qzx : Bs := [1, 4, 2, 0, 0, 6, 1, 0, 0]
def qer : Bs := [1, 2, 0, 1, 65, 4]
def qeq : Bs := [1, 0, 1, 1, 0]
theorem qji {p : Pst} {m : Tab} (h : q27 [p] = m) (hm : m.map q12 = m) : q29 p = pastN m := by
 unfold q29
 rw [qm2, h, hm]
theorem zba : q15 fixP = true := by
 refine q5h.2 ?_
 unfold CanP
 have h : q27 [fixP] = [[(1, 4), (6, 12)], [(2, 2)], [], [], [], [], [], [], [], [], [], [], [], [], [], []] := by decide
 have n0 : q12 [] = [] := q1o Can.nil
 have n1 : q12 [(1, 4), (6, 12)] = [(1, 4), (6, 12)] := q1o ⟨by simp [qlk], by simp [okR]⟩
 have n2 : q12 [(2, 2)] = [(2, 2)] := q1o ⟨by simp, by simp [okR]⟩
 rw [qji h (by simp only [List.map_cons, List.map_nil, n0, n1, n2])]
 rfl
theorem qjc : q15 ⟨[1], []⟩ = true := by
 refine q5h.2 ?_
 unfold CanP
 have h : q27 [⟨[1], []⟩] = [[(1, 1)], [], [], [], [], [], [], [], [], [], [], [], [], [], [], []] := by decide
 have n0 : q12 [] = [] := q1o Can.nil
 have n1 : q12 [(1, 1)] = [(1, 1)] := q1o ⟨by simp, by simp [okR]⟩
 rw [qji h (by simp only [List.map_cons, List.map_nil, n0, n1])]
 rfl
theorem qjb : q7s ⟨[1], []⟩ ≠ 0 := by
 have h : q27 [⟨[1], []⟩] = [[(1, 1)], [], [], [], [], [], [], [], [], [], [], [], [], [], [], []] := by decide
 have n0 : q12 [] = [] := q1o Can.nil
 have n1 : q12 [(1, 1)] = [(1, 1)] := q1o ⟨by simp, by simp [okR]⟩
 unfold q7s q1v
 rw [h]
 have hr : List.range 16 = [0, 1, 2, 3, 4, 5, 6, 7, 8, 9, 10, 11, 12, 13, 14, 15] := rfl
 rw [hr]
 simp [n0, n1, qdr, q18]
theorem qzw : q34 fixP = qzx := by
 have e1 : q1a [4] 0 [] = 6 := rfl
 have e2 : q1a [4] 1 [(0, 6, 12)] = 2 := rfl
 simp [q34, q9k, q1z, qan, fixP, qzx, q37, e1, e2, q5d]
theorem qzy : q1q qmi = qer := by
 have e0 : ByteArray.size ⟨#[65]⟩ = 1 := rfl
 simp [q1q, q46, entB, qmi, qer, q9d, q4p, q3w, q5d, e0]
theorem qzv : q19 ql6 = qeq := by
 have e0 : ByteArray.size ⟨#[]⟩ = 0 := rfl
 simp [q19, q2q, recB, q34, q9k, q1z, ql6, qeq, q5d, e0]
theorem qbj : q4c qmi = true := by
 refine q90 ⟨fun i e he => ?_, fun i a b ha hb => ?_⟩
 ·match i with
  | 0 =>
   simp [qmi] at he
   subst he
   decide
  | i + 1 => simp [qmi] at he
 ·match i with
  | 0 => simp [qmi] at hb
  | i + 1 => simp [qmi] at hb
theorem qbi : q4z ql6 = true := by
 refine q8z ⟨fun i r he => ?_, fun i a b ha hb => ?_⟩
 ·match i with
  | 0 =>
   simp [ql6] at he
   subst he
   have e0 : ByteArray.size ⟨#[]⟩ = 0 := rfl
   simp [q3o, qjc, qjb, e0]
  | i + 1 => simp [ql6] at he
 ·match i with
  | 0 => simp [ql6] at hb
  | i + 1 => simp [ql6] at hb


structure FoS where
 i : Nat
 all : Pst
 out : List Rec


def SrtK (l : List Rec) : Prop := ∀ (i : Nat) a b, l[i]? = some a → l[i + 1]? = some b → qkg a b < 0
theorem SrtK.tail {t l : List Rec} (h : SrtK (t ++ l)) : SrtK l := fun i a b ha hb =>
 h (t.length + i) a b (by rw [List.getElem?_append_right (by omega)]; simpa using ha) (by rw [List.getElem?_append_right (by omega)]; rw [show t.length + i + 1 - t.length = i + 1 by omega]; exact hb)

def z99 : List SOp := [zO 4 (.assign (.const (.bool false)))]
instance : Live z99 := ⟨[0,1]⟩
def z98 : List SOp := [zM 6 0,zO 7 (.call ⟨.builtin .len,#[.tmp 6],#[26]⟩),zM 8 1,zO 9 (.call ⟨.builtin .len,#[.tmp 8],#[26]⟩),zO 10 (.binOp .neq 3 (.tmp 7) (.tmp 9) 3)]
instance : Live z98 := ⟨[0,1]⟩
def z97 : List SOp := [zO 4 (.assign (.const (.bool false)))]
instance : Live z97 := ⟨[]⟩
def z96 : List SOp := [zO 5 (.assign (.const (.int .i64 0)))]
instance : Live z96 := ⟨[0,1]⟩
def z95 : List SOp := [zM 11 5,zM 12 0,zO 13 (.call ⟨.builtin .len,#[.tmp 12],#[26]⟩),zO 14 (.binOp .lss 3 (.tmp 11) (.tmp 13) 3)]
instance : Live z95 := ⟨[0,1,5]⟩
def z94 : List SOp := [zM 17 0,zM 18 5,zI 19 26 17 18,zL 20 45 19,zM 21 1,zM 22 5,zI 23 26 21 22,zL 24 45 23,zO 25 (.binOp .neq 45 (.tmp 20) (.tmp 24) 45)]
instance : Live z94 := ⟨[0,1,5]⟩
def z93 : List SOp := [zO 4 (.assign (.const (.bool false)))]
instance : Live z93 := ⟨[]⟩
def z92 : List SOp := [zM 15 5,zO 16 (.binOp .add 3 (.tmp 15) (.const (.int .i64 1)) 3),zG 5 16]
instance : Live z92 := ⟨[0,1,5]⟩
def z91 : List SOp := [zO 4 (.assign (.const (.bool true)))]
instance : Live z91 := ⟨[]⟩
def qo4 : SC :=
 (.seq (.seq (.ops false z95) (.cond (.tmp 14) .skip (.exit 0))) (.seq (.block 1 (.seq (.ops true z94) (.cond (.tmp 25) (.seq (.ops false z93) .ret) .skip))) (.ops false z92)))
def t_k17 : SC :=
 (.seq (.ops false z99) (.seq (.seq (.ops false z98) (.cond (.tmp 10) (.seq (.ops false z97) .ret) .skip)) (.seq (.seq (.ops false z96) (.block 0 (.loop qo4))) (.seq (.ops false z91) .ret))))
theorem it_k17 : FnIs Tryz.prog 17 26 [.tmp 4] t_k17 := ⟨Tryz.f17, _, Tryz.func17, rfl, rfl, rfl, rfl, by kernel_rfl⟩

def z7o : List SOp := [zO 4 (.assign (.const (.bool false)))]
instance : Live z7o := ⟨[0,1]⟩
def z7n : List SOp := [zM 6 0,zO 7 (.call ⟨.builtin .len,#[.tmp 6],#[27]⟩),zM 8 1,zO 9 (.call ⟨.builtin .len,#[.tmp 8],#[27]⟩),zO 10 (.binOp .neq 3 (.tmp 7) (.tmp 9) 3)]
instance : Live z7n := ⟨[0,1]⟩
def z7m : List SOp := [zO 4 (.assign (.const (.bool false)))]
instance : Live z7m := ⟨[]⟩
def z7l : List SOp := [zO 5 (.assign (.const (.int .i64 0)))]
instance : Live z7l := ⟨[0,1]⟩
def z7k : List SOp := [zM 11 5,zM 12 0,zO 13 (.call ⟨.builtin .len,#[.tmp 12],#[27]⟩),zO 14 (.binOp .lss 3 (.tmp 11) (.tmp 13) 3)]
instance : Live z7k := ⟨[0,1,5]⟩
def z7j : List SOp := [zM 17 0,zM 18 5,zI 19 27 17 18,zF 20 84 19 0,zL 21 9 20,zM 22 1,zM 23 5,zI 24 27 22 23,zF 25 84 24 0,zL 26 9 25,zO 27 (.binOp .neq 9 (.tmp 21) (.tmp 26) 9),zM 28 27,⟨some 29,.move (.tmp 0),some ((some 28),false)⟩,⟨some 30,.move (.tmp 5),some ((some 28),false)⟩,⟨some 31,.indexAddr 27 (.tmp 29) (.tmp 30),some ((some 28),false)⟩,⟨some 32,.fieldAddr 84 (.tmp 31) 1,some ((some 28),false)⟩,⟨some 33,.load 25 (.tmp 32),some ((some 28),false)⟩,⟨some 34,.move (.tmp 1),some ((some 28),false)⟩,⟨some 35,.move (.tmp 5),some ((some 28),false)⟩,⟨some 36,.indexAddr 27 (.tmp 34) (.tmp 35),some ((some 28),false)⟩,⟨some 37,.fieldAddr 84 (.tmp 36) 1,some ((some 28),false)⟩,⟨some 38,.load 25 (.tmp 37),some ((some 28),false)⟩,⟨some 39,.call ⟨.value (.func 14),#[.tmp 33,.tmp 38],#[25,25]⟩,some ((some 28),false)⟩,⟨some 40,.unOp .not 4 (.tmp 39),some ((some 28),false)⟩,zO 41 (.pick (.tmp 28) (.const (.bool true)) (.tmp 40))]
instance : Live z7j := ⟨[0,1,5]⟩
def z7i : List SOp := [zO 4 (.assign (.const (.bool false)))]
instance : Live z7i := ⟨[]⟩
def z7h : List SOp := [zM 15 5,zO 16 (.binOp .add 3 (.tmp 15) (.const (.int .i64 1)) 3),zG 5 16]
instance : Live z7h := ⟨[0,1,5]⟩
def z7g : List SOp := [zO 4 (.assign (.const (.bool true)))]
instance : Live z7g := ⟨[]⟩
def qo0 : SC :=
 (.seq (.seq (.ops false z7k) (.cond (.tmp 14) .skip (.exit 0))) (.seq (.block 1 (.seq (.ops true z7j) (.cond (.tmp 41) (.seq (.ops false z7i) .ret) .skip))) (.ops false z7h)))
def t_k27 : SC :=
 (.seq (.ops false z7o) (.seq (.seq (.ops false z7n) (.cond (.tmp 10) (.seq (.ops false z7m) .ret) .skip)) (.seq (.seq (.ops false z7l) (.block 0 (.loop qo0))) (.seq (.ops false z7g) .ret))))
theorem it_k27 : FnIs Tryz.prog 27 42 [.tmp 4] t_k27 := ⟨Tryz.f27, _, Tryz.func27, rfl, rfl, rfl, rfl, by kernel_rfl⟩





theorem qzf (p : Pst) : qll p p = true := q8q ⟨rfl, rfl⟩
theorem ev_k27 (l : List Rec) (hl : l.length ≤ 1000000000) (hw : ∀ r ∈ l, wt r.past ≤ 900000000) : Ev (En Tryz.prog rfl).P 27 [.sl 3 (q1i l), .sl 3 (q1i l)] (.ret (.bool true)) := by
 refine Ev.of_body it_k27 (by simp) (Run.start ?_)
 unfold t_k27
 have e1 := q51 l
 have hS := qo6
 (focus (have hF := @e1; (repeat' (first | refine go1 (k:=?_) | with_reducible refine Ny.of ?_ ?_ | (refine Hyp.of ?_; intro hc; (try simp only [hc]); (try simp only [Bh] at hc)))); all_goals clear hF))
 refine Run.while (σ := Nat) (fun i => ⟨tms [(0, .sl 3 (q1i l)), (1, .sl 3 (q1i l)), (5, .int .i64 (i : Int))], mms []⟩)
  (fun i => i ≤ l.length) (fun i => l.length - i) 0 (have hW := @q0p; q0v) (Nat.zero_le _) ?_
 intro i hi
 unfold qo0
 by_cases hlt : i < l.length
 ·obtain ⟨r, hr⟩ : ∃ r, l[i]? = some r := ⟨l[i], by simp [hlt]⟩
  have g1 := q48 hr
  have hwr := hw r (List.mem_of_getElem? hr)
  unfold wt at hwr
  have c1 := ev_k14 r.past r.past (by omega) (by omega)
  rw [qzf] at c1
  (focus (have hF := (aI @e1 @g1); (repeat' (first | refine go1 (k:=?_) | with_reducible refine Ny.of ?_ ?_ | (refine Hyp.of ?_; intro hc; (try simp only [hc]); (try simp only [Bh] at hc)))); all_goals clear hF))
  refine q05 [q1k r.past, q1k r.past] (he := c1) (k:=?_)
  (focus (have hF := (aI @e1 @g1); (repeat' (first | refine go1 (k:=?_) | with_reducible refine Ny.of ?_ ?_ | (refine Hyp.of ?_; intro hc; (try simp only [hc]); (try simp only [Bh] at hc)))); all_goals clear hF))
  (refine Fin.nextW (i + 1) ?_ (have hW := @q0p; q0v); (try dsimp only))
  omega
 ·(focus (have hF := @e1; (repeat' (first | refine go1 (k:=?_) | with_reducible refine Ny.of ?_ ?_ | (refine Hyp.of ?_; intro hc; (try simp only [hc]); (try simp only [Bh] at hc)))); all_goals clear hF))
  exact Fin.tmp' rfl rfl
theorem ev_k17 (l : List Ent) (hl : l.length ≤ 1000000000) : Ev (En Tryz.prog rfl).P 17 [.sl 4 (q1j l), .sl 4 (q1j l)] (.ret (.bool true)) := by
 refine Ev.of_body it_k17 (by simp) (Run.start ?_)
 unfold t_k17
 have e1 := q53 l
 have hS := qo6
 (focus (have hF := @e1; (repeat' (first | refine go1 (k:=?_) | with_reducible refine Ny.of ?_ ?_ | (refine Hyp.of ?_; intro hc; (try simp only [hc]); (try simp only [Bh] at hc)))); all_goals clear hF))
 refine Run.while (σ := Nat) (fun i => ⟨tms [(0, .sl 4 (q1j l)), (1, .sl 4 (q1j l)), (5, .int .i64 (i : Int))], mms []⟩)
  (fun i => i ≤ l.length) (fun i => l.length - i) 0 (have hW := @q0i; q0v) (Nat.zero_le _) ?_
 intro i hi
 unfold qo4
 by_cases hlt : i < l.length
 ·obtain ⟨r, hr⟩ : ∃ r, l[i]? = some r := ⟨l[i], by simp [hlt]⟩
  have g1 := q49 hr
  (focus (have hF := (aI @e1 @g1); (repeat' (first | refine go1 (k:=?_) | with_reducible refine Ny.of ?_ ?_ | (refine Hyp.of ?_; intro hc; (try simp only [hc]); (try simp only [Bh] at hc)))); all_goals clear hF))
  (refine Fin.nextW (i + 1) ?_ (have hW := @q0i; q0v); (try dsimp only))
  omega
 ·(focus (have hF := @e1; (repeat' (first | refine go1 (k:=?_) | with_reducible refine Ny.of ?_ ?_ | (refine Hyp.of ?_; intro hc; (try simp only [hc]); (try simp only [Bh] at hc)))); all_goals clear hF))
  exact Fin.tmp' rfl rfl

def Wkn (x y : AVal) : Prop := ∀ (D : Nat → Nat → Prop) (G : Gh) (B : Nat → Prop) (w : World) (v : Value), VR D G B w x v → VR D G B w y v
theorem Wkn.refl (x : AVal) : Wkn x x := fun _ _ _ _ _ h => h
theorem Wkn.nil (sz : Nat) : Wkn .nil (.sl sz []) := fun D G B w v h => by
 cases h
 exact .slnil sz
def Wkns : List AVal → List AVal → Prop
 | [], [] => True
 | a :: l, b :: m => Wkn a b ∧ Wkns l m
 | _, _ => False
theorem Wkns.len : ∀ {l m : List AVal}, Wkns l m → l.length = m.length
 | [], [], _ => rfl
 | a :: l, b :: m, h => by rw [List.length_cons, List.length_cons, Wkns.len h.2]
 | [], _ :: _, h => h.elim
 | _ :: _, [], h => h.elim
theorem Wkns.get : ∀ {l m : List AVal}, Wkns l m → ∀ (i : Nat) (y : AVal), m[i]? = some y → ∃ x, l[i]? = some x ∧ Wkn x y
 | [], [], _, i, y, h => by simp at h
 | a :: l, b :: m, hw, 0, y, h => by
  simp only [List.getElem?_cons_zero, Option.some.injEq] at h
  subst h
  exact ⟨a, rfl, hw.1⟩
 | a :: l, b :: m, hw, i + 1, y, h => by
  obtain ⟨x, hx, hxy⟩ := Wkns.get hw.2 i y (by simpa using h)
  exact ⟨x, by simpa using hx, hxy⟩
 | [], _ :: _, h, _, _, _ => h.elim
 | _ :: _, [], h, _, _, _ => h.elim
theorem Wkns.refl : ∀ l : List AVal, Wkns l l
 | [] => trivial
 | a :: l => ⟨Wkn.refl a, Wkns.refl l⟩
theorem Wkn.agg {l m : List AVal} (h : Wkns l m) : Wkn (.agg l) (.agg m) := fun D G B w v hv => by
 cases hv with
 | agg cs vs hl hh =>
  refine .agg m vs (by rw [hl, h.len]) fun n x u hx hu => ?_
  obtain ⟨y, hy, hyx⟩ := h.get n x hx
  exact hyx D G B w u (hh n y u hy hu)
theorem Ev.wks {P : Program} {f : FuncId} {l m : List AVal} {out : Out} (he : Ev P f m out) (h : Wkns l m) : Ev P f l out :=
 ⟨he.1, fun B w vs G ho hs hv hb => he.2 B w vs G ho (by rw [hs, h.len]) (fun i y v hy hvv => by
  obtain ⟨x, hx, hxy⟩ := h.get i y hy
  exact hxy _ G B w v (hv i x v hx hvv)) hb⟩

theorem Wkn.sl {sz : Nat} {xs ys : List AVal} (hl : xs.length = ys.length) (hf : Wkns (flat xs) (flat ys)) (h1 : ∀ x ∈ flat ys, x.one = true) (h2 : ∀ x ∈ ys, x.cells.length = sz) : Wkn (.sl sz xs) (.sl sz ys) := fun D G B w v h => by
 cases h with
 | slnil =>
  have : ys = [] := List.length_eq_zero_iff.1 hl.symm
  subst this
  exact .slnil sz
 | slemp _ a cap =>
  have : ys = [] := List.length_eq_zero_iff.1 hl.symm
  subst this
  exact .slemp sz a cap
 | sl _ _ b off cap f hcap hB hone hsz hc hv =>
  have hne : flat ys ≠ [] → flat xs ≠ [] := fun h h' => h (List.length_eq_zero_iff.1 (by rw [← hf.len, h']; rfl))
  have hg := fun n y (hy : (flat ys)[n]? = some y) => hf.get n y hy
  rw [hl]
  refine .sl sz ys b off cap f (by omega) (fun h => hB (hne h)) h1 h2 (fun n y hy => ?_) (fun n y hy => ?_)
  ·obtain ⟨x, hx, _⟩ := hg n y hy
   exact hc n x hx
  ·obtain ⟨x, hx, hxy⟩ := hg n y hy
   exact hxy D G B w _ (hv n x hx)
def sa : ByteArray := ⟨#[97]⟩

theorem qmy {P : Program} {TE : TyE} (hT : q2s P TE) {n : Nat} {B : Nat → Prop} {G : Gh} {s : AS} {a : Act} {w : World} (h : Rel n B G s a w) {t : TypeId} {len : Nat} {parts : List (Nat × AVal)} {parts' : Array (Nat × Value)}
 (hl : parts'.size = parts.length) (hr : ∀ (n : Nat) (p : Nat × AVal), parts[n]? = some p → ∃ p', parts'[n]? = some p' ∧ p'.1 = p.1 ∧ VR (Dm s.M) G B w p.2 p'.2)
 {sz : Nat} {xs0 : List AVal} (h0 : len ≠ 0) (hb : q1l TE s.M t len parts none = some (.sl sz xs0, [])) (k : Nat) (hk : s.M k = none) :
 ∃ v w' G', (Instr.buildSlice t len parts').run P w = .ok v w' ∧ Adv G w G' w' ∧ Rel n B G' ⟨s.T, upd s.M k (some (.arr 0 sz xs0))⟩ a w' ∧ VR (Dm (upd s.M k (some (.arr 0 sz xs0)))) G' B w' (.os k 0) v := by
 unfold q1l at hb
 split at hb
 case h_2 => cases hb
 rename_i e s1 b1 z1 ht
 split at hb
 case h_2 => cases hb
 rename_i ei he
 split at hb
 case isFalse => cases hb
 rename_i hc
 obtain ⟨hok, hlim⟩ := hc
 obtain ⟨o1, o2, o3, o4⟩ := q5c hT he hok
 split at hb
 case h_2 => cases hb
 rename_i xs hxs
 split at hb
 case isFalse => cases hb
 rename_i hone
 have hone' : ∀ x ∈ flat xs, x.one = true := List.all_eq_true.1 hone
 obtain ⟨g1, g2, g3⟩ := qlj parts (List.replicate len ei.zeroElem) xs (fun x hx => by rw [List.eq_of_mem_replicate hx, o2, o3]) hxs
 have hlen : xs.length = len := by simpa using g3
 have hu := q20 hT ht rfl
 have hflr : (flat (List.replicate len ei.zeroElem)).length = len * ei.size := by
  rw [q0o (sz := ei.size) (fun x hx => by rw [List.eq_of_mem_replicate hx, o2, o3])]; simp
 simp only [Option.some.injEq, Prod.mk.injEq, AVal.sl.injEq] at hb
 obtain ⟨⟨rfl, rfl⟩, _⟩ := hb
 have hne : ¬ (len * ei.size = 0) := by
  intro hz
  rcases Nat.mul_eq_zero.1 hz with hz | hz <;> omega
 obtain ⟨c', f1, f2, f3⟩ := q8a (D := Dm s.M) (G := G) (B := B) (w := w) (place := fun i => some (i * ei.size, ei.size)) (place' := fun i => some (i * ei.size, ei.size)) (fun i p hp => hp) parts parts'.toList _
  ((Array.range (len * ei.size)).map fun j => ei.zero.cells[j % ei.zero.cells.size]!) (flat xs) (by simpa using hl)
  (fun n p hn => by obtain ⟨p', q1, q2, q3⟩ := hr n p hn; exact ⟨p', by simpa using q1, q2, q3⟩) (by simp [hflr]) (q9q hT he o2 o1 len len (Nat.le_refl _)) g1
 have hc's : c'.size = len * ei.size := by rw [f2, q0o (sz := ei.size) g2, hlen]
 obtain ⟨G', hA, hR, hh⟩ := h.new_arr (k := k) (e := 0) (.inl hk) ei.size len xs c' e (by omega) (by omega) g2 hone' f3
 refine ⟨.slice (some ⟨w.heap.size, 0, none⟩) len len, w.alloc (.cells c' e), G', ?_, hA, hR, .os k 0 (Dm_arr (q00 _ _ _) (Nat.le_refl _)) _ (by rw [hh, hlen])⟩
 have hlim2 : len * ei.size ≤ 2 ^ 24 := by omega
 simp only [Instr.buildSlice, Sem.run_bind, run_underlying hu, q0k hT he, Result.andThen]
 rw [if_neg (by omega), if_neg hne]
 simp [q0y hT he, f1, newRow]
def q9o (l : List UInt8) : List AVal := l.map fun b => .int .u8 (b.toNat : Int)
theorem qd2 : ∀ l : List UInt8, flat (q9o l) = q9o l
 | [] => rfl
 | b :: l => by
  show AVal.cells _ ++ flat (q9o l) = _
  rw [qd2 l]
  rfl
theorem qcy {P : Program} {TE : TyE} (hT : q2s P TE) {s : AS} {t : TypeId} {len : Nat} {parts : Array (Nat × Operand)} {sz : Nat} {xs : List AVal} (h0 : len ≠ 0) (hb : q1l TE s.M t len (evp s.T parts.toList) none = some (.sl sz xs, [])) (k : Nat) (hk : s.M k = none) :
 Hook P s (.buildSlice t len parts) (fun v M' => v = .os k 0 ∧ M' = upd s.M k (some (.arr 0 sz xs))) := by
 intro n B G act w hR o ho K Q hK
 obtain ⟨p1, p2⟩ := qeb hR parts
 obtain ⟨v, w', G', r1, r2, r3, r4⟩ := qmy hT hR p1 p2 h0 hb k hk
 unfold Oper.wp
 have hrun : (execOp act.eval o).run P w = .ok (.value v) w' := by
  unfold execOp
  rw [ho]
  simp only [Sem.run_bind, r1, Result.andThen]
  rfl
 rw [hrun]
 exact hK _ _ _ w' G' ⟨rfl, rfl⟩ r2 r3 r4
theorem qjr {P : Program} {TE : TyE} (hT : q2s P TE) {s : AS} {x : Operand} {t u : TypeId} {i j : TyI} (ht : TE t = some i) (hd : i.td = .slice u) (hu : TE u = some j) (hj : j.td = .int .u8) {k e : Nat} {bs : List UInt8} (hb0 : bs ≠ []) (hx : ev s.T x = .os k e) (hk : s.M k = some (.arr e 1 (q9o bs))) :
 Hook P s (.convert t t x) (fun v M' => v = .sl 1 (q9o bs) ∧ M' = upd s.M k (some .dead)) := by
 intro n B G act w hR o ho K Q hK
 have q1 := hR.ev x
 rw [hx] at q1
 generalize hxv : act.eval x = xv at q1
 cases q1 with
 | os _ _ hD _ hv =>
 have hm : OwnAt (Dm s.M) G B w (.arr k) 1 (q9o bs) (G.hd k e) := hR.mem k _ hk
 rw [← hv] at hm
 rcases hm with ⟨_, h0⟩ | ⟨b, off, cap, c, el, rfl, h2, h3, h4, h5, h6, h7, h8, h9⟩
 ·exact absurd h0 (by cases bs <;> simp [q9o] at hb0 ⊢)
 obtain ⟨d, inf, u1, u2, u3, u4, u5, u6, u7⟩ := hT t i ht
 obtain ⟨d', inf', u1', u2', _⟩ := hT u j hu
 have hdd : d = .slice u := by rw [hd] at u2; cases d <;> simp [TD.of] at u2; rw [u2]
 have hdd' : d' = .int .u8 := by rw [hj] at u2'; cases d' <;> simp [TD.of] at u2'; rw [u2']
 subst hdd
 subst hdd'
 let w' : World := w.freeze { block := b, off := c.size } 1
 have hlt : b < w.heap.size := (Array.getElem?_eq_some_iff.1 h5).1
 have hsz : w'.heap.size = w.heap.size := by simp [w', World.freeze]
 have hsame : ∀ r, r ≠ b → w'.heap[r]? = w.heap[r]? := fun r hr => by
  simp only [w', World.freeze]
  rw [if_neg (by decide)]
  simp only [Array.getElem?_modify]
  rw [if_neg (fun e => hr e.symm)]
 have hb' : w'.heap[b]? = some (.cells c el (c.size, c.size + 1)) := by
  simp only [w', World.freeze]
  rw [if_neg (by decide)]
  simp only [Array.getElem?_modify, if_true, h5, Option.map_some]
  rfl
 have hrun : (execOp act.eval o).run P w = .ok (.value (.slice (some ⟨b, off, none⟩) (q9o bs).length cap)) w' := by
  unfold execOp
  rw [ho]
  have hsh : w.shape? b = some (el, c.size) := by simp [World.shape?, h5]
  simp [convert, run_underlying u1, run_underlying u1', hxv, markStringish, shape, freeze, Sem.run, hsh, Result.andThen]
  rfl
 let G' : Gh := { G with ow := fun r => if r = b then none else G.ow r }
 have g0 : ∀ r, G.ow r = none → G'.ow r = none := fun r hr => by simp only [G', hr]; split <;> rfl
 have hA : Adv G w G' w' := ⟨⟨rfl, Nat.le_refl _⟩, rfl, rfl, by rw [hsz]; exact Nat.le_refl _, fun r hr ho => ⟨hsame r (fun e => by rw [e, h3] at ho; cases ho), g0 r ho⟩⟩
 have hR' : Rel n B G' ⟨s.T, upd s.M k (some .dead)⟩ act w' := hR.update hA k .dead (by show ql8 (s.M k) _; rw [hk]; trivial) (fun _ _ _ => ⟨rfl, rfl⟩) (fun r key hr hn ho hne => by
  have hrb : r ≠ b := fun e => by rw [e, h3] at ho; cases ho; exact hne rfl
  exact ⟨hsame r hrb, by simp only [G', if_neg hrb]; exact ho⟩) (fun r hr => by
  rw [hsz]
  refine hR.ol r fun hn => hr (g0 r hn)) trivial
 unfold Oper.wp
 rw [hrun]
 refine hK _ _ _ w' G' ⟨rfl, rfl⟩ hA hR' ?_
 refine .sl 1 (q9o bs) b off cap (fun m => c.getD (off + m) undef) h2 (fun _ => ⟨h4, by simp [G']⟩) h8 h7 (fun m y hy => ?_) (fun m y hy => ?_)
 ·obtain ⟨q, hq, _⟩ := h9 m y hy
  simp only [World.cell?, hb']
  simp [hq]
 ·obtain ⟨q, hq, hr⟩ := h9 m y hy
  have hf : c.getD (off + m) undef = q := by simp [hq]
  rw [hf]
  have hy' := List.mem_of_getElem? hy
  rw [qd2] at hy'
  simp only [q9o, List.mem_map] at hy'
  obtain ⟨z, _, rfl⟩ := hy'
  cases hr
  exact .int _ _

def z9y : List SOp := [zO 4 (.assign (.const (.bool false)))]
instance : Live z9y := ⟨[0,1]⟩
def z9x : List SOp := [zM 5 0,zO 6 (.convert 28 9 (.tmp 5)),zM 7 1,zO 8 (.convert 28 9 (.tmp 7)),zO 9 (.binOp .eql 9 (.tmp 6) (.tmp 8) 9),zG 4 9]
instance : Live z9x := ⟨[0,1]⟩
def t_k13 : SC :=
 (.seq (.ops false z9y) (.seq (.ops false z9x) .ret))
theorem it_k13 : FnIs Tryz.prog 13 10 [.tmp 4] t_k13 := ⟨Tryz.f13, _, Tryz.func13, rfl, rfl, rfl, rfl, by kernel_rfl⟩

def r_k9_1 : List SOp := [zO 0 (.assign (.const (.bool false)))]
instance : Live r_k9_1 := ⟨[]⟩
def r_k9_2 : List SOp := [zO 8 (.buildSlice 22 1 #[(0,.const (.int .i64 4))]),zO 9 (.build 82 #[(0,.const (.int .i64 0)),(1,.const (.int .i64 6)),(2,.const (.int .i64 12))]),zO 10 (.build 82 #[(0,.const (.int .i64 1)),(1,.const (.int .i64 2)),(2,.const (.int .i64 2))]),zO 11 (.buildSlice 23 2 #[(0,.tmp 9),(1,.tmp 10)]),zO 12 (.build 25 #[(0,.tmp 8),(1,.tmp 11)]),zO 13 (.call ⟨.value (.func 12),#[.tmp 12],#[25]⟩),zM 7 13,zX 14 7 0,zX 15 7 1,zG 1 14,zG 2 15]
instance : Live r_k9_2 := ⟨[]⟩
def r_k9_3 : List SOp := [zM 16 2,zO 17 (.binOp .neq 35 (.tmp 16) (.const (.int .i64 0)) 35),zM 18 17,⟨some 19,.move (.tmp 1),some ((some 18),false)⟩,⟨some 20,.convert 28 9 (.tmp 19),some ((some 18),false)⟩,⟨some 21,.binOp .neq 9 (.tmp 20) (.const (.string ⟨#[1,4,2,0,0,6,1,0,0]⟩)) 9,some ((some 18),false)⟩,zO 22 (.pick (.tmp 18) (.const (.bool true)) (.tmp 21))]
instance : Live r_k9_3 := ⟨[1,2]⟩
def r_k9_4 : List SOp := [zO 0 (.assign (.const (.bool false)))]
instance : Live r_k9_4 := ⟨[]⟩
def qog : List SOp := [zO 24 (.buildSlice 28 6 #[(0,.const (.int .u8 1)),(1,.const (.int .u8 2)),(2,.const (.int .u8 0)),(3,.const (.int .u8 1)),(4,.const (.int .u8 65)),(5,.const (.int .u8 4))]),zO 25 (.convert 28 28 (.tmp 24)),zO 26 (.call ⟨.value (.func 24),#[.tmp 25],#[28]⟩),zM 23 26,zX 27 23 0,zX 28 23 1,zG 3 27,zG 4 28]
instance : Live qog := ⟨[]⟩
def r_k9_6 : List SOp := [zM 29 4,zO 30 (.binOp .neq 35 (.tmp 29) (.const (.int .i64 0)) 35),zM 31 30,⟨some 32,.move (.tmp 3),some ((some 31),false)⟩,⟨some 33,.build 43 #[(0,.const (.int .i64 2)),(1,.const (.int .i64 1))],some ((some 31),false)⟩,⟨some 34,.build 45 #[(0,.tmp 33),(1,.const (.string ⟨#[65]⟩)),(2,.const (.int .i64 5))],some ((some 31),false)⟩,⟨some 35,.buildSlice 26 1 #[(0,.tmp 34)],some ((some 31),false)⟩,⟨some 36,.call ⟨.value (.func 17),#[.tmp 32,.tmp 35],#[26,26]⟩,some ((some 31),false)⟩,⟨some 37,.unOp .not 4 (.tmp 36),some ((some 31),false)⟩,zO 38 (.pick (.tmp 31) (.const (.bool true)) (.tmp 37))]
instance : Live r_k9_6 := ⟨[3,4]⟩
def r_k9_7 : List SOp := [zO 0 (.assign (.const (.bool false)))]
instance : Live r_k9_7 := ⟨[]⟩
def qof : List SOp := [zO 40 (.buildSlice 28 5 #[(0,.const (.int .u8 1)),(1,.const (.int .u8 0)),(2,.const (.int .u8 1)),(3,.const (.int .u8 1)),(4,.const (.int .u8 0))]),zO 41 (.convert 28 28 (.tmp 40)),zO 42 (.call ⟨.value (.func 26),#[.tmp 41],#[28]⟩),zM 39 42,zX 43 39 0,zX 44 39 1,zG 5 43,zG 6 44]
instance : Live qof := ⟨[]⟩
def r_k9_9 : List SOp := [zM 45 6,zO 46 (.binOp .eql 35 (.tmp 45) (.const (.int .i64 0)) 35),zM 47 46,⟨some 48,.move (.tmp 5),some ((some 47),true)⟩,⟨some 49,.buildSlice 22 1 #[(0,.const (.int .i64 1))],some ((some 47),true)⟩,⟨some 50,.build 25 #[(0,.tmp 49)],some ((some 47),true)⟩,⟨some 51,.build 84 #[(1,.tmp 50)],some ((some 47),true)⟩,⟨some 52,.buildSlice 27 1 #[(0,.tmp 51)],some ((some 47),true)⟩,⟨some 53,.call ⟨.value (.func 27),#[.tmp 48,.tmp 52],#[27,27]⟩,some ((some 47),true)⟩,zO 54 (.pick (.tmp 47) (.tmp 53) (.const (.bool false))),zG 0 54]
instance : Live r_k9_9 := ⟨[5,6]⟩
def t_k9 : SC :=
 (.seq (.ops false r_k9_1) (.seq (.ops false r_k9_2) (.seq (.seq (.ops false r_k9_3) (.cond (.tmp 22) (.seq (.ops false r_k9_4) .ret) .skip)) (.seq (.ops false qog) (.seq (.seq (.ops false r_k9_6) (.cond (.tmp 38) (.seq (.ops false r_k9_7) .ret) .skip)) (.seq (.ops false qof) (.seq (.ops false r_k9_9) .ret)))))))
theorem it_k9 : FnIs Tryz.prog 9 55 [.tmp 0] t_k9 := ⟨Tryz.f9, _, Tryz.func9, rfl, rfl, rfl, rfl, by kernel_rfl⟩

def qdk (b : Bs) : ByteArray := ⟨b.toArray⟩
theorem z10 {a b : Bs} (h : qdk a = qdk b) : a = b := by
 have := congrArg (fun x => x.data.toList) h
 simpa [qdk] using this
abbrev numsB (b : Bs) : List Int := b.map fun c => (c.toNat : Int)
theorem qcn (b : Bs) : qzb (numsB b) = qdk b := by
 have key : ∀ (b : Bs) (r : ByteArray), (numsB b).foldl (fun r n => r.push (UInt8.ofNat n.toNat)) r = ⟨r.data ++ b.toArray⟩ := by
  intro b
  induction b with
  | nil => intro r; simp [numsB]
  | cons c b ih =>
   intro r
   show (numsB b).foldl _ (r.push (UInt8.ofNat ((c.toNat : Int)).toNat)) = _
   rw [ih, Int.toNat_natCast, UInt8.ofNat_toNat]
   simp [ByteArray.push]
 have := key b ByteArray.empty
 unfold qzb
 rw [this]
 simp [qdk]
theorem zbp (a b : Bs) : Ev (En Tryz.prog rfl).P 13 [.sl 1 (q1f a), .sl 1 (q1f b)] (.ret (.bool (decide (a = b)))) := by
 refine Ev.of_body it_k13 (by simp) (Run.start ?_)
 unfold t_k13
 have n1 := q4y a
 have n2 := q4y b
 have s1 := qcn a
 have s2 := qcn b
 have hd : decide (qdk a = qdk b) = decide (a = b) := by
  by_cases h : a = b
  ·subst h; simp
  ·have : qdk a ≠ qdk b := fun e => h (z10 e)
   simp [h, this]
 (focus (have hF := (aI (aI @n1 @n2) (aI @s1 (aI @s2 @hd))); (repeat' (first | refine go1 (k:=?_) | with_reducible refine Ny.of ?_ ?_ | (refine Hyp.of ?_; intro hc; (try simp only [hc]); (try simp only [Bh] at hc)))); all_goals clear hF))
 exact Fin.all rfl rfl rfl
theorem zb4 {α : Type} {z x : α} {ok : α → Bool} {b : Bs} {r : Rs α} (h : r = .ok (x, b.length)) (ho : ok x = true) : getV z ok b r = x ∧ getE z ok b r = 0 := by
 have hr : qoe b r = true := by rw [h]; simp [qoe, rdA, rdE, q63]
 have hv : rdV z r = x := by rw [h]; rfl
 unfold getV getE
 rw [hr, hv, ho]
 exact ⟨rfl, rfl⟩
theorem ev_k9 : Ev (En Tryz.prog rfl).P 9 [] (.ret (.bool true)) := by
 have c1 : Ev (En Tryz.prog rfl).P 12 [q1k fixP] (.ret (.tup [.sl 1 (q1f qzx), .int .i64 0])) := by
  have := ev_k12 fixP (by decide) fun h => (q71 h).pw (by decide)
  rw [zba, qzw] at this
  exact this
 have e2 : q0g qer 0 = .ok (qmi, qer.length) := qj8 (by rw [qzy]; exact St.all _) (qmh qbj) (formE_sz qbj) (by decide)
 have c2 : Ev (En Tryz.prog rfl).P 24 [.sl 1 (q1f qer)] (.ret (.tup [.sl 4 (q1j qmi), .int .i64 0])) := by
  have := ev_k24 qer (by decide) (by rw [e2]; exact (by decide : qmi.length ≤ 1000000000))
  obtain ⟨h1, h2⟩ := zb4 (z := []) (ok := q4c) e2 qbj
  rw [h1, h2] at this
  exact this
 have c3 : Ev (En Tryz.prog rfl).P 17 [.sl 4 (q1j qmi), .sl 4 (q1j qmi)] (.ret (.bool true)) := ev_k17 qmi (by decide)
 have e4 : q0f qeq 0 = .ok (ql6, qeq.length) := qj6 (by rw [qzv]; exact St.all _) (fun r hr => (qeo qbi r hr).1) (fun r hr => (qeo qbi r hr).2) (by decide)
 have c4 : Ev (En Tryz.prog rfl).P 26 [.sl 1 (q1f qeq)] (.ret (.tup [.sl 3 (q1i ql6), .int .i64 0])) := by
  have hw : ∀ r ∈ ql6, wt r.past ≤ 40000000 := by decide
  have := ev_k26 qeq (by decide) (by rw [e4]; exact (by decide : ql6.length ≤ 1000000000)) (by rw [e4]; exact hw)
  obtain ⟨h1, h2⟩ := zb4 (z := []) (ok := q4z) e4 qbi
  rw [h1, h2] at this
  exact this
 have c5 : Ev (En Tryz.prog rfl).P 27 [.sl 3 (q1i ql6), .sl 3 (q1i ql6)] (.ret (.bool true)) := ev_k27 ql6 (by decide) (by decide)
 refine Ev.of_body it_k9 (by simp) (Run.start ?_)
 unfold t_k9
 have hS := qo6
 generalize hx : SC.ops false qog = X
 generalize hy : SC.ops false qof = Y
 (focus (have hF := @q00; (repeat' (first | refine go1 (k:=?_) | with_reducible refine Ny.of ?_ ?_ | (refine Hyp.of ?_; intro hc; (try simp only [hc]); (try simp only [Bh] at hc)))); all_goals clear hF))
 refine q05 [q1k fixP] (he := c1) (k:=?_)
 have n1 := q4y qzx
 have s1 := qg7 qzx
 have d1 : ((⟨qzx.toArray⟩ : ByteArray) = ⟨#[1, 4, 2, 0, 0, 6, 1, 0, 0]⟩) = True := eq_true rfl
 (focus (have hF := (aI @n1 (aI @s1 @d1)); (repeat' (first | refine go1 (k:=?_) | with_reducible refine Ny.of ?_ ?_ | (refine Hyp.of ?_; intro hc; (try simp only [hc]); (try simp only [Bh] at hc)))); all_goals clear hF))
 subst hx
 refine Run.ops ?_
 unfold qog
 refine q2f (qcy (TE := TE0) (En Tryz.prog rfl).hT (s := ⟨_, _⟩) (sz := 1) (xs := q9o qer) (by decide) (by with_unfolding_all rfl) 24 (by with_unfolding_all rfl)) ?_
 rintro v M' ⟨rfl, rfl⟩
 dsimp only [AS.put]
 refine q2f (qjr (TE := TE0) (En Tryz.prog rfl).hT (s := ⟨_, _⟩) TE_28 rfl TE_5 rfl (bs := qer) (by decide) (k := 24) (e := 0) (by with_unfolding_all rfl) (by with_unfolding_all rfl)) ?_
 rintro v M' ⟨rfl, rfl⟩
 dsimp only [AS.put]
 refine q05 [.sl 1 (q1f qer)] (he := c2) (k:=?_)
 (focus (have hF := @q00; (repeat' (first | refine go1 (k:=?_) | with_reducible refine Ny.of ?_ ?_ | (refine Hyp.of ?_; intro hc; (try simp only [hc]); (try simp only [Bh] at hc)))); all_goals clear hF))
 refine q05 [.sl 4 (q1j qmi), .sl 4 (q1j qmi)] (he := c3) (k:=?_)
 (focus (have hF := @q00; (repeat' (first | refine go1 (k:=?_) | with_reducible refine Ny.of ?_ ?_ | (refine Hyp.of ?_; intro hc; (try simp only [hc]); (try simp only [Bh] at hc)))); all_goals clear hF))
 subst hy
 refine Run.ops ?_
 unfold qof
 refine q2f (qcy (TE := TE0) (En Tryz.prog rfl).hT (s := ⟨_, _⟩) (sz := 1) (xs := q9o qeq) (by decide) (by with_unfolding_all rfl) 40 (by with_unfolding_all rfl)) ?_
 rintro v M' ⟨rfl, rfl⟩
 dsimp only [AS.put]
 refine q2f (qjr (TE := TE0) (En Tryz.prog rfl).hT (s := ⟨_, _⟩) TE_28 rfl TE_5 rfl (bs := qeq) (by decide) (k := 40) (e := 0) (by with_unfolding_all rfl) (by with_unfolding_all rfl)) ?_
 rintro v M' ⟨rfl, rfl⟩
 dsimp only [AS.put]
 refine q05 [.sl 1 (q1f qeq)] (he := c4) (k:=?_)
 (focus (have hF := @q00; (repeat' (first | refine go1 (k:=?_) | with_reducible refine Ny.of ?_ ?_ | (refine Hyp.of ?_; intro hc; (try simp only [hc]); (try simp only [Bh] at hc)))); all_goals clear hF))
 replace c5 : Ev (En Tryz.prog rfl).P 27 [.sl 3 (q1i ql6), .sl 3 [.agg [.str ⟨#[]⟩, .sl 1 (q04 [1]), .nil]]] _ := c5.wks ⟨Wkn.refl _, Wkn.sl rfl ⟨Wkn.refl _, Wkn.refl _, Wkn.nil 3, trivial⟩ (by decide) (by decide), trivial⟩
 refine q05 [.sl 3 (q1i ql6), .sl 3 [.agg [.str ⟨#[]⟩, .sl 1 (q04 [1]), .nil]]] (he := c5) (k:=?_)
 (focus (have hF := @q00; (repeat' (first | refine go1 (k:=?_) | with_reducible refine Ny.of ?_ ?_ | (refine Hyp.of ?_; intro hc; (try simp only [hc]); (try simp only [Bh] at hc)))); all_goals clear hF))
 exact Fin.all rfl rfl rfl

theorem qkj : Tryz.prog.cellsOf 9 = 1 := by kernel_rfl
theorem qkk : Tryz.prog.cellsOf 84 = 3 := by kernel_rfl
theorem qkl : Tryz.prog.cellsOf 45 = 4 := by kernel_rfl
theorem qdc : Tryz.prog.cellsOf 27 = 1 := by kernel_rfl
theorem qdd : Tryz.prog.cellsOf 26 = 1 := by kernel_rfl
theorem op_str : Opens Tryz.prog 9 ByteArray (fun _ => True) (fun s => [.str s]) (fun s => s.size + 1) := Opens.string Tryz.underlying9
def okK (r : Rec) : Prop := okP r.past
def cellsK (r : Rec) : List AVal := [.str r.sku, .sl 1 (q04 r.past.vec), .sl 3 (q0e r.past.cloud)]
theorem op_Rec : Opens Tryz.prog 84 Rec okK cellsK wtK :=
 (Opens.struct Tryz.underlying84 qkk (OpensF.cons (k := 1) op_str (fun _ => rfl) qkj rfl (OpensF.cons (k := 2) qm3 (fun _ => rfl) q6y rfl (OpensF.nil _)))).map
  (fun x => ⟨x.1, x.2.1⟩) (fun x h => h.2.1) (fun _ => rfl) (fun x => by show wt x.2.1 + 1 ≤ x.1.size + 1 + (wt x.2.1 + 0) + 1; omega)
theorem zaf : Opens Tryz.prog 27 (List Rec) (fun l => ∀ x ∈ l, okK x) (fun l => [.sl 3 (q1i l)]) (wtL wtK) :=
 Opens.slice (mk := qbp) Tryz.underlying27 op_Rec qkk (by decide) (fun _ => rfl) (fun _ => rfl) (fun x y hy => by simp [cellsK] at hy; rcases hy with rfl | rfl | rfl <;> rfl)
def okE (e : Ent) : Prop := True
def cellsE (e : Ent) : List AVal := [.int .i64 e.rep, .int .i64 e.num, .str e.sku, .int .i64 e.qty]
theorem op_Ent : Opens Tryz.prog 45 Ent okE cellsE (fun _ => 1) :=
 (Opens.struct Tryz.underlying45 qkl (OpensF.cons (k := 2) op_Dot (fun _ => rfl) qkm rfl (OpensF.cons (k := 1) op_str (fun _ => rfl) qkj rfl (OpensF.cons (k := 1) qb3 (fun _ => rfl) q4b rfl (OpensF.nil _))))).map
  (fun x => ⟨x.1.1, x.1.2, x.2.1, x.2.2.1⟩) (fun x h => trivial) (fun _ => rfl) (fun _ => Nat.le_add_left _ _)
theorem zag : Opens Tryz.prog 26 (List Ent) (fun l => ∀ x ∈ l, okE x) (fun l => [.sl 4 (q1j l)]) (wtL fun _ => 1) :=
 Opens.slice (mk := encE) Tryz.underlying26 op_Ent qkl (by decide) (fun _ => rfl) (fun _ => rfl) (fun x y hy => by simp [cellsE] at hy; rcases hy with rfl | rfl | rfl | rfl <;> rfl)
structure CasK where
 r : List Rec
 q : List Rec
 a : List Ent
 b : List Ent
 p : Pst
 o : Pst

section
open Go.Proofs Go.ChangeShapes Go.WideShapes Go.ChangeAt Go.RowKit
theorem Opens.byte {P : Program} {t : TypeId} (ht : P.underlying t = some (.int .u8)) : Opens P t UInt8 (fun _ => True) (fun c => [.int .u8 (c.toNat : Int)]) (fun _ => 1) := by
 refine ⟨fun {H} enc w fuel cs d ps h => ?_⟩
 obtain ⟨n, rfl, hx, hw⟩ := DataW.trod_int ht h
 have hd : d = .lit (.int .u8 n) := congrArg Prod.fst hx
 subst hd
 have hb := bounds_u8 hw
 refine ⟨UInt8.ofNat n.toNat, trivial, by simp [Rows.uptoBulk], rfl, fun i y v hy hv G hG => ?_⟩
 match i with
 | 0 =>
  simp only [List.getElem?_cons_zero, Option.some.injEq] at hy hv
  subst hy; subst hv
  have hn : ((UInt8.ofNat n.toNat).toNat : Int) = n := by
   rw [UInt8.toNat_ofNat']
   omega
  rw [hn]
  exact .int _ _
 | i + 1 => simp at hy
theorem z0b : Tryz.prog.cellsOf 5 = 1 := by kernel_rfl
theorem q7i : Tryz.prog.cellsOf 28 = 1 := by kernel_rfl
def mkB (c : UInt8) : AVal := .int .u8 (c.toNat : Int)
theorem qec : Opens Tryz.prog 28 Bs (fun l => ∀ x ∈ l, True) (fun l => [.sl 1 (q1f l)]) (wtL fun _ => 1) :=
 Opens.slice (mk := mkB) Tryz.underlying28 (Opens.byte Tryz.underlying5) z0b (by decide) (fun _ => rfl) (fun _ => rfl) (fun x y hy => by simp at hy; subst hy; rfl)
structure CasP where
 p : Pst
 q : Pst
 es : List Ent
 fs : List Ent
 rs : List Rec
 ts : List Rec
 a : Bs
 b : Bs
 c : Bs
def qkn (x : CasP) : List AVal := [.sl 1 (q04 x.p.vec), .sl 3 (q0e x.p.cloud), .sl 1 (q04 x.q.vec), .sl 3 (q0e x.q.cloud), .sl 4 (q1j x.es), .sl 4 (q1j x.fs), .sl 3 (q1i x.rs), .sl 3 (q1i x.ts), .sl 1 (q1f x.a), .sl 1 (q1f x.b), .sl 1 (q1f x.c)]
def encZ (x : CasP) : AVal := .agg (qkn x)
def okZ (x : CasP) : Prop := okP x.p ∧ okP x.q
def wtZ (x : CasP) : Nat := wt x.p + wt x.q + x.es.length + x.fs.length + ql9 x.rs + ql9 x.ts + x.a.length + x.b.length + x.c.length
theorem qmu : Tryz.prog.cellsOf 30 = 11 := by kernel_rfl
theorem op_CaseP : Opens Tryz.prog 30 CasP okZ qkn wtZ :=
 (Opens.struct Tryz.underlying30 qmu (OpensF.cons (k := 2) qm3 (fun _ => rfl) q6y rfl (OpensF.cons (k := 2) qm3 (fun _ => rfl) q6y rfl
  (OpensF.cons (k := 1) zag (fun _ => rfl) qdd rfl (OpensF.cons (k := 1) zag (fun _ => rfl) qdd rfl (OpensF.cons (k := 1) zaf (fun _ => rfl) qdc rfl (OpensF.cons (k := 1) zaf (fun _ => rfl) qdc rfl
  (OpensF.cons (k := 1) qec (fun _ => rfl) q7i rfl (OpensF.cons (k := 1) qec (fun _ => rfl) q7i rfl (OpensF.cons (k := 1) qec (fun _ => rfl) q7i rfl (OpensF.nil _))))))))))).map
  (fun x => ⟨x.1, x.2.1, x.2.2.1, x.2.2.2.1, x.2.2.2.2.1, x.2.2.2.2.2.1, x.2.2.2.2.2.2.1, x.2.2.2.2.2.2.2.1, x.2.2.2.2.2.2.2.2.1⟩) (fun x h => ⟨h.1, h.2.1⟩) (fun _ => rfl)
  (fun x => by
   show wt x.1 + wt x.2.1 + x.2.2.1.length + x.2.2.2.1.length + ql9 x.2.2.2.2.1 + ql9 x.2.2.2.2.2.1 + x.2.2.2.2.2.2.1.length + x.2.2.2.2.2.2.2.1.length + x.2.2.2.2.2.2.2.2.1.length ≤
    wt x.1 + (wt x.2.1 + (wtL (fun _ => 1) x.2.2.1 + (wtL (fun _ => 1) x.2.2.2.1 + ((ql9 x.2.2.2.2.1 + 1) + ((ql9 x.2.2.2.2.2.1 + 1) + (wtL (fun _ => 1) x.2.2.2.2.2.2.1 + (wtL (fun _ => 1) x.2.2.2.2.2.2.2.1 + (wtL (fun _ => 1) x.2.2.2.2.2.2.2.2.1 + 0)))))))) + 1
   rw [q7a, q7a, q7a, q7a, q7a]; omega)
end
theorem qyd {l : List Rec} (h : q4z l = true) (hw : ql9 l ≤ 40000000) : RW l ∧ (q19 l).length ≤ 600000000000 := by
 have hll := qn5 l
 have hr : ∀ r ∈ l, r.sku.size ≤ 24 ∧ PW r.past := fun r hr => by
  have h1 := (qeo h r hr).1
  have h2 := wtK_le hr
  refine ⟨h1.1, h1.2.pw ?_⟩
  unfold wtK wt at h2
  omega
 have key : ∀ m : List Rec, (∀ r ∈ m, r.sku.size ≤ 24 ∧ PW r.past) → (q2q m).length ≤ 100 * ql9 m := by
  intro m
  induction m with
  | nil => intro _; simp [q2q]
  | cons r m ih =>
   intro hm
   have h1 := ih fun x hx => hm x (by simp [hx])
   obtain ⟨h2, h3⟩ := hm r (by simp)
   have h4 := qjd h3
   have h5 := q08 (n := r.sku.size) (by omega)
   have h6 : r.sku.data.toList.length = r.sku.size := rfl
   have h7 : ql9 (r :: m) = wtK r + ql9 m := by simp [ql9]
   have h8 : wtK r = r.past.vec.length + r.past.cloud.length + 1 := rfl
   simp only [q2q, List.flatMap_cons, List.length_append, recB] at h1 ⊢
   omega
 have h9 := key l hr
 have h10 := q08 (n := l.length) (by omega)
 refine ⟨⟨by omega, fun r hrr => ⟨by have := (hr r hrr).1; omega, (hr r hrr).2⟩⟩, ?_⟩
 simp only [q19, List.length_append]
 omega

def r_k5_1 : List SOp := [zO 1 (.box 30 (.tmp 0)),zO 2 (.assign (.const (.bool false)))]
instance : Live r_k5_1 := ⟨[0]⟩
def r_k5_2 : List SOp := [zO 7 (.call ⟨.value (.func 9),#[],#[]⟩),zO 8 (.unOp .not 4 (.tmp 7))]
instance : Live r_k5_2 := ⟨[1]⟩
def r_k5_3 : List SOp := [zO 2 (.assign (.const (.bool false)))]
instance : Live r_k5_3 := ⟨[]⟩
def r_k5_4 : List SOp := [zF 10 30 1 0,zL 11 25 10,zO 12 (.call ⟨.value (.func 12),#[.tmp 11],#[25]⟩),zM 9 12,zX 13 9 0,zX 14 9 1,zG 3 13,zG 4 14]
instance : Live r_k5_4 := ⟨[1]⟩
def r_k5_5 : List SOp := [zF 16 30 1 0,zL 17 25 16,zO 18 (.call ⟨.value (.func 18),#[.tmp 17],#[25]⟩),zM 15 18,zX 19 15 0,zX 20 15 1,zG 5 19,zG 6 20]
instance : Live r_k5_5 := ⟨[1,3,4]⟩
def r_k5_6 : List SOp := [zM 21 4,zM 22 6,zO 23 (.binOp .neq 35 (.tmp 21) (.tmp 22) 35),zM 24 23,⟨some 25,.move (.tmp 3),some ((some 24),false)⟩,⟨some 26,.move (.tmp 5),some ((some 24),false)⟩,⟨some 27,.call ⟨.value (.func 13),#[.tmp 25,.tmp 26],#[28,28]⟩,some ((some 24),false)⟩,⟨some 28,.unOp .not 4 (.tmp 27),some ((some 24),false)⟩,zO 29 (.pick (.tmp 24) (.const (.bool true)) (.tmp 28))]
instance : Live r_k5_6 := ⟨[1,3,4,5,6]⟩
def r_k5_7 : List SOp := [zO 2 (.assign (.const (.bool false)))]
instance : Live r_k5_7 := ⟨[]⟩
def r_k5_8 : List SOp := [zF 31 30 1 2,zL 32 26 31,zO 33 (.call ⟨.value (.func 15),#[.tmp 32],#[26]⟩),zM 30 33,zX 34 30 0,zX 35 30 1,zG 3 34,zG 4 35]
instance : Live r_k5_8 := ⟨[1]⟩
def r_k5_9 : List SOp := [zF 37 30 1 2,zL 38 26 37,zO 39 (.call ⟨.value (.func 19),#[.tmp 38],#[26]⟩),zM 36 39,zX 40 36 0,zX 41 36 1,zG 5 40,zG 6 41]
instance : Live r_k5_9 := ⟨[1,3,4]⟩
def z4w : List SOp := [zM 42 4,zM 43 6,zO 44 (.binOp .neq 35 (.tmp 42) (.tmp 43) 35),zM 45 44,⟨some 46,.move (.tmp 3),some ((some 45),false)⟩,⟨some 47,.move (.tmp 5),some ((some 45),false)⟩,⟨some 48,.call ⟨.value (.func 13),#[.tmp 46,.tmp 47],#[28,28]⟩,some ((some 45),false)⟩,⟨some 49,.unOp .not 4 (.tmp 48),some ((some 45),false)⟩,zO 50 (.pick (.tmp 45) (.const (.bool true)) (.tmp 49))]
instance : Live z4w := ⟨[1,3,4,5,6]⟩
def z4v : List SOp := [zO 2 (.assign (.const (.bool false)))]
instance : Live z4v := ⟨[]⟩
def z4u : List SOp := [zF 52 30 1 4,zL 53 27 52,zO 54 (.call ⟨.value (.func 20),#[.tmp 53],#[27]⟩),zM 51 54,zX 55 51 0,zX 56 51 1,zG 3 55,zG 4 56]
instance : Live z4u := ⟨[1]⟩
def z4t : List SOp := [zF 58 30 1 4,zL 59 27 58,zO 60 (.call ⟨.value (.func 21),#[.tmp 59],#[27]⟩),zM 57 60,zX 61 57 0,zX 62 57 1,zG 5 61,zG 6 62]
instance : Live z4t := ⟨[1,3,4]⟩
def z4s : List SOp := [zM 63 4,zM 64 6,zO 65 (.binOp .eql 35 (.tmp 63) (.tmp 64) 35),zM 66 65,⟨some 67,.move (.tmp 3),some ((some 66),true)⟩,⟨some 68,.move (.tmp 5),some ((some 66),true)⟩,⟨some 69,.call ⟨.value (.func 13),#[.tmp 67,.tmp 68],#[28,28]⟩,some ((some 66),true)⟩,zO 70 (.pick (.tmp 66) (.tmp 69) (.const (.bool false))),zG 2 70]
instance : Live z4s := ⟨[3,4,5,6]⟩
def t_k5 : SC :=
 (.seq (.ops false r_k5_1) (.seq (.seq (.ops false r_k5_2) (.cond (.tmp 8) (.seq (.ops false r_k5_3) .ret) .skip)) (.seq (.ops false r_k5_4) (.seq (.ops false r_k5_5) (.seq (.seq (.ops false r_k5_6) (.cond (.tmp 29) (.seq (.ops false r_k5_7) .ret) .skip)) (.seq (.ops false r_k5_8) (.seq (.ops false r_k5_9) (.seq (.seq (.ops false z4w) (.cond (.tmp 50) (.seq (.ops false z4v) .ret) .skip)) (.seq (.ops false z4u) (.seq (.ops false z4t) (.seq (.ops false z4s) .ret)))))))))))
theorem it_k5 : FnIs Tryz.prog 5 71 [.tmp 2] t_k5 := ⟨Tryz.f5, _, Tryz.func5, rfl, rfl, rfl, rfl, by kernel_rfl⟩

theorem ev_k5 (x : CasP) (hw : wtZ x ≤ 1100000) : Ev (En Tryz.prog rfl).P 5 [encZ x] (.ret (.bool true)) := by
 have hS := qo6
 unfold wtZ at hw
 have hp : wt x.p ≤ 1100000 := by omega
 have hp2 := hp
 unfold wt at hp2
 have hr := qn5 x.rs
 have hr2 : ∀ r ∈ x.rs, wt r.past ≤ 1100000 := fun r hr => by have := wtK_le hr; unfold wtK at this; omega
 have a1 := ev_k12 x.p (by omega) (fun h => (q71 h).pw (by omega))
 have a2 := ev_k18 x.p (by omega) (fun h => (q71 h).pw (by omega))
 have b1 := ev_k15 x.es (by omega) (fun h => qye (by omega) h)
 have b2 := ev_k19 x.es (by omega) (fun h => qye (by omega) h)
 have c1 := ev_k20 x.rs (by omega) (fun r hr => by have := hr2 r hr; omega) (fun h => qyd h (by omega))
 have c2 := ev_k21 x.rs (by omega) (fun r hr => by have := hr2 r hr; omega) (fun h => qyd h (by omega))
 unfold putR at a1 a2 b1 b2 c1 c2
 generalize (if q15 x.p = true then q34 x.p else []) = A at *
 generalize (if q15 x.p = true then (0 : Int) else 1) = rA at *
 generalize (if q4c x.es = true then q1q x.es else []) = B at *
 generalize (if q4c x.es = true then (0 : Int) else 1) = rB at *
 generalize (if q4z x.rs = true then q19 x.rs else []) = C at *
 generalize (if q4z x.rs = true then (0 : Int) else 1) = rC at *
 have s1 := zbp A A
 have s2 := zbp B B
 have s3 := zbp C C
 rw [decide_eq_true rfl] at s1 s2 s3
 refine Ev.of_body it_k5 (by simp) (Run.start ?_)
 unfold t_k5
 have hcs : q0m (qkn x) = true := by simp [qkn, q0m, AVal.stb, q02, q03, q0p, q0i, q01]
 unfold encZ qkn at *
 (focus (have hF := @hcs; (repeat' (first | refine go1 (k:=?_) | with_reducible refine Ny.of ?_ ?_ | (refine Hyp.of ?_; intro hc; (try simp only [hc]); (try simp only [Bh] at hc)))); all_goals clear hF))
 refine q05 [] (he := ev_k9) (k:=?_)
 (focus (have hF := @hcs; (repeat' (first | refine go1 (k:=?_) | with_reducible refine Ny.of ?_ ?_ | (refine Hyp.of ?_; intro hc; (try simp only [hc]); (try simp only [Bh] at hc)))); all_goals clear hF))
 refine q05 [q1k x.p] (he := a1) (k:=?_)
 (focus (have hF := @hcs; (repeat' (first | refine go1 (k:=?_) | with_reducible refine Ny.of ?_ ?_ | (refine Hyp.of ?_; intro hc; (try simp only [hc]); (try simp only [Bh] at hc)))); all_goals clear hF))
 refine q05 [q1k x.p] (he := a2) (k:=?_)
 (focus (have hF := @hcs; (repeat' (first | refine go1 (k:=?_) | with_reducible refine Ny.of ?_ ?_ | (refine Hyp.of ?_; intro hc; (try simp only [hc]); (try simp only [Bh] at hc)))); all_goals clear hF))
 refine q05 [.sl 1 (q1f A), .sl 1 (q1f A)] (he := s1) (k:=?_)
 (focus (have hF := @hcs; (repeat' (first | refine go1 (k:=?_) | with_reducible refine Ny.of ?_ ?_ | (refine Hyp.of ?_; intro hc; (try simp only [hc]); (try simp only [Bh] at hc)))); all_goals clear hF))
 refine q05 [.sl 4 (q1j x.es)] (he := b1) (k:=?_)
 (focus (have hF := @hcs; (repeat' (first | refine go1 (k:=?_) | with_reducible refine Ny.of ?_ ?_ | (refine Hyp.of ?_; intro hc; (try simp only [hc]); (try simp only [Bh] at hc)))); all_goals clear hF))
 refine q05 [.sl 4 (q1j x.es)] (he := b2) (k:=?_)
 (focus (have hF := @hcs; (repeat' (first | refine go1 (k:=?_) | with_reducible refine Ny.of ?_ ?_ | (refine Hyp.of ?_; intro hc; (try simp only [hc]); (try simp only [Bh] at hc)))); all_goals clear hF))
 refine q05 [.sl 1 (q1f B), .sl 1 (q1f B)] (he := s2) (k:=?_)
 (focus (have hF := @hcs; (repeat' (first | refine go1 (k:=?_) | with_reducible refine Ny.of ?_ ?_ | (refine Hyp.of ?_; intro hc; (try simp only [hc]); (try simp only [Bh] at hc)))); all_goals clear hF))
 refine q05 [.sl 3 (q1i x.rs)] (he := c1) (k:=?_)
 (focus (have hF := @hcs; (repeat' (first | refine go1 (k:=?_) | with_reducible refine Ny.of ?_ ?_ | (refine Hyp.of ?_; intro hc; (try simp only [hc]); (try simp only [Bh] at hc)))); all_goals clear hF))
 refine q05 [.sl 3 (q1i x.rs)] (he := c2) (k:=?_)
 (focus (have hF := @hcs; (repeat' (first | refine go1 (k:=?_) | with_reducible refine Ny.of ?_ ?_ | (refine Hyp.of ?_; intro hc; (try simp only [hc]); (try simp only [Bh] at hc)))); all_goals clear hF))
 refine q05 [.sl 1 (q1f C), .sl 1 (q1f C)] (he := s3) (k:=?_)
 (focus (have hF := @hcs; (repeat' (first | refine go1 (k:=?_) | with_reducible refine Ny.of ?_ ?_ | (refine Hyp.of ?_; intro hc; (try simp only [hc]); (try simp only [Bh] at hc)))); all_goals clear hF))
 exact Fin.all rfl rfl rfl

end Go.Proofs.YtkionmommpgcmaaGreat.Avm
