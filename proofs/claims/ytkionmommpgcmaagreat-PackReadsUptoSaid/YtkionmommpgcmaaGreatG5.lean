/- Part 5 of the proof: lemmas. -/
import Derived.Test.YtkionmommpgcmaaGreatG4
import Derived.Test.YtkionmommpgcmaaGreatProg
import Derived.KernelRfl
import Derived.Test.YtkionmommpgcmaaGreatRows
import Derived.WalkKit
import Derived.ProofKit
import Derived.OpenShut
import Derived.JoinedCond
import Derived.Carry
set_option maxRecDepth 100000
set_option maxHeartbeats 4000000
set_option linter.unusedVariables false
set_option linter.unusedSimpArgs false
set_option linter.unusedSectionVars false
set_option linter.defProp false
namespace Go.Proofs.YtkionmommpgcmaaGreat.Avm
open Go.Proofs
def qf2 : List SOp := [zO 6 (.call ⟨.builtin .recover,#[],#[]⟩),zG 2 6]
instance : Live qf2 := ⟨[0,1]⟩
def qwy : List SOp := [zL 7 140 0,zO 8 (.nilCheck (.tmp 7)),zF 9 163 8 1,zL 10 3 9,zL 11 140 0,zO 12 (.nilCheck (.tmp 11)),zF 13 163 12 0,zL 14 28 13,zO 15 (.call ⟨.builtin .len,#[.tmp 14],#[28]⟩),zO 16 (.binOp .lss 3 (.tmp 10) (.tmp 15) 3),zG 3 16]
instance : Live qwy := ⟨[0,1,2]⟩
def qwx : List SOp := [zL 17 140 0,zL 18 140 0,zO 19 (.nilCheck (.tmp 17)),zF 20 163 19 2,⟨none,.store 4 (.tmp 20) (.const (.bool false)),none⟩,zO 21 (.nilCheck (.tmp 18)),zF 22 163 21 0,⟨none,.store 28 (.tmp 22) (.const (.slice none 0 0)),none⟩]
instance : Live qwx := ⟨[0,1,2,3]⟩
def qww : List SOp := [zM 24 2,zO 25 (.typeAssert (.tmp 24) 20 165 true),zM 23 25,zX 26 23 0,zX 27 23 1,zO 4 (.alloc 165),⟨none,.store 165 (.tmp 4) (.tmp 26),none⟩,zG 5 27]
instance : Live qww := ⟨[0,1,2,3]⟩
def qwv : List SOp := [zM 28 5,zM 29 28,⟨some 30,.fieldAddr 165 (.tmp 4) 0,some ((some 29),true)⟩,⟨some 31,.load 140 (.tmp 30),some ((some 29),true)⟩,⟨some 32,.load 140 (.tmp 0),some ((some 29),true)⟩,⟨some 33,.binOp .neq 140 (.tmp 31) (.tmp 32) 140,some ((some 29),true)⟩,zO 34 (.pick (.tmp 29) (.tmp 33) (.const (.bool false))),zM 35 34,⟨some 36,.fieldAddr 165 (.tmp 4) 0,some ((some 35),true)⟩,⟨some 37,.load 140 (.tmp 36),some ((some 35),true)⟩,⟨some 38,.nilCheck (.tmp 37),some ((some 35),true)⟩,⟨some 39,.fieldAddr 163 (.tmp 38) 2,some ((some 35),true)⟩,⟨some 40,.load 4 (.tmp 39),some ((some 35),true)⟩,zO 41 (.pick (.tmp 35) (.tmp 40) (.const (.bool false)))]
instance : Live qwv := ⟨[0,1,2,3,4,5]⟩
def qwu : List SOp := [zL 42 165 4,zO 43 (.makeInterface 165 (.tmp 42)),⟨none,.panic (.tmp 43),none⟩]
instance : Live qwu := ⟨[0,1,2,3,4]⟩
def qwt : List SOp := [zL 45 140 0,zO 46 (.nilCheck (.tmp 45)),zF 47 163 46 3,zL 48 35 47,zO 49 (.binOp .neq 35 (.tmp 48) (.const (.int .i64 0)) 35),zG 44 49]
instance : Live qwt := ⟨[0,1,2,3]⟩
def qws : List SOp := [zL 50 140 0,zO 51 (.nilCheck (.tmp 50)),zF 52 163 51 3,zL 53 35 52,⟨none,.store 35 (.tmp 1) (.tmp 53),none⟩]
instance : Live qws := ⟨[0,1]⟩
def qwr : List SOp := [zM 55 2,zO 56 (.binOp .neq 20 (.tmp 55) (.const .nilIface) 20),zG 54 56]
instance : Live qwr := ⟨[1,2,3]⟩
def qiw : List SOp := [⟨none,.store 35 (.tmp 1) (.const (.int .i64 8)),none⟩]
instance : Live qiw := ⟨[1]⟩
def qiv : List SOp := [zM 58 3,zG 57 58]
instance : Live qiv := ⟨[1,3]⟩
def qiu : List SOp := [⟨none,.store 35 (.tmp 1) (.const (.int .i64 52)),none⟩]
instance : Live qiu := ⟨[1]⟩
def qb8 : SC :=
 (.seq (.ops false qf2) (.seq (.ops true qwy) (.seq (.ops false qwx) (.seq (.seq (.ops false qww) (.seq (.ops false qwv) (.cond (.tmp 41) (.ops false qwu) .skip))) (.block 0 (.seq (.ops false qwt) (.cond (.tmp 44) (.ops false qws) (.seq (.ops false qwr) (.cond (.tmp 54) (.ops false qiw) (.seq (.ops false qiv) (.cond (.tmp 57) (.ops false qiu) .skip)))))))))))
theorem zd1 : FnIs Tryz.prog 130 59 [] qb8 := ⟨Tryz.f130, _, Tryz.func130, rfl, rfl, rfl, rfl, by kernel_rfl⟩

theorem EvM.of_run {E : Env} {f : FuncId} {fn : Func} {c : Code} (h1 : E.P.funcs[f]? = some fn) (h2 : (fn.name == "runtime.NumGoroutine") = false) (h3 : fn.body = some c) {args : List AVal} {m m' : qe8} {out : Out} (hl : args.length ≤ fn.ntmps) (hd : ∀ k, lin m' k = lin m k)
 (hb : ∀ p ∈ m, p.1 < q53) (hst' : ∀ p ∈ m', ∀ x ∈ p.2, q0j x = true)
 (h : ∀ (B : Nat → Prop) (G : Gh) (vs : Array Value) (w : World), vs.size = args.length → Rel fn.ntmps B G ⟨q41 args, mms (lnt m G.β)⟩ { tmps := vs ++ Array.replicate (fn.ntmps - vs.size) undef, defers := [] } w → ∀ R : Ending → World → Prop,
  (∀ e w' G' s a' n', Adv G w G' w' → Rel n' B G' s a' w' → FinM m m' G.β s → (∃ v', match out with
   | .ret x => e = .returned v' ∧ x.stb = true ∧ VR (Dm s.M) G' B w' x v'
   | .pan x => e = .panicked [{ v := v', recovered := false }] ∧ x.kin (lin m) = true ∧ VR (Dm s.M) G' B w' x v') → R e w') → Calls E.P f vs w R) : EvM E.P f args m out m' := by
 refine ⟨⟨fn, h1, h2, by simp [h3]⟩, hd, fun B w vs G hG hsz hv hmem hB hol => ?_⟩
 have hlt : ∀ k, lin m k = true → k < q53 := fun k hk => by
  obtain ⟨cs, hc⟩ := q3o hk
  obtain ⟨cs', _, hm⟩ := q23 hc
  exact hb _ hm
 have hD : ∀ k e, Dm (q3v m) k e → Dm (mms (lnt m G.β)) k e := fun k e hk => by
  have hk' := qnt.1 hk
  unfold Dm
  rw [qns (hlt k hk')]
  exact hk
 have same : ∀ b, b < w.heap.size → ¬ B b → G.ow b = none → w.heap[b]? = w.heap[b]? ∧ ¬ B b ∧ G.ow b = none := fun b _ hn ho => ⟨rfl, hn, ho⟩
 have hR : Rel fn.ntmps B G ⟨q41 args, mms (lnt m G.β)⟩ { tmps := vs ++ Array.replicate (fn.ntmps - vs.size) undef, defers := [] } w := by
  refine ⟨by simp; omega, rfl, fun t => ?_, fun k blk hk => ?_, hB, hol⟩
  ·simp only [q41]
   cases ht : args[t]? with
   | none => exact .undef _
   | some x =>
    have hlt : t < vs.size := by
     rw [hsz]
     rcases Nat.lt_or_ge t args.length with h' | h'
     ·exact h'
     ·rw [List.getElem?_eq_none h'] at ht; cases ht
    have : (vs ++ Array.replicate (fn.ntmps - vs.size) undef).getD t undef = vs[t] := by
     rw [Array.getD_eq_getD_getElem?, Array.getElem?_append_left hlt]
     simp [hlt]
    simp only [Option.getD_some, this]
    exact VR.mono (G := G) (G' := G) (B := B) (B' := B) (w := w) (w' := w) hD (fun _ _ _ => ⟨rfl, rfl⟩) same (hv t x _ ht (by simp [hlt]))
  ·rcases qc3 hk with hk | ⟨p, hp, rfl⟩
   ·exact BlkRel.mono (G := G) (G' := G) (B := B) (B' := B) (w := w) (w' := w) hD (fun _ _ _ => ⟨rfl, rfl⟩) same (fun b key _ _ hn ho => ⟨rfl, hn, ho⟩) (q90 hk) (hmem k blk hk)
   ·refine .ptr p.1 0 (hD _ _ (qnt.2 ?_))
    unfold lin q3v
    rw [Option.isSome_map, List.find?_isSome]
    exact ⟨p, hp, by simp⟩
 refine h B G vs w hsz hR _ fun e w' G' s a' n' hA hR' hf hout => ?_
 let G2 : Gh := { G' with ow := fun b => match G'.ow b with | some (.box k) => if lin m k = true then some (.box k) else none | some (.cell k i) => if lin m k = true then some (.cell k i) else none | _ => none }
 have g2 : ∀ b, G'.ow b = none → G2.ow b = none := fun b hb => by simp only [G2, hb]
 have g3 : ∀ b, (G'.without fun j => !lin m j).ow b = none → G2.ow b = none := fun b hb => by
  simp only [Gh.without] at hb
  simp only [G2]
  cases hq : G'.ow b with
  | none => rfl
  | some key =>
   simp only [hq] at hb
   cases key with
   | arr j => rfl
   | box j => cases hl : lin m j <;> simp [OKey.of, hl] at hb ⊢
   | cell j i => cases hl : lin m j <;> simp [OKey.of, hl] at hb ⊢
 have hA2 : Adv G w G2 w' := ⟨hA.os, hA.tape, hA.output, hA.size, fun b hb ho => ⟨(hA.keep b hb ho).1, g2 b (hA.keep b hb ho).2⟩⟩
 have hkeys : ∀ b key, G2.ow b = some key → lin m key.of = true ∧ ∀ j, key ≠ .arr j := fun b key hk => by
  simp only [G2] at hk
  split at hk
  ·split at hk
   ·rename_i hl; cases hk; exact ⟨hl, fun _ h => (by cases h)⟩
   ·cases hk
  ·split at hk
   ·rename_i hl; cases hk; exact ⟨hl, fun _ h => (by cases h)⟩
   ·cases hk
  ·cases hk
 have hol2 : ∀ b, G2.ow b ≠ none → b < w'.heap.size := fun b hb => hR'.ol b fun hn => hb (g2 b hn)
 have fin : FinM m m' G.β s → (∀ k, lin m k = true → G2.β k = G.β k) ∧ (∀ k blk, q3v m' k = some blk → BlkRel (Dm (q3v m')) G2 B w' k blk) := fun ⟨f1, f2⟩ => by
  refine ⟨fun k hk => ?_, fun k blk hk => ?_⟩
  ·obtain ⟨cs, hc⟩ := q3o hk
   obtain ⟨cs', _, hm⟩ := q23 hc
   obtain ⟨j, hj⟩ := f2 _ hm
   have hn : VR (Dm s.M) G' B w' (.ptr k 0) (q38 (G.β k)) := hR'.mem j _ hj
   show G'.β k = G.β k
   unfold q38 at hn
   generalize hg : Value.pointer (some ⟨G.β k, 0, none⟩) = u at hn
   cases hn with
   | ptr _ _ hD =>
    simp only [Value.pointer.injEq, Option.some.injEq, Addr.mk.injEq] at hg
    exact hg.1.symm
  ·obtain ⟨cs, rfl, hm⟩ := q23 hk
   have hlk : lin m k = true := by rw [← hd]; unfold lin; rw [hk]; rfl
   exact q5r (G := G') (G' := G2) (B := B) (B' := B) (hst' _ hm) rfl (fun b hn ho => ⟨hn, by simp only [G2, ho, hlk, if_true]⟩) (fun b i hn ho => ⟨hn, by simp only [G2, ho, hlk, if_true]⟩) (fun b _ hn ho => ⟨hn, g2 b ho⟩) (hR'.mem k _ (f1 _ hm))
 obtain ⟨v', hout⟩ := hout
 cases out with
 | ret x =>
  obtain ⟨he, hs, hV⟩ := hout
  exact ⟨G2, v', hkeys, hol2, hA2, (fin hf).1, (fin hf).2, he, hV.stable (fun b _ hn ho => ⟨rfl, hn, g2 b ho⟩) hs⟩
 | pan x =>
  obtain ⟨he, hk, hV⟩ := hout
  refine ⟨G2, v', hkeys, hol2, hA2, (fin hf).1, (fin hf).2, he, ?_⟩
  have := VR.ren (K := lin m) (ρ := fun k => k) (G := G') (G' := G2) (B := B) (B' := B) (w := w') (w' := w') (D := Dm s.M) (D' := Dm (q3v m')) (fun b _ hn ho => ⟨rfl, hn, g2 b ho⟩) (fun k hk _ => ⟨qnt.2 (by rw [hd]; exact hk), rfl⟩) hV hk
  rwa [AVal.ren_id] at this
theorem q6d {P : Program} {TE : TyE} (hT : q2r P TE) {s : AS} {x : Operand} {xt at' : TypeId} {i : TyI} (ht : TE at' = some i) (hna : i.td ≠ .iface) {z : AVal} (hz : ∀ D G B w, VR D G B w z i.zero) (hx : ev s.T x = .niliface) :
 Hook P s (.typeAssert x xt at' true) (fun v M' => M' = s.M ∧ v = .tup [z, .bool false]) := by
 intro n B G act w hR o ho K Q hK
 have q1 := hR.ev x
 rw [hx] at q1
 generalize hxv : act.eval x = xv at q1
 cases q1
 obtain ⟨d, inf, u1, u2, u3, u4, u5, u6, u7⟩ := hT at' i ht
 have hz0 := q0w hT ht w
 have hrun : (execOp act.eval o).run P w = .ok (.value (.tuple #[i.zero, .bool false])) w := by
  unfold execOp
  rw [ho]
  cases d <;> simp only [TD.of] at u2 <;> first | exact absurd u2.symm hna | simp [Instr.typeAssert, run_underlying u1, hxv, hz0, Result.andThen]
 unfold Oper.wp
 rw [hrun]
 exact hK _ _ s.M w G ⟨rfl, rfl⟩ (.refl G w) hR (.tup _ _ rfl fun n x v h1 h2 => by
  match n with
  | 0 => simp at h1 h2; subst h1; subst h2; exact hz _ _ _ _
  | 1 => simp at h1 h2; subst h1; subst h2; exact .bool false
  | n + 2 => simp at h1)
theorem qca {P : Program} {TE : TyE} (hT : q2r P TE) {s : AS} {x : Operand} {xt at' : TypeId} {i : TyI} (ht : TE at' = some i) (hna : i.td ≠ .iface) {z : AVal} (hx : ev s.T x = .iface at' z) :
 Hook P s (.typeAssert x xt at' true) (fun v M' => M' = s.M ∧ v = .tup [z, .bool true]) := by
 intro n B G act w hR o ho K Q hK
 have q1 := hR.ev x
 rw [hx] at q1
 generalize hxv : act.eval x = xv at q1
 cases q1
 rename_i u hu
 obtain ⟨d, inf, u1, u2, u3, u4, u5, u6, u7⟩ := hT at' i ht
 have hrun : (execOp act.eval o).run P w = .ok (.value (.tuple #[u, .bool true])) w := by
  unfold execOp
  rw [ho]
  cases d <;> simp only [TD.of] at u2 <;> first | exact absurd u2.symm hna | simp [Instr.typeAssert, run_underlying u1, hxv, Result.andThen]
 unfold Oper.wp
 rw [hrun]
 exact hK _ _ s.M w G ⟨rfl, rfl⟩ (.refl G w) hR (.tup _ _ rfl fun n x v h1 h2 => by
  match n with
  | 0 => simp at h1 h2; subst h1; subst h2; exact hu
  | 1 => simp at h1 h2; subst h1; subst h2; exact .bool true
  | n + 2 => simp at h1)
theorem eqPS {P : Program} {t e : TypeId} {m : Nat} (hu : P.underlying t = some (.pointer e)) (w : World) (hs : (sizeOf e).run P w = .ok m w) (hm : m ≠ 0) (d : Nat) (a : Addr) : (Op.equalIn (d + 1) t (.pointer (some a)) (.pointer (some a))).run P w = .ok true w := by
 simp [Op.equalIn, run_underlying hu, hs, hm, sameAddr, Result.andThen]
theorem eqIN {P : Program} {t : TypeId} (hu : ∃ ms, P.underlying t = some (.interface ms)) (w : World) (d : Nat) : (Op.equalIn (d + 1) t .nilIface .nilIface).run P w = .ok true w := by
 obtain ⟨ms, hu⟩ := hu
 simp [Op.equalIn, run_underlying hu]
theorem ql1 {P : Program} {TE : TyE} (hT : q2r P TE) {s : AS} {x y : Operand} {t u e : TypeId} {i ei : TyI} (ht : TE t = some i) (hd : i.td = .ptr e) (he : TE e = some ei) (hne : ei.size ≠ 0) {k off : Nat} (hx : ev s.T x = .ptr k off) (hy : ev s.T y = .ptr k off) :
 Hook P s (.binOp .neq t x y u) (fun v M' => M' = s.M ∧ v = .bool false) := by
 intro n B G act w hR o ho K Q hK
 have q1 := hR.ev x
 have q2 := hR.ev y
 rw [hx] at q1
 rw [hy] at q2
 generalize hxv : act.eval x = xv at q1
 generalize hyv : act.eval y = yv at q2
 cases q1
 cases q2
 obtain ⟨d, inf, u1, u2, u3, u4, u5, u6, u7⟩ := hT t i ht
 have hdd : d = .pointer e := by rw [hd] at u2; cases d <;> simp [TD.of] at u2; rw [u2]
 subst hdd
 have hs := q0n hT he w
 have hr : (Op.equalIn (9999 + 1) t (.pointer (some ⟨G.β k, off, none⟩)) (.pointer (some ⟨G.β k, off, none⟩))).run P w = .ok true w := eqPS u1 w hs hne 9999 _
 obtain ⟨_, g2⟩ := q3t (t := t) (ox := x) (oy := y) (fun op => by cases op <;> rfl) rfl rfl hr
 have hrun : (execOp act.eval o).run P w = .ok (.value (.bool false)) w := by
  unfold execOp
  rw [ho]
  simp only [hxv, hyv]
  rw [Sem.run_bind, g2]
  rfl
 unfold Oper.wp
 rw [hrun]
 exact hK _ _ s.M w G ⟨rfl, rfl⟩ (.refl G w) hR (.bool false)
theorem q9y {P : Program} {TE : TyE} (hT : q2r P TE) {s : AS} {x : Operand} {t u : TypeId} {i : TyI} (ht : TE t = some i) (hd : i.td = .iface) (hx : ev s.T x = .niliface) :
 Hook P s (.binOp .neq t x (.const .nilIface) u) (fun v M' => M' = s.M ∧ v = .bool false) := by
 intro n B G act w hR o ho K Q hK
 have q1 := hR.ev x
 rw [hx] at q1
 generalize hxv : act.eval x = xv at q1
 cases q1
 obtain ⟨d, inf, u1, u2, u3, u4, u5, u6, u7⟩ := hT t i ht
 have hr : (Op.equalIn (9999 + 1) t .nilIface .nilIface).run P w = .ok true w := by
  rw [hd] at u2
  cases d <;> simp [TD.of] at u2
  exact eqIN ⟨_, u1⟩ w 9999
 obtain ⟨_, g2⟩ := q3t (t := t) (ox := x) (oy := .const .nilIface) (fun op => by cases op <;> cases x <;> simp [eqGuard]) rfl rfl hr
 have hrun : (execOp act.eval o).run P w = .ok (.value (.bool false)) w := by
  unfold execOp
  rw [ho]
  have hc : act.eval (.const .nilIface) = .nilIface := rfl
  simp only [hxv, hc]
  rw [Sem.run_bind, g2]
  rfl
 unfold Oper.wp
 rw [hrun]
 exact hK _ _ s.M w G ⟨rfl, rfl⟩ (.refl G w) hR (.bool false)
def qog (K : Nat → Bool) : AVal → Bool
 | .own _ xs => q0i xs
 | .hole => true
 | .ref _ => false
 | x => x.kin K
def renC (σ : Nat → Nat) : AVal → AVal
 | .own sz xs => .own sz xs
 | .hole => .hole
 | .ref cs => .ref cs
 | x => x.ren σ
def q7d (K : Nat → Bool) : ABlk → Bool
 | .cells cs => cs.all (qog K)
 | .note x _ => x.kin K
 | _ => false
def z2q (σ : Nat → Nat) : ABlk → ABlk
 | .cells cs => .cells (cs.map (renC σ))
 | .note x v => .note (x.ren σ) v
 | b => b
theorem Wk.ren {n : Nat} {T : q12} {M : Mem} (σ τ : Nat → Nat) (K : Nat → Bool) (hK : ∀ k, M k ≠ none → τ (σ k) = k) (hT : ∀ t, (T t).kin K = true) (hM : ∀ k blk, M k = some blk → q7d K blk = true) :
 Wk n ⟨T, M⟩ ⟨fun t => (T t).ren σ, fun k => if σ (τ k) = k then (M (τ k)).map (z2q σ) else none⟩ := by
 intro B G a w hR
 let G' : Gh := { β := fun k => G.β (τ k), hd := G.hd, ow := fun b => (G.ow b).map (OKey.ren σ), hd1 := G.hd1 }
 have g0 : ∀ b, G.ow b = none → G'.ow b = none := fun b hb => by simp [G', hb]
 have g1 : ∀ b key, G.ow b = some key → G'.ow b = some (key.ren σ) := fun b key hb => by simp [G', hb]
 have hA : Adv G w G' w := ⟨⟨rfl, Nat.le_refl _⟩, rfl, rfl, Nat.le_refl _, fun b _ ho => ⟨rfl, g0 b ho⟩⟩
 have hw : ∀ b, b < w.heap.size → ¬ B b → G.ow b = none → w.heap[b]? = w.heap[b]? ∧ ¬ B b ∧ G'.ow b = none := fun b _ hn ho => ⟨rfl, hn, g0 b ho⟩
 let M' : Mem := fun k => if σ (τ k) = k then (M (τ k)).map (z2q σ) else none
 have hM' : ∀ k blk, M k = some blk → M' (σ k) = some (z2q σ blk) := fun k blk hk => by
  have := hK k (by rw [hk]; simp)
  simp only [M', this, if_true, hk, Option.map_some]
 have hD : ∀ k, K k = true → Dm M k 0 → Dm M' (σ k) 0 ∧ G'.β (σ k) = G.β k := fun k _ hd => by
  cases hk : M k with
  | none => exact absurd hd (q5w hk)
  | some blk =>
   refine ⟨?_, by simp only [G', hK k (by rw [hk]; simp)]⟩
   have h1 := hM k blk hk
   have h2 := hM' k blk hk
   cases blk with
   | cells cs => exact qax h2
   | note x v => simp only [Dm, h2, z2q]
   | arr e sz xs => simp [q7d] at h1
   | dead => simp [q7d] at h1
   | map es => simp [q7d] at h1
 refine ⟨G', ⟨hR.size, hR.defers, fun t => (hR.temps t).ren hw hD (hT t), fun k' blk' hk' => ?_, fun b hb => ⟨(hR.fr b hb).1, g0 b (hR.fr b hb).2⟩, fun b hb => hR.ol b fun hn => hb (g0 b hn)⟩, hA⟩
 simp only at hk'
 split at hk'
 case isFalse => cases hk'
 rename_i hστ
 cases hk : M (τ k') with
 | none => rw [hk] at hk'; cases hk'
 | some blk =>
  rw [hk] at hk'
  cases hk'
  have h1 := hM _ _ hk
  have hmem := hR.mem _ _ hk
  generalize hkk : τ k' = k at *
  cases blk with
  | arr e sz xs => simp [q7d] at h1
  | dead => simp [q7d] at h1
  | map es => simp [q7d] at h1
  | note x v => exact VR.ren hw hD hmem h1
  | cells cs =>
   obtain ⟨c, el, b1, b2, b3, b4, b5⟩ := hmem
   have hβ : G'.β k' = G.β k := by simp only [G', hkk]
   refine ⟨c, el, ?_, by rw [hβ]; exact b2, by rw [hβ]; exact b3, by simpa using b4, fun i x hx => ?_⟩
   ·rw [hβ, g1 _ _ b1]
    simp only [OKey.ren, hστ]
   ·rw [List.getElem?_map] at hx
    cases hy : cs[i]? with
    | none => simp [hy] at hx
    | some y =>
     simp only [hy, Option.map_some, Option.some.injEq] at hx
     subst hx
     obtain ⟨u, hu, hr⟩ := b5 i y hy
     refine ⟨u, hu, ?_⟩
     have hky := List.all_eq_true.1 h1 y (List.mem_of_getElem? hy)
     have gen : y.kin K = true → CellRel (Dm M) G B w k i y u → VR (Dm M) G B w y u → CellRel (Dm M') G' B w k' i (y.ren σ) u := fun q1 _ q3 => CellRel.of_VR (q3.ren hw hD q1)
     cases y with
     | own sz xs =>
      refine OwnAt.trade (fun b hn ho => ⟨hn, ?_⟩) (fun z hz u hr => hr.stable hw (q2j hky z hz)) hr
      rw [g1 _ _ ho]
      simp only [OKey.ren, hστ]
     | hole => trivial
     | ref cs => cases hky
     | _ => exact gen hky hr hr
theorem tms_kin {K : Nat → Bool} {l : List (Nat × AVal)} (h : l.all (fun p => p.2.kin K) = true) (t : Nat) : (tms l t).kin K = true := by
 induction l with
 | nil => rfl
 | cons p l ih =>
  obtain ⟨k, v⟩ := p
  simp only [List.all_cons, Bool.and_eq_true] at h
  simp only [tms]
  by_cases ht : t = k
  ·subst ht; rw [q00]; exact h.1
  ·rw [q0h _ _ ht]; exact ih h.2
theorem qno {k : Nat} {blk : ABlk} : ∀ {m : List (Nat × ABlk)}, mms m k = some blk → (k, blk) ∈ m
 | [], h => by cases h
 | (j, b) :: m, h => by
  simp only [mms] at h
  by_cases hj : k = j
  ·subst hj; rw [q00] at h; cases h; simp
  ·rw [q0h _ _ hj] at h; exact List.mem_cons_of_mem _ (qno h)
theorem Wk.renL {n : Nat} {l : List (Nat × AVal)} {m : List (Nat × ABlk)} (σ τ : Nat → Nat) (K : Nat → Bool) (hK : m.all (fun p => τ (σ p.1) == p.1) = true) (hT : l.all (fun p => p.2.kin K) = true) (hM : m.all (fun p => q7d K p.2) = true) :
 Wk n ⟨tms l, mms m⟩ ⟨fun t => (tms l t).ren σ, fun k => if σ (τ k) = k then (mms m (τ k)).map (z2q σ) else none⟩ := by
 refine Wk.ren σ τ K (fun k hk => ?_) (tms_kin hT) (fun k blk hk => List.all_eq_true.1 hM (k, blk) (qno hk))
 cases hb : mms m k with
 | none => exact absurd hb hk
 | some b => exact beq_iff_eq.1 (List.all_eq_true.1 hK (k, b) (qno hb))
theorem z35 {σ : Nat → Nat} : ∀ (l : List (Nat × AVal)) (t : Nat), (tms l t).ren σ = tms (l.map fun p => (p.1, p.2.ren σ)) t
 | [], t => rfl
 | (k, v) :: l, t => by
  simp only [tms, List.map_cons]
  by_cases h : t = k
  ·subst h; rw [q00, q00]
  ·rw [q0h _ _ h, q0h _ _ h, z35 l t]
theorem zct {σ τ : Nat → Nat} : ∀ (m : List (Nat × ABlk)), m.all (fun p => τ (σ p.1) == p.1) = true → ∀ k, (if σ (τ k) = k then (mms m (τ k)).map (z2q σ) else none) = mms (m.map fun p => (σ p.1, z2q σ p.2)) k
 | [], _, k => by simp [mms, NoM]
 | (j, b) :: m, h, k => by
  simp only [List.all_cons, Bool.and_eq_true, beq_iff_eq] at h
  have ih := zct m h.2 k
  simp only [mms, List.map_cons]
  by_cases hk : k = σ j
  ·subst hk
   rw [h.1, q00, q00, if_pos rfl]
   rfl
  ·rw [q0h _ _ hk, ← ih]
   split
   ·rename_i hs
    have : τ k ≠ j := fun e => hk (by rw [← hs, e])
    rw [q0h _ _ this]
   ·rfl
theorem Wk.renS {n : Nat} {l : List (Nat × AVal)} {m : List (Nat × ABlk)} (σ τ : Nat → Nat) (K : Nat → Bool) (hK : m.all (fun p => τ (σ p.1) == p.1) = true) (hT : l.all (fun p => p.2.kin K) = true) (hM : m.all (fun p => q7d K p.2) = true) :
 Wk n ⟨tms l, mms m⟩ ⟨tms (l.map fun p => (p.1, p.2.ren σ)), mms (m.map fun p => (σ p.1, z2q σ p.2))⟩ := by
 have h := Wk.renL (n := n) σ τ K hK hT hM
 have e1 : (fun t => (tms l t).ren σ) = tms (l.map fun p => (p.1, p.2.ren σ)) := funext (z35 l)
 have e2 : (fun k => if σ (τ k) = k then (mms m (τ k)).map (z2q σ) else none) = mms (m.map fun p => (σ p.1, z2q σ p.2)) := funext (zct m hK)
 rw [e1, e2] at h
 exact h
theorem qn2 {σ : Nat → Nat} {cs : List AVal} (h : cs.all q0j = true) : cs.map (renC σ) = cs := by
 have : ∀ x ∈ cs, renC σ x = x := fun x hx => by
  have hx := List.all_eq_true.1 h x hx
  cases x <;> first | rfl | exact (AVal.stb_ren _ hx).1
 exact (List.map_congr_left this).trans (List.map_id _)
theorem q9j {K : Nat → Bool} {cs : List AVal} (h : cs.all q0j = true) : cs.all (qog K) = true := by
 rw [List.all_eq_true] at h ⊢
 intro x hx
 have hx := h x hx
 cases x <;> first | exact hx | exact (AVal.stb_ren (ρ := fun k => k) _ hx).2 K
theorem qm1 {cs : List AVal} (h : cs.all q0j = true) : cs.all z0y = true := by
 rw [List.all_eq_true] at h ⊢
 intro x hx
 have hx := h x hx
 cases x <;> first | exact hx | rfl | exact absurd hx (by simp [q0j])
theorem Rel.noted {n : Nat} {B : Nat → Prop} {G : Gh} {T : q12} {M : Mem} {a : Act} {w : World} (h : Rel n B G ⟨T, M⟩ a w) {k : Nat} (hk : M k = none) {x : AVal} {v : Value} (hv : VR (Dm M) G B w x v) : Rel n B G ⟨T, upd M k (some (.note x v))⟩ a w :=
 h.update (Adv.refl G w) k (.note x v) (by show qmm (M k) _; rw [hk]; trivial) (fun _ _ _ => ⟨rfl, rfl⟩) (fun b key _ _ ho _ => ⟨rfl, ho⟩) h.ol
  (hv.mono (fun j e => q35 (by show qmm (M k) _; rw [hk]; trivial)) (fun _ _ _ => ⟨rfl, rfl⟩) (fun b _ hn ho => ⟨rfl, hn, ho⟩))
theorem Rel.seen {n n' : Nat} {B : Nat → Prop} {G : Gh} {s : AS} {a a' : Act} {w : World} (h : Rel n B G s a w) {T : q12} (hs : a'.tmps.size = n') (hd : a'.defers = []) (hT : ∀ t, VR (Dm s.M) G B w (T t) (a'.tmps.getD t undef)) : Rel n' B G ⟨T, s.M⟩ a' w :=
 ⟨hs, hd, hT, h.mem, h.fr, h.ol⟩

def qde : SC → SC
 | .seq _ y => y
 | x => x
def RdQ (res : Int) (g o : List AVal) (v1 v2 v4 : Value) : Ex → AS → Prop
 | .normal, s => s.M 1004 = some (.cells [.int .i64 res]) ∧ s.M 900001 = some (.cells g) ∧ s.M 900002 = some (.cells o) ∧ s.M 1900001 = some (.note (.ptr 900001 0) v1) ∧ s.M 1900002 = some (.note (.ptr 900002 0) v2) ∧ s.M 1900004 = some (.note (.ptr 1004 0) v4)
 | _, _ => False
def RdM (b : Bs) (a e : Nat) (g o : List AVal) (v1 v2 v4 v5 : Value) : Mem :=
 mms [(1004, .cells [.int .i64 0]), (1005, .cells [.ptr 1008 0]), (1008, .cells (rdC b a e)), (900001, .cells g), (900002, .cells o), (1900001, .note (.ptr 900001 0) v1), (1900002, .note (.ptr 900002 0) v2), (1900004, .note (.ptr 1004 0) v4), (1900005, .note (.ptr 1005 0) v5)]
theorem qoj (b : Bs) (a : Nat) (hb : b.length ≤ 900000000000) (g o : List AVal) (v1 v2 v4 v5 : Value) :
 AW (En Tryz.prog rfl) 59 (qde qb8) (RdQ (if a < b.length then 52 else 0) g o v1 v2 v4) ⟨tms [(0, .ptr 1005 0), (1, .ptr 1004 0), (2, .niliface)], RdM b a 0 g o v1 v2 v4 v5⟩ := by
 refine Run.start ?_
 unfold qb8
 simp only [qde]
 unfold RdM
 have e1 := q18 b
 by_cases hlt : a < b.length
 ·rw [if_pos hlt]
  have hlt2 : (a : Int) < (b.length : Int) := by omega
  (focus (have hF := (aI @q07 (aI @e1 @hlt2)); (repeat' (first | refine go1 (k:=?_) | with_reducible refine Ny.of ?_ ?_ | (refine Hyp.of ?_; intro hc; (try simp only [hc]); (try simp only [Bh] at hc)))); all_goals clear hF))
  refine q2e (q6d (TE := TE0) qb5 z18 (by simp) (z := .agg [.nilptr]) ?_ rfl) ?_
  ·intro D G B w
   refine .agg _ _ rfl fun n x v h1 h2 => ?_
   match n with
   | 0 => simp at h1 h2; subst h1; subst h2; exact .nilptr
   | n + 1 => simp at h1
  rintro v M' ⟨rfl, rfl⟩
  dsimp only [AS.put]
  (focus (have hF := (aI @q07 (aI @e1 @hlt2)); (repeat' (first | refine go1 (k:=?_) | with_reducible refine Ny.of ?_ ?_ | (refine Hyp.of ?_; intro hc; (try simp only [hc]); (try simp only [Bh] at hc)))); all_goals clear hF))
  refine q2e (q9y (TE := TE0) qb5 TE_20 rfl rfl) ?_
  rintro v M' ⟨rfl, rfl⟩
  dsimp only [AS.put]
  (focus (have hF := (aI @q07 (aI @e1 @hlt2)); (repeat' (first | refine go1 (k:=?_) | with_reducible refine Ny.of ?_ ?_ | (refine Hyp.of ?_; intro hc; (try simp only [hc]); (try simp only [Bh] at hc)))); all_goals clear hF))
  exact ⟨rfl, rfl, rfl, rfl, rfl, rfl⟩
 ·rw [if_neg hlt]
  have hlt2 : ¬ (a : Int) < (b.length : Int) := by omega
  (focus (have hF := (aI @q07 (aI @e1 @hlt2)); (repeat' (first | refine go1 (k:=?_) | with_reducible refine Ny.of ?_ ?_ | (refine Hyp.of ?_; intro hc; (try simp only [hc]); (try simp only [Bh] at hc)))); all_goals clear hF))
  refine q2e (q6d (TE := TE0) qb5 z18 (by simp) (z := .agg [.nilptr]) ?_ rfl) ?_
  ·intro D G B w
   refine .agg _ _ rfl fun n x v h1 h2 => ?_
   match n with
   | 0 => simp at h1 h2; subst h1; subst h2; exact .nilptr
   | n + 1 => simp at h1
  rintro v M' ⟨rfl, rfl⟩
  dsimp only [AS.put]
  (focus (have hF := (aI @q07 (aI @e1 @hlt2)); (repeat' (first | refine go1 (k:=?_) | with_reducible refine Ny.of ?_ ?_ | (refine Hyp.of ?_; intro hc; (try simp only [hc]); (try simp only [Bh] at hc)))); all_goals clear hF))
  refine q2e (q9y (TE := TE0) qb5 TE_20 rfl rfl) ?_
  rintro v M' ⟨rfl, rfl⟩
  dsimp only [AS.put]
  (focus (have hF := (aI @q07 (aI @e1 @hlt2)); (repeat' (first | refine go1 (k:=?_) | with_reducible refine Ny.of ?_ ?_ | (refine Hyp.of ?_; intro hc; (try simp only [hc]); (try simp only [Bh] at hc)))); all_goals clear hF))
  exact ⟨rfl, rfl, rfl, rfl, rfl, rfl⟩
theorem qm9 (b : Bs) (a e : Nat) (he : e ≠ 0) (hb : b.length ≤ 900000000000) (g o : List AVal) (v1 v2 v4 v5 : Value) :
 AW (En Tryz.prog rfl) 59 (qde qb8) (RdQ (e : Int) g o v1 v2 v4) ⟨tms [(0, .ptr 1005 0), (1, .ptr 1004 0), (2, .iface 165 (.agg [.ptr 1008 0]))], RdM b a e g o v1 v2 v4 v5⟩ := by
 refine Run.start ?_
 unfold qb8
 simp only [qde]
 unfold RdM
 have e1 := q18 b
 have he2 : ¬ (e : Int) = 0 := by omega
 (focus (have hF := (aI @q07 (aI @e1 @he2)); (repeat' (first | refine go0 (k:=?_) | fail)); all_goals clear hF))
 refine q2e (qca (TE := TE0) qb5 z18 (by simp) (z := .agg [.ptr 1008 0]) rfl) ?_
 rintro v M' ⟨rfl, rfl⟩
 dsimp only [AS.put]
 (focus (have hF := (aI @q07 (aI @e1 @he2)); (repeat' (first | refine go1 (k:=?_) | with_reducible refine Ny.of ?_ ?_ | (refine Hyp.of ?_; intro hc; (try simp only [hc]); (try simp only [Bh] at hc)))); all_goals clear hF))
 refine q2e (ql1 (TE := TE0) qb5 TE_140 rfl TE_163 (by decide) (k := 1008) (off := 0) rfl rfl) ?_
 rintro v M' ⟨rfl, rfl⟩
 dsimp only [AS.put]
 (focus (have hF := (aI @q07 (aI @e1 @he2)); (repeat' (first | refine go1 (k:=?_) | with_reducible refine Ny.of ?_ ?_ | (refine Hyp.of ?_; intro hc; (try simp only [hc]); (try simp only [Bh] at hc)))); all_goals clear hF))
 exact ⟨rfl, rfl, rfl, rfl, rfl, rfl⟩
theorem qpl {ops : Array Oper} {x y : SOp} (h : ops.toList.map (q4z ops) = [x, y]) : ∃ o1 o2, ops[0]? = some o1 ∧ ops[1]? = some o2 ∧ ops.size = 2 ∧ q4z ops o1 = x ∧ q4z ops o2 = y := by
 have hl := congrArg List.length h
 simp at hl
 refine ⟨ops[0], ops[1], by simp [hl], by simp [hl], hl, ?_, ?_⟩
 ·have := congrArg (·[0]?) h
  simpa [hl] using this
 ·have := congrArg (·[1]?) h
  simpa [hl] using this
theorem q82 {ops : Array Oper} {o : Oper} {d : Option Tmp} {op : Op} (h : q4z ops o = ⟨d, op, none⟩) : o.dst = d ∧ o.op = op ∧ o.guard = none := by
 obtain ⟨dst, op', ty, pos, after, guard⟩ := o
 simp only [q4z, SOp.mk.injEq] at h
 refine ⟨h.1, h.2.1, ?_⟩
 cases guard with
 | none => rfl
 | some g => exact absurd h.2.2 (by simp)
theorem q5b {o : Oper} (h : o.guard = none) (y : Nat → Option Bool) : Region.wanted o y = true := by
 unfold Region.wanted
 rw [h]
theorem qa1 {n : Nat} {B : Nat → Prop} {G : Gh} {T : q12} {M : Mem} {a : Act} {w : World} (h : Rel n B G ⟨T, M⟩ a w) {p5 p4 xv : Value} (h5 : VR (Dm M) G B w (.ptr 1005 0) p5) (h4 : VR (Dm M) G B w (.ptr 1004 0) p4) {u u' : FrameMode} {x : AVal} (hx : VR (Dm M) G B w x xv)
 (hu : (u = .returning ∧ u' = .returning ∧ xv = .nilIface) ∨ (u = .panicking [{ v := xv, recovered := false }] ∧ u' = .panicking [{ v := xv, recovered := true }])) {Q : Ex → AS → Prop}
 (haw : AW (En Tryz.prog rfl) 59 (qde qb8) Q ⟨tms [(0, .ptr 1005 0), (1, .ptr 1004 0), (2, x)], M⟩) (hQ : ∀ e s, Q e s → e = .normal) {R : Ending → FrameMode → World → Prop}
 (hR : ∀ v' w' G' s' a', Adv G w G' w' → Rel 59 B G' s' a' w' → Q .normal s' → R (.returned v') u' w') : CallsD (En Tryz.prog rfl).P 130 #[p5, p4] u w R := by
 obtain ⟨fn, c, f1, f2, f3, f4, f5, f6⟩ := zd1
 obtain ⟨c0, c1, rfl, s0, s1⟩ := qah (x := .ops false qf2) (y := qde qb8) f6
 obtain ⟨id, ops, rfl, hdst, hops⟩ := qpm s0
 obtain ⟨o1, o2, g1, g2, g3, g4, g5⟩ := qpl hops
 obtain ⟨a1, a2, a3⟩ := q82 g4
 obtain ⟨b1, b2, b3⟩ := q82 g5
 refine callsD_of_wpS f1 f3 fun c₀ cs hc₀ => ?_
 refine wpS_seq (wpS_region ?_)
 rw [g3, show List.range 2 = [0, 1] from rfl]
 have r1 : ∀ ρ, (execOp ρ o1).run (En Tryz.prog rfl).P w = .ok .recover w := fun ρ => by
  unfold execOp
  rw [a2]
  rfl
 have r2 : ∀ ρ, (execOp ρ o2).run (En Tryz.prog rfl).P w = .ok (.value (ρ (.tmp 6))) w := fun ρ => by
  unfold execOp
  rw [b2]
  rfl
 simp only [wpOpsS, g1, g2, q5b a3, q5b b3, if_true, r1, r2, Oper.upon, a1, b1]
 have fin : ∀ (A : Act) (cs' : List Frame), A = (({ tmps := #[p5, p4] ++ Array.replicate (fn.ntmps - #[p5, p4].size) undef, defers := [] } : Act).put (some 6) xv).put (some 2) ((({ tmps := #[p5, p4] ++ Array.replicate (fn.ntmps - #[p5, p4].size) undef, defers := [] } : Act).put (some 6) xv).eval (.tmp 6)) →
  cs' = { c₀ with mode := u' } :: cs → c1.wpS (En Tryz.prog rfl).P (bodyPostS (En Tryz.prog rfl).P fn c₀ cs R) A cs' w := by
  rintro A cs' rfl rfl
  refine wpS_of_wp (haw c1 s1 B G _ w ?_ _ fun e s' a' w' G' hA hR' hq => ?_)
  ·rw [f4]
   refine ⟨by simp [Act.put], by simp [Act.put], fun t => ?_, h.mem, h.fr, h.ol⟩
   have hev : (({ tmps := #[p5, p4] ++ Array.replicate (59 - #[p5, p4].size) undef, defers := [] } : Act).put (some 6) xv).eval (.tmp 6) = xv := by
    simp [Act.put, Act.eval]
   rw [hev]
   match t with
   | 0 => simpa [Act.put, tms, upd] using h5
   | 1 => simpa [Act.put, tms, upd] using h4
   | 2 => simpa [Act.put, tms, upd] using hx
   | t + 3 =>
    have : tms [(0, AVal.ptr 1005 0), (1, AVal.ptr 1004 0), (2, x)] (t + 3) = .undef := by simp [tms, upd]
    show VR _ G B w (tms [(0, AVal.ptr 1005 0), (1, AVal.ptr 1004 0), (2, x)] (t + 3)) _
    rw [this]
    exact .undef _
  ·have he := hQ _ _ hq
   subst he
   refine ⟨hR'.defers, u', rfl, .tuple #[], ?_, hR _ w' G' s' a' hA hR' hq⟩
   have hrs : fn.results = #[] := by simpa using f5
   unfold results
   rw [hrs]
   simp [Result.andThen]
 rcases hu with ⟨rfl, rfl, rfl⟩ | ⟨rfl, rfl⟩
 ·have hrec : recoverD (c₀ :: cs) = none := by simp [recoverD, hc₀]
  rw [hrec]
  exact fin _ _ rfl (by rw [← hc₀])
 ·have hrec : recoverD (c₀ :: cs) = some (xv, { c₀ with mode := .panicking [{ v := xv, recovered := true }] } :: cs) := by simp [recoverD, hc₀]
  rw [hrec]
  exact fin _ _ rfl rfl

section
theorem q8g {k : Nat} : ∀ {l : List (Nat × ABlk)}, k ∉ l.map Prod.fst → mms l k = none
 | [], _ => rfl
 | (j, b) :: l, h => by
  simp only [List.map_cons, List.mem_cons, not_or] at h
  simp only [mms]
  rw [q0h _ _ h.1]
  exact q8g h.2
def alk (P : Nat → Prop) : List Nat → Prop
 | [] => True
 | k :: l => P k ∧ alk P l
theorem qom {P : Nat → Prop} : ∀ {l : List Nat}, alk P l → ∀ k ∈ l, P k
 | [], _, k, h => by simp at h
 | j :: l, h, k, hk => by
  rcases List.mem_cons.1 hk with rfl | hk
  ·exact h.1
  ·exact qom h.2 k hk
theorem qnp {l l' : List (Nat × ABlk)} (h : alk (fun k => mms l k = mms l' k) (l.map Prod.fst ++ l'.map Prod.fst)) : mms l = mms l' := by
 replace h := qom h
 funext k
 by_cases hk : k ∈ l.map Prod.fst ++ l'.map Prod.fst
 ·exact h k hk
 ·simp only [List.mem_append, not_or] at hk
  rw [q8g hk.1, q8g hk.2]
theorem qdb {l l' : List (Nat × ABlk)} {L : Nat → Bool} {σ : Nat → Nat} {m' : qe8} (hL : ∀ k, L k = true → k ∈ l.map Prod.fst) (h : alk (fun k => (if L k = true then q3v m' (σ k) else mms l k) = mms l' k) (l.map Prod.fst ++ l'.map Prod.fst)) : q1w (mms l) L σ m' = mms l' := by
 replace h := qom h
 funext k
 show (if L k = true then q3v m' (σ k) else mms l k) = mms l' k
 by_cases hk : k ∈ l.map Prod.fst ++ l'.map Prod.fst
 ·exact h k hk
 ·simp only [List.mem_append, not_or] at hk
  have : ¬ L k = true := fun e => hk.1 (hL k e)
  rw [if_neg this, q8g hk.1, q8g hk.2]
theorem Wk.eqM {n : Nat} {T : q12} {M M' : Mem} (h : M = M') : Wk n ⟨T, M⟩ ⟨T, M'⟩ := by subst h; exact Wk.refl _ _
section
variable {E : Env} {n : Nat} {ds : List Deferred} {Q : Ex → AS → Prop} {s : AS}
theorem AWd.run {l : List SOp} {o : SOp} {r : List SOp} (hl : l = o :: r) (h : q06 E false none (KQ E n Q .done) (o :: r) s) : AWd E n ds (.ops false l) Q s := by
 subst hl
 exact AWd.ops h
end
def up1k (k : Nat) : Nat := if k < 100 then 1000 + k else k
def dn1k (k : Nat) : Nat := if 1000 ≤ k ∧ k < 1100 then k - 1000 else k
def q3r (b : Bs) (a e : Nat) : Int := if e = 0 then (if a < b.length then 52 else 0) else e
def RdL (b : Bs) (a e : Nat) (g o : List AVal) (v1 v2 : Value) : List (Nat × ABlk) :=
 [(1004, .cells [.int .i64 0]), (1005, .cells [.ptr 1008 0]), (1008, .cells (rdC b a e)), (900001, .cells g), (900002, .cells o), (1900001, .note (.ptr 900001 0) v1), (1900002, .note (.ptr 900002 0) v2)]
section
variable (b : Bs) (F : FuncId) (g o : List AVal) (v1 v2 : Value)
def RdS : AS := ⟨tms [(1, .fn F [.ptr 900001 0, .ptr 900002 0]), (4, .ptr 1004 0), (5, .ptr 1005 0)], mms (RdL b 0 0 g o v1 v2)⟩
theorem qm8 (hg : g.all q0j = true) (ho : o.all q0j = true) :
 AW (En Tryz.prog rfl) 15 (.ops false qal) (fun e s => e = .normal ∧ AW (En Tryz.prog rfl) 15 (.ops false qak) (fun e s => e = .normal ∧ Wk 15 s (RdS b F g o v1 v2)) s)
  ⟨q41 [.sl 1 (q1k b), .fn F [.ptr 900001 0, .ptr 900002 0]], mms [(900001, .cells g), (1900001, .note (.ptr 900001 0) v1), (900002, .cells o), (1900002, .note (.ptr 900002 0) v2)]⟩ := by
 refine Run.start ?_
 (focus (have hF := @q07; (repeat' (first | refine go1 (k:=?_) | with_reducible refine Ny.of ?_ ?_ | (refine Hyp.of ?_; intro hc; (try simp only [hc]); (try simp only [Bh] at hc)))); all_goals clear hF))
 refine ⟨rfl, Run.start ?_⟩
 (focus (have hF := @q07; (repeat' (first | refine go1 (k:=?_) | with_reducible refine Ny.of ?_ ?_ | (refine Hyp.of ?_; intro hc; (try simp only [hc]); (try simp only [Bh] at hc)))); all_goals clear hF))
 refine ⟨rfl, ?_⟩
 have hg2 := qm1 hg
 have ho2 := qm1 ho
 refine Wk.trans (Wk.keep [(1, .fn F [.ptr 900001 0, .ptr 900002 0]), (4, .ptr 4 0), (5, .ptr 5 0)] ⟨rfl, rfl, rfl, trivial⟩) ?_
 refine Wk.trans (Wk.eqM (M' := mms [(4, .cells [.int .i64 0]), (5, .cells [.ptr 8 0]), (8, .cells (rdC b 0 0)), (900001, .cells g), (900002, .cells o), (1900001, .note (.ptr 900001 0) v1), (1900002, .note (.ptr 900002 0) v2)]) (qnp (l := [(5, .cells [.ptr 8 0]), (5, .cells [.nilptr]), (8, .cells (rdC b 0 0)), (4, .cells [.int .i64 0]), (900001, .cells g), (1900001, .note (.ptr 900001 0) v1), (900002, .cells o), (1900002, .note (.ptr 900002 0) v2)]) (by repeat (first | exact trivial | refine ⟨rfl, ?_⟩)))) ?_
 have h := Wk.renS (n := 15) (l := [(1, .fn F [.ptr 900001 0, .ptr 900002 0]), (4, .ptr 4 0), (5, .ptr 5 0)]) (m := [(4, .cells [.int .i64 0]), (5, .cells [.ptr 8 0]), (8, .cells (rdC b 0 0)), (900001, .cells g), (900002, .cells o), (1900001, .note (.ptr 900001 0) v1), (1900002, .note (.ptr 900002 0) v2)]) up1k dn1k (fun _ => true) rfl rfl (by simp [q7d, q9j hg, q9j ho, q9j (q2f b 0 0), qog, AVal.kin, AVal.stb])
 have e1 : ([(4, ABlk.cells [.int .i64 0]), (5, .cells [.ptr 8 0]), (8, .cells (rdC b 0 0)), (900001, .cells g), (900002, .cells o), (1900001, .note (.ptr 900001 0) v1), (1900002, .note (.ptr 900002 0) v2)].map fun p => (up1k p.1, z2q up1k p.2)) = RdL b 0 0 g o v1 v2 := by
  simp only [List.map_cons, List.map_nil, z2q, qn2 hg, qn2 ho, qn2 (q2f b 0 0)]
  rfl
 rw [e1] at h
 exact h
end
def rdLL (j : Nat) : Bool := j == 1008 || j == 900001 || j == 900002
def rdσ (j : Nat) : Nat := if j = 1008 then 900000 else j
def rdρ (k : Nat) : Nat := if k = 900000 then 1008 else k
def qmb (b : Bs) (a e : Nat) (g o : List AVal) (v1 v2 v4 v5 : Value) : List (Nat × ABlk) :=
 [(1004, .cells [.int .i64 0]), (1005, .cells [.ptr 1008 0]), (1008, .cells (rdC b a e)), (900001, .cells g), (900002, .cells o), (1900001, .note (.ptr 900001 0) v1), (1900002, .note (.ptr 900002 0) v2), (1900004, .note (.ptr 1004 0) v4), (1900005, .note (.ptr 1005 0) v5)]
def rdM (b : Bs) (a e : Nat) (g o : List AVal) : qe8 := [(900000, rdC b a e), (900001, g), (900002, o)]
theorem q3s {b : Bs} {a e : Nat} {g o : List AVal} {k : Nat} : lin (rdM b a e g o) k = (k == 900000 || k == 900001 || k == 900002) := by
 unfold lin q3v rdM
 by_cases h0 : k = 900000
 ·subst h0; rfl
 ·by_cases h1 : k = 900001
  ·subst h1; rfl
  ·by_cases h2 : k = 900002
   ·subst h2; rfl
   ·have e0 : ((900000 : Nat) == k) = false := by simpa using fun h => h0 h.symm
    have e1 : ((900001 : Nat) == k) = false := by simpa using fun h => h1 h.symm
    have e2 : ((900002 : Nat) == k) = false := by simpa using fun h => h2 h.symm
    simp [List.find?, e0, e1, e2, h0, h1, h2]
theorem rd_L {b : Bs} {a e : Nat} {g o : List AVal} : ∀ j, rdLL j = true → lin (rdM b a e g o) (rdσ j) = true ∧ rdρ (rdσ j) = j := fun j hj => by
 simp only [rdLL, Bool.or_eq_true, beq_iff_eq] at hj
 rcases hj with (rfl | rfl) | rfl <;> exact ⟨by rw [q3s]; rfl, rfl⟩
theorem rd_ρ {b : Bs} {a e : Nat} {g o : List AVal} : ∀ k, lin (rdM b a e g o) k = true → rdLL (rdρ k) = true ∧ rdσ (rdρ k) = k := fun k hk => by
 rw [q3s] at hk
 simp only [Bool.or_eq_true, beq_iff_eq] at hk
 rcases hk with (rfl | rfl) | rfl <;> exact ⟨rfl, rfl⟩
section
variable (b : Bs) (F : FuncId) (a e : Nat) (g o o' : List AVal) (v1 v2 v4 v5 : Value)
def RdEnd : Ex → AS → Prop
 | .ret, s => e = 0 ∧ s.M = mms (qmb b a e g o' v1 v2 v4 v5) ∧ s.T 4 = .ptr 1004 0
 | .pan x, s => e ≠ 0 ∧ x = .iface 165 (.agg [.ptr 1008 0]) ∧ s.M = mms (qmb b a e g o' v1 v2 v4 v5) ∧ s.T 4 = .ptr 1004 0
 | _, _ => False
def qpw : SC → SC
 | .seq _ (.seq _ (.seq _ z)) => z
 | z => z
theorem awd_Read (ds : List Deferred) (hg : g.all q0j = true) (ho : o.all q0j = true) (ho' : o'.all q0j = true) {out : Out} (hF : EvM (En Tryz.prog rfl).P F [.ptr 900000 0, .ptr 900001 0, .ptr 900002 0] (rdM b 0 0 g o) out (rdM b a e g o'))
 (hout : out = .ret (.tup []) ∧ e = 0 ∨ out = .pan gup ∧ e ≠ 0) :
 AWd (En Tryz.prog rfl) 15 ds (qpw qh6) (RdEnd b a e g o' v1 v2 v4 v5) ⟨tms [(1, .fn F [.ptr 900001 0, .ptr 900002 0]), (4, .ptr 1004 0), (5, .ptr 1005 0)], mms (qmb b 0 0 g o v1 v2 v4 v5)⟩ := by
 unfold qh6
 simp only [qpw]
 refine AWd.seq (AWd.seq (AWd.run rfl ?_))
 unfold qmb
 (focus (have hF := @q07; (repeat' (first | refine go1 (k:=?_) | with_reducible refine Ny.of ?_ ?_ | (refine Hyp.of ?_; intro hc; (try simp only [hc]); (try simp only [Bh] at hc)))); all_goals clear hF))
 refine AWd.cond rfl (fun _ => AWd.run rfl ?_) (fun h => by cases h)
 (focus (have hF := @q07; (repeat' (first | refine go1 (k:=?_) | with_reducible refine Ny.of ?_ ?_ | (refine Hyp.of ?_; intro hc; (try simp only [hc]); (try simp only [Bh] at hc)))); all_goals clear hF))
 have hst : ∀ (a e : Nat) (o : List AVal), o.all q0j = true → ∀ p ∈ rdM b a e g o, ∀ x ∈ p.2, q0j x = true := fun a e o ho p hp x hx => by
  simp only [rdM, List.mem_cons, List.not_mem_nil, or_false] at hp
  rcases hp with rfl | rfl | rfl
  ·exact List.all_eq_true.1 (q2f b a e) x hx
  ·exact List.all_eq_true.1 hg x hx
  ·exact List.all_eq_true.1 ho x hx
 refine q8w (qaq (s := ⟨_, _⟩) (l := [.ptr 1008 0, .ptr 900001 0, .ptr 900002 0]) (m := rdM b 0 0 g o) (m' := rdM b a e g o') (L := rdLL) (ρ := rdρ) (σ := rdσ) (by with_unfolding_all rfl) (by with_unfolding_all rfl) rd_L rd_ρ ?_ (hst 0 0 o ho) (hst a e o' ho') rfl rfl (out := out) ?_ hF) ?_ ?_
 ·intro k cs hk
  obtain ⟨cs', hc, hm⟩ := q23 hk
  cases hc
  simp only [rdM, List.mem_cons, List.not_mem_nil, or_false, Prod.mk.injEq] at hm
  rcases hm with ⟨rfl, rfl⟩ | ⟨rfl, rfl⟩ | ⟨rfl, rfl⟩ <;> rfl
 ·rcases hout with ⟨rfl, _⟩ | ⟨rfl, _⟩
  ·rfl
  ·show (AVal.iface _ _).kin _ = true
   simp only [AVal.kin, q7t, q3s]
   rfl
 ·rintro v M' ⟨y, rfl, rfl, rfl⟩
  have hM := qdb (l := qmb b 0 0 g o v1 v2 v4 v5) (l' := qmb b a e g o' v1 v2 v4 v5) (L := rdLL) (σ := rdσ) (m' := rdM b a e g o') (fun k hk => by
   simp only [rdLL, Bool.or_eq_true, beq_iff_eq] at hk
   rcases hk with (rfl | rfl) | rfl <;> simp [qmb]) (by repeat (first | exact trivial | refine ⟨rfl, ?_⟩))
  unfold qmb at hM
  dsimp only
  rw [hM]
  rcases hout with ⟨h1, he⟩ | ⟨h1, _⟩
  ·cases h1
   refine AWd.seq (AWd.run rfl ?_)
   have hz : (AVal.tup []).ren rdρ = .tup [] := rfl
   rw [hz]
   dsimp only [AS.put]
   (focus (have hF := @hz; (repeat' (first | refine go1 (k:=?_) | with_reducible refine Ny.of ?_ ?_ | (refine Hyp.of ?_; intro hc; (try simp only [hc]); (try simp only [Bh] at hc)))); all_goals clear hF))
   refine AWd.ret ⟨he, qnp (l := (1004, .cells [.int .i64 0]) :: qmb b a e g o' v1 v2 v4 v5) (by repeat (first | exact trivial | refine ⟨rfl, ?_⟩)), rfl⟩
  ·cases h1
 ·rintro v M' ⟨y, rfl, rfl, rfl⟩
  have hM := qdb (l := qmb b 0 0 g o v1 v2 v4 v5) (l' := qmb b a e g o' v1 v2 v4 v5) (L := rdLL) (σ := rdσ) (m' := rdM b a e g o') (fun k hk => by
   simp only [rdLL, Bool.or_eq_true, beq_iff_eq] at hk
   rcases hk with (rfl | rfl) | rfl <;> simp [qmb]) (by repeat (first | exact trivial | refine ⟨rfl, ?_⟩))
  unfold qmb at hM
  dsimp only
  rw [hM]
  rcases hout with ⟨h1, _⟩ | ⟨h1, he⟩
  ·cases h1
  ·cases h1
   exact ⟨he, rfl, rfl, rfl⟩
end
end
theorem upd_idle {T : q12} {t : Nat} (h : T t = .undef) : upd T t .undef = T := by
 funext j
 by_cases hj : j = t
 ·subst hj; rw [q00, h]
 ·rw [q0h _ _ hj]
theorem wp_Read3 {b : Bs} {F : FuncId} {a e : Nat} {g o o' : List AVal} {v1 v2 : Value} (hg : g.all q0j = true) (ho : o.all q0j = true) (ho' : o'.all q0j = true) {out : Out} (hF : EvM (En Tryz.prog rfl).P F [.ptr 900000 0, .ptr 900001 0, .ptr 900002 0] (rdM b 0 0 g o) out (rdM b a e g o'))
 (hout : out = .ret (.tup []) ∧ e = 0 ∨ out = .pan gup ∧ e ≠ 0) {c3 c4 : Code} (s3 : q7i 15 c3 = some (SC.ops false qaj)) (s4 : q7i 15 c4 = some (qpw qh6)) {B : Nat → Prop} {G : Gh} {a2 : Act} {w2 : World} (hR : Rel 15 B G (RdS b F g o v1 v2) a2 w2) {Q' : Exit → Act → World → Prop}
 (h : ∀ p5 p4, Post 15 B G w2 (RdEnd b a e g o' v1 v2 p4 p5) (fun e a' w' => Q' e (Act.sh a' [⟨.fn (.func 130) #[p5, p4], #[]⟩]) w')) : (c3.seq c4).wp (En Tryz.prog rfl).P Q' a2 w2 := by
 obtain ⟨id, ops, rfl, hdst, hops⟩ := qpm s3
 obtain ⟨o1, o2, g1, g2, g3, g4, g5⟩ := qpl hops
 obtain ⟨a1, a2', a3⟩ := q82 g4
 obtain ⟨b1, b2, b3⟩ := q82 g5
 refine wp_seq (wp_region ?_)
 rw [g3, show List.range 2 = [0, 1] from rfl]
 have r1 : ∀ ρ, (execOp ρ o1).run (En Tryz.prog rfl).P w2 = .ok (.value (.func (.func 130) #[] #[ρ (.tmp 5), ρ (.tmp 4)])) w2 := fun ρ => by
  unfold execOp
  rw [a2']
  simp [Instr.makeFunc]
 have r2 : ∀ ρ, ρ (.tmp 9) = .func (.func 130) #[] #[a2.eval (.tmp 5), a2.eval (.tmp 4)] → (execOp ρ o2).run (En Tryz.prog rfl).P w2 = .ok (.defer ⟨.fn (.func 130) #[a2.eval (.tmp 5), a2.eval (.tmp 4)], #[]⟩) w2 := fun ρ hρ => by
  unfold execOp
  rw [b2]
  simp [resolve, hρ, Deferred.ofValue]
 have hs2 := hR.size
 have h9 : (a2.put (some 9) (.func (.func 130) #[] #[a2.eval (.tmp 5), a2.eval (.tmp 4)])).eval (.tmp 9) = .func (.func 130) #[] #[a2.eval (.tmp 5), a2.eval (.tmp 4)] := by
  simp [Act.put, Act.eval, hs2]
 have r2' := r2 _ h9
 simp only [wpOps, g1, g2, q5b a3, q5b b3, if_true, Oper.wp, r1, a1, b1, Oper.upon, r2']
 refine .inl (.inl ?_)
 generalize hp5 : a2.eval (.tmp 5) = p5 at *
 generalize hp4 : a2.eval (.tmp 4) = p4 at *
 have hv5 : VR (Dm (mms (RdL b 0 0 g o v1 v2))) G B w2 (.ptr 1005 0) p5 := by rw [← hp5]; exact hR.temps 5
 have hv4 : VR (Dm (mms (RdL b 0 0 g o v1 v2))) G B w2 (.ptr 1004 0) p4 := by rw [← hp4]; exact hR.temps 4
 have hd2 := hR.defers
 have hR3 := hR.put (d := some 9) (v := .undef) (v' := .func (.func 130) #[] #[p5, p4]) (fun t ht => by cases ht; decide) (.undef _)
 have eT : upd (tms [(1, .fn F [.ptr 900001 0, .ptr 900002 0]), (4, .ptr 1004 0), (5, .ptr 1005 0)]) 9 .undef = tms [(1, .fn F [.ptr 900001 0, .ptr 900002 0]), (4, .ptr 1004 0), (5, .ptr 1005 0)] := upd_idle rfl
 have hR4 : Rel 15 B G ⟨tms [(1, .fn F [.ptr 900001 0, .ptr 900002 0]), (4, .ptr 1004 0), (5, .ptr 1005 0)], mms (RdL b 0 0 g o v1 v2)⟩ (a2.put (some 9) (.func (.func 130) #[] #[p5, p4])) w2 := by
  rw [← eT]
  exact hR3
 have hR5 := hR4.noted (k := 1900004) rfl hv4
 have hv5' : VR (Dm (upd (mms (RdL b 0 0 g o v1 v2)) 1900004 (some (.note (.ptr 1004 0) p4)))) G B w2 (.ptr 1005 0) p5 := by
  refine hv5.mono (fun j e hj => q35 ?_ hj) (fun _ _ _ => ⟨rfl, rfl⟩) (fun _ _ hn ho => ⟨rfl, hn, ho⟩)
  have : mms (RdL b 0 0 g o v1 v2) 1900004 = none := rfl
  rw [this]
  trivial
 have hR6 := hR5.noted (k := 1900005) rfl hv5'
 have eM : upd (upd (mms (RdL b 0 0 g o v1 v2)) 1900004 (some (.note (.ptr 1004 0) p4))) 1900005 (some (.note (.ptr 1005 0) p5)) = mms (qmb b 0 0 g o v1 v2 p4 p5) :=
  qnp (l := (1900005, .note (.ptr 1005 0) p5) :: (1900004, .note (.ptr 1004 0) p4) :: RdL b 0 0 g o v1 v2) (by repeat (first | exact trivial | refine ⟨rfl, ?_⟩))
 rw [eM] at hR6
 have key := awd_Read b F a e g o o' v1 v2 p4 p5 [⟨.fn (.func 130) #[p5, p4], #[]⟩] hg ho ho' hF hout c4 s4 B G _ w2 hR6 Q' (h p5 p4)
 have e0 : (Act.put ({ a2.put (some 9) (.func (.func 130) #[] #[p5, p4]) with defers := ⟨.fn (.func 130) #[p5, p4], #[]⟩ :: (a2.put (some 9) (.func (.func 130) #[] #[p5, p4])).defers } : Act) none undef) = Act.sh (a2.put (some 9) (.func (.func 130) #[] #[p5, p4])) [⟨.fn (.func 130) #[p5, p4], #[]⟩] := by
  simp [Act.sh, Act.put, hd2]
 show c4.wp _ Q' (Act.put ({ a2.put (some 9) (.func (.func 130) #[] #[p5, p4]) with defers := ⟨.fn (.func 130) #[p5, p4], #[]⟩ :: (a2.put (some 9) (.func (.func 130) #[] #[p5, p4])).defers } : Act) none undef) w2
 rw [e0]
 exact key
theorem qc5 {b : Bs} {a e : Nat} {g o' : List AVal} {v1 v2 p4 p5 : Value} (hb : b.length ≤ 900000000000) {fn : Func} (f5 : fn.results.toList = [.cell 4 35]) {B : Nat → Prop} {G : Gh} {s : AS} {a3 : Act} {w : World} (h : Rel 15 B G s a3 w) (hM : s.M = mms (qmb b a e g o' v1 v2 p4 p5)) (hT : s.T 4 = .ptr 1004 0)
 {u : FrameMode} {x : AVal} {xv : Value} (hx : VR (Dm s.M) G B w x xv) (hu : (u = .returning ∧ x = .niliface ∧ xv = .nilIface ∧ e = 0) ∨ (u = .panicking [{ v := xv, recovered := false }] ∧ x = .iface 165 (.agg [.ptr 1008 0]) ∧ e ≠ 0)) {R : Ending → World → Prop}
 (hfin : ∀ w' G' s' a' n', Adv G w G' w' → Rel n' B G' s' a' w' → s'.M 900001 = some (.cells g) → s'.M 900002 = some (.cells o') → s'.M 1900001 = some (.note (.ptr 900001 0) v1) → s'.M 1900002 = some (.note (.ptr 900002 0) v2) → R (.returned (.int .i64 (q3r b a e))) w') :
 Leaves (En Tryz.prog rfl).P fn a3.tmps R [⟨.fn (.func 130) #[p5, p4], #[]⟩] u w := by
 obtain ⟨T, M⟩ := s
 dsimp only at hM hT hx
 subst hM
 have h4 : VR (Dm (mms (qmb b a e g o' v1 v2 p4 p5))) G B w (.ptr 1004 0) p4 := h.mem 1900004 _ rfl
 have h5 : VR (Dm (mms (qmb b a e g o' v1 v2 p4 p5))) G B w (.ptr 1005 0) p5 := h.mem 1900005 _ rfl
 have e4 : a3.tmps.getD 4 undef = p4 := by
  have h4' := h.temps 4
  dsimp only at h4'
  rw [hT] at h4'
  generalize a3.tmps.getD 4 undef = q at h4'
  cases h4 with
  | ptr _ _ hd => cases h4' with | ptr _ _ hd' => rfl
 obtain ⟨fn1, c1, g1, g2, g3, g4, g5, g6⟩ := zd1
 have hinv : (invoke (Target.fn (.func 130) #[p5, p4]) #[]).run (En Tryz.prog rfl).P w = .ok (.enter 130 #[p5, p4]) w := by
  have g2' : (fn1.name = "runtime.NumGoroutine") = False := by simpa using g2
  have g1' : (En Tryz.prog rfl).P.funcs[130]? = some fn1 := g1
  simp [invoke, callFunc, g1', g2', g3]
 have fin : ∀ (u' : FrameMode) (w' : World) (G' : Gh) (s' : AS) (a' : Act), Adv G w G' w' → Rel 59 B G' s' a' w' → RdQ (q3r b a e) g o' v1 v2 p4 .normal s' → settle u' = .returning → Leaves (En Tryz.prog rfl).P fn a3.tmps R [] (settle u') w' := by
  intro u' w' G' s' a' hA hR hq hs
  obtain ⟨q1, q2, q3, q4, q5, q6⟩ := hq
  rw [hs]
  have hn : VR (Dm s'.M) G' B w' (.ptr 1004 0) p4 := hR.mem 1900004 _ q6
  have hV : Rel 15 B G' ⟨tms [(4, .ptr 1004 0)], s'.M⟩ a3 w' := hR.seen h.size h.defers fun t => by
   by_cases ht : t = 4
   ·subst ht
    rw [e4]
    exact hn
   ·have : tms [(4, AVal.ptr 1004 0)] t = .undef := by simp [tms, upd, ht]
    rw [this]
    exact .undef _
  obtain ⟨v, r1, r2⟩ := qbl (K := fun _ => true) (En Tryz.prog rfl).hT hV (fn := fn) (xs := [.int .i64 (q3r b a e)]) (ys := [.int .i64 (q3r b a e)]) (by
   rw [f5]
   have ht : (En Tryz.prog rfl).TE 35 = _ := TE_35
   simp [q1n, q3a, ht, tms, upd, q1]
   rfl) ⟨.inl rfl, trivial⟩
  refine ⟨v, r1, ?_⟩
  have hv : v = .int .i64 (q3r b a e) := by
   cases r2
   rfl
  rw [hv]
  exact hfin w' G' s' a' 59 hA hR q2 q3 q4 q5
 have step : u ≠ .run ∧ CallsD (En Tryz.prog rfl).P 130 #[p5, p4] u w (fun en u' w' => match en, u', w' with
  | .returned _, u', w' => Leaves (En Tryz.prog rfl).P fn a3.tmps R [] (settle u') w'
  | .panicked chain, u', w' => Leaves (En Tryz.prog rfl).P fn a3.tmps R [] (raised u' chain) w'
  | .outgrown, _, w' => R .outgrown w') := by
  rcases hu with ⟨rfl, rfl, rfl, rfl⟩ | ⟨rfl, rfl, he⟩
  ·refine ⟨by simp, qa1 (Q := RdQ (q3r b a 0) g o' v1 v2 p4) h h5 h4 hx (u' := .returning) (.inl ⟨rfl, rfl, rfl⟩) (qoj b a hb g o' v1 v2 p4 p5) (fun ee s hq => ?_) fun v' w' G' s' a' hA hR hq => fin _ w' G' s' a' hA hR hq rfl⟩
   cases ee <;> first | rfl | exact hq.elim
  ·have hr : q3r b a e = e := by unfold q3r; rw [if_neg he]
   refine ⟨by simp, qa1 (Q := RdQ (q3r b a e) g o' v1 v2 p4) h h5 h4 hx (u' := .panicking [{ v := xv, recovered := true }]) (.inr ⟨rfl, rfl⟩) (by rw [hr]; exact qm9 b a e he hb g o' v1 v2 p4 p5) (fun ee s hq => ?_) fun v' w' G' s' a' hA hR hq => fin _ w' G' s' a' hA hR hq rfl⟩
   cases ee <;> first | rfl | exact hq.elim
 exact ⟨step.1, _, _, _, _, rfl, hinv, step.2⟩
theorem qo9 (b : Bs) (hb : b.length ≤ 900000000000) (F : FuncId) (a e : Nat) (g o o' : List AVal) (hg : g.all q0j = true) (ho : o.all q0j = true) (ho' : o'.all q0j = true) {out : Out} (hF : EvM (En Tryz.prog rfl).P F [.ptr 900000 0, .ptr 900001 0, .ptr 900002 0] (rdM b 0 0 g o) out (rdM b a e g o'))
 (hout : out = .ret (.tup []) ∧ e = 0 ∨ out = .pan gup ∧ e ≠ 0) : EvM (En Tryz.prog rfl).P 102 [.sl 1 (q1k b), .fn F [.ptr 900001 0, .ptr 900002 0]] [(900001, g), (900002, o)] (.ret (.int .i64 (q3r b a e))) [(900001, g), (900002, o')] := by
 obtain ⟨fn, c, f1, f2, f3, f4, f5, f6⟩ := it_k102
 refine EvM.of_run f1 f2 f3 (by simp [f4]) (fun k => ?_) ?_ ?_ ?_
 ·by_cases h1 : k = 900001
  ·subst h1; rfl
  ·by_cases h2 : k = 900002
   ·subst h2; rfl
   ·unfold lin q3v
    have e1 : ((900001 : Nat) == k) = false := by simpa using fun h => h1 h.symm
    have e2 : ((900002 : Nat) == k) = false := by simpa using fun h => h2 h.symm
    simp [List.find?, e1, e2]
 ·intro p hp
  simp only [List.mem_cons, List.not_mem_nil, or_false] at hp
  rcases hp with rfl | rfl <;> simp [q53]
 ·intro p hp x hx
  simp only [List.mem_cons, List.not_mem_nil, or_false] at hp
  rcases hp with rfl | rfl
  ·exact List.all_eq_true.1 hg x hx
  ·exact List.all_eq_true.1 ho' x hx
 intro B G vs w hsz hR R hfin
 obtain ⟨c1, cr, rfl, s1, sr⟩ := qah (x := .ops false qal) (y := .seq (.ops false qak) (.seq (.ops false qaj) (qpw qh6))) f6
 obtain ⟨c2, cr, rfl, s2, sr⟩ := qah sr
 obtain ⟨c3, c4, rfl, s3, s4⟩ := qah sr
 refine calls_of_wp_defers f1 f3 ?_
 rw [f4] at hR ⊢
 have hl : lnt [(900001, g), (900002, o)] G.β = [(900001, .cells g), (1900001, .note (.ptr 900001 0) (q38 (G.β 900001))), (900002, .cells o), (1900002, .note (.ptr 900002 0) (q38 (G.β 900002)))] := by
  simp only [lnt, q53, List.flatMap_cons, List.flatMap_nil, List.cons_append, List.nil_append, List.append_nil, Nat.reduceAdd]
 rw [hl] at hR
 refine wp_seq (qm8 b F g o (q38 (G.β 900001)) (q38 (G.β 900002)) hg ho c1 s1 B G _ w hR _ fun e1 S1 a1 w1 G1 hA1 hR1 hq1 => ?_)
 obtain ⟨rfl, hq1⟩ := hq1
 refine wp_seq (hq1 c2 s2 B G1 a1 w1 hR1 _ fun e2 S2 a2 w2 G2 hA2 hR2 hq2 => ?_)
 obtain ⟨rfl, hq2⟩ := hq2
 obtain ⟨G3, hR3, hA3⟩ := hq2 B G2 a2 w2 hR2
 refine wp_Read3 hg ho ho' hF hout s3 s4 hR3 fun p5 p4 e3 S3 a3 w3 G4 hA4 hR4 hq4 => ?_
 have hA : Adv G w G4 w3 := ((hA1.trans hA2).trans hA3).trans hA4
 have f5' : fn.results.toList = [.cell 4 35] := f5
 have hend : ∀ (G4 : Gh) (w3 : World), Adv G w G4 w3 → ∀ (w' : World) (G' : Gh) (s' : AS) (a' : Act) (n' : Nat), Adv G4 w3 G' w' → Rel n' B G' s' a' w' → s'.M 900001 = some (.cells g) → s'.M 900002 = some (.cells o') → s'.M 1900001 = some (.note (.ptr 900001 0) (q38 (G.β 900001))) → s'.M 1900002 = some (.note (.ptr 900002 0) (q38 (G.β 900002))) → R (.returned (.int .i64 (q3r b a e))) w' :=
  fun G4 w3 hA w' G' s' a' n' hA' hR' q1 q2 q3 q4 => hfin _ w' G' s' a' n' (hA.trans hA') hR' ⟨fun p hp => by
   simp only [List.mem_cons, List.not_mem_nil, or_false] at hp
   rcases hp with rfl | rfl
   ·exact q1
   ·exact q2, fun p hp => by
   simp only [List.mem_cons, List.not_mem_nil, or_false] at hp
   rcases hp with rfl | rfl
   ·exact ⟨1900001, q3⟩
   ·exact ⟨1900002, q4⟩⟩ ⟨_, rfl, rfl, .int _ _⟩
 cases e3 with
 | normal => exact hq4.elim
 | exit _ => exact hq4.elim
 | ret =>
  obtain ⟨he, hM, hT4⟩ := hq4
  subst he
  have hds : (Act.sh a3 [⟨.fn (.func 130) #[p5, p4], #[]⟩]).defers = [⟨.fn (.func 130) #[p5, p4], #[]⟩] := by simp [Act.sh, hR4.defers]
  show Leaves _ fn a3.tmps R (Act.sh a3 _).defers .returning w3
  rw [hds]
  exact qc5 hb f5' hR4 hM hT4 .niliface (.inl ⟨rfl, rfl, rfl, rfl⟩) (hend G4 w3 hA)
 | pan x =>
  obtain ⟨he, rfl, hM, hT4⟩ := hq4
  intro v' hv'
  have hds : (Act.sh a3 [⟨.fn (.func 130) #[p5, p4], #[]⟩]).defers = [⟨.fn (.func 130) #[p5, p4], #[]⟩] := by simp [Act.sh, hR4.defers]
  show Leaves _ fn a3.tmps R (Act.sh a3 _).defers (.panicking [{ v := v', recovered := false }]) w3
  rw [hds]
  exact qc5 hb f5' hR4 hM hT4 hv' (.inr ⟨rfl, rfl, he⟩) (hend G4 w3 hA)

def z7w : List SOp := [zO 3 (.box 109 (.tmp 1)),zO 4 (.alloc 25),zO 5 (.assign (.const (.bool false)))]
instance : Live z7w := ⟨[0,1]⟩
def z7v : List SOp := [zO 6 (.alloc 25)]
instance : Live z7v := ⟨[0,3,4]⟩
def z7u : List SOp := [zM 8 0,zO 9 (.makeFunc (.func 103) #[] #[.tmp 3,.tmp 6]),zO 10 (.call ⟨.value (.func 102),#[.tmp 8,.tmp 9],#[28,141]⟩),zG 7 10]
instance : Live z7u := ⟨[0,3,4,6]⟩
def qnh : List SOp := [zL 11 25 6,zM 12 7,zO 13 (.binOp .eql 35 (.tmp 12) (.const (.int .i64 0)) 35),⟨none,.store 25 (.tmp 4) (.tmp 11),none⟩,zG 5 13]
instance : Live qnh := ⟨[4,6,7]⟩
def t_k59 : SC :=
 (.seq (.ops false z7w) (.seq (.ops false z7v) (.seq (.ops false z7u) (.seq (.ops false qnh) .ret))))
theorem it_k59 : FnIs Tryz.prog 59 14 [.cell 4 25, .tmp 5] t_k59 := ⟨Tryz.f59, _, Tryz.func59, rfl, rfl, rfl, rfl, by kernel_rfl⟩

def qzn : List SOp := [zL 4 109 1,zM 5 0,zO 6 (.call ⟨.value (.tmp 4),#[.tmp 5],#[140]⟩),⟨none,.store 25 (.tmp 2) (.tmp 6),none⟩]
instance : Live qzn := ⟨[0,1,2]⟩
def t_k103 : SC :=
 (.ops false qzn)
theorem it_k103 : FnIs Tryz.prog 103 7 [] t_k103 := ⟨Tryz.f103, _, Tryz.func103, rfl, rfl, rfl, rfl, by kernel_rfl⟩

def z7l : List SOp := [zO 3 (.box 112 (.tmp 1)),zO 4 (.assign (.const (.slice none 0 0))),zO 5 (.assign (.const (.bool false)))]
instance : Live z7l := ⟨[0,1]⟩
def z7k : List SOp := [zO 6 (.alloc 26)]
instance : Live z7k := ⟨[0,3]⟩
def z7j : List SOp := [zM 8 0,zO 9 (.makeFunc (.func 107) #[] #[.tmp 3,.tmp 6]),zO 10 (.call ⟨.value (.func 102),#[.tmp 8,.tmp 9],#[28,141]⟩),zG 7 10]
instance : Live z7j := ⟨[0,3,6]⟩
def qnf : List SOp := [zL 11 26 6,zM 12 7,zO 13 (.binOp .eql 35 (.tmp 12) (.const (.int .i64 0)) 35),zG 4 11,zG 5 13]
instance : Live qnf := ⟨[6,7]⟩
def t_k61 : SC :=
 (.seq (.ops false z7l) (.seq (.ops false z7k) (.seq (.ops false z7j) (.seq (.ops false qnf) .ret))))
theorem it_k61 : FnIs Tryz.prog 61 14 [.tmp 4, .tmp 5] t_k61 := ⟨Tryz.f61, _, Tryz.func61, rfl, rfl, rfl, rfl, by kernel_rfl⟩

def qz2 : List SOp := [zL 4 112 1,zM 5 0,zO 6 (.call ⟨.value (.tmp 4),#[.tmp 5],#[140]⟩),⟨none,.store 26 (.tmp 2) (.tmp 6),none⟩]
instance : Live qz2 := ⟨[0,1,2]⟩
def t_k107 : SC :=
 (.ops false qz2)
theorem it_k107 : FnIs Tryz.prog 107 7 [] t_k107 := ⟨Tryz.f107, _, Tryz.func107, rfl, rfl, rfl, rfl, by kernel_rfl⟩

def z6u : List SOp := [zO 3 (.box 117 (.tmp 1)),zO 4 (.assign (.const (.slice none 0 0))),zO 5 (.assign (.const (.bool false)))]
instance : Live z6u := ⟨[0,1]⟩
def z6t : List SOp := [zO 6 (.alloc 27)]
instance : Live z6t := ⟨[0,3]⟩
def z6s : List SOp := [zM 8 0,zO 9 (.makeFunc (.func 111) #[] #[.tmp 3,.tmp 6]),zO 10 (.call ⟨.value (.func 102),#[.tmp 8,.tmp 9],#[28,141]⟩),zG 7 10]
instance : Live z6s := ⟨[0,3,6]⟩
def qne : List SOp := [zL 11 27 6,zM 12 7,zO 13 (.binOp .eql 35 (.tmp 12) (.const (.int .i64 0)) 35),zG 4 11,zG 5 13]
instance : Live qne := ⟨[6,7]⟩
def t_k65 : SC :=
 (.seq (.ops false z6u) (.seq (.ops false z6t) (.seq (.ops false z6s) (.seq (.ops false qne) .ret))))
theorem it_k65 : FnIs Tryz.prog 65 14 [.tmp 4, .tmp 5] t_k65 := ⟨Tryz.f65, _, Tryz.func65, rfl, rfl, rfl, rfl, by kernel_rfl⟩

def qyj : List SOp := [zL 4 117 1,zM 5 0,zO 6 (.call ⟨.value (.tmp 4),#[.tmp 5],#[140]⟩),⟨none,.store 27 (.tmp 2) (.tmp 6),none⟩]
instance : Live qyj := ⟨[0,1,2]⟩
def t_k111 : SC :=
 (.ops false qyj)
theorem it_k111 : FnIs Tryz.prog 111 7 [] t_k111 := ⟨Tryz.f111, _, Tryz.func111, rfl, rfl, rfl, rfl, by kernel_rfl⟩

def rdE {α : Type} : Rs α → Nat
 | .ok _ => 0
 | .error (e, _) => e
def rdA {α : Type} : Rs α → Nat
 | .ok (_, a) => a
 | .error (_, a) => a
def rdO {α : Type} (r : Rs α) (o : List AVal) (f : α → List AVal) : List AVal :=
 match r with
 | .ok (x, _) => f x
 | .error _ => o
def z3x {α : Type} : Rs α → Out
 | .ok _ => .ret (.tup [])
 | .error _ => .pan gup
theorem z3z {b : Bs} {a e : Nat} {g o : List AVal} : ∀ p ∈ rdM b a e g o, p.1 < q53 := fun p hp => by
 simp only [rdM, List.mem_cons, List.not_mem_nil, or_false] at hp
 rcases hp with rfl | rfl | rfl <;> simp [q53]
theorem z3y {b : Bs} {a e : Nat} {g o : List AVal} (hg : g.all q0j = true) (ho : o.all q0j = true) : ∀ p ∈ rdM b a e g o, ∀ x ∈ p.2, q0j x = true := fun p hp x hx => by
 simp only [rdM, List.mem_cons, List.not_mem_nil, or_false] at hp
 rcases hp with rfl | rfl | rfl
 ·exact List.all_eq_true.1 (q2f b a e) x hx
 ·exact List.all_eq_true.1 hg x hx
 ·exact List.all_eq_true.1 ho x hx
theorem q95 {b : Bs} {a e a0 e0 : Nat} {g o g0 o0 : List AVal} {β : Nat → Nat} {s : AS} (h0 : s.M 900000 = some (.cells (rdC b a e))) (h1 : s.M 900001 = some (.cells g)) (h2 : s.M 900002 = some (.cells o))
 (n0 : s.M 1900000 = some (.note (.ptr 900000 0) (q38 (β 900000)))) (n1 : s.M 1900001 = some (.note (.ptr 900001 0) (q38 (β 900001)))) (n2 : s.M 1900002 = some (.note (.ptr 900002 0) (q38 (β 900002)))) : FinM (rdM b a0 e0 g0 o0) (rdM b a e g o) β s := by
 refine ⟨fun p hp => ?_, fun p hp => ?_⟩
 ·simp only [rdM, List.mem_cons, List.not_mem_nil, or_false] at hp
  rcases hp with rfl | rfl | rfl <;> assumption
 ·simp only [rdM, List.mem_cons, List.not_mem_nil, or_false] at hp
  rcases hp with rfl | rfl | rfl
  ·exact ⟨_, n0⟩
  ·exact ⟨_, n1⟩
  ·exact ⟨_, n2⟩
theorem qn5 {b : Bs} {a e : Nat} {g o : List AVal} {β : Nat → Nat} : lnt (rdM b a e g o) β = [(900000, .cells (rdC b a e)), (1900000, .note (.ptr 900000 0) (q38 (β 900000))), (900001, .cells g), (1900001, .note (.ptr 900001 0) (q38 (β 900001))), (900002, .cells o), (1900002, .note (.ptr 900002 0) (q38 (β 900002)))] := by
 simp only [lnt, rdM, q53, List.flatMap_cons, List.flatMap_nil, List.cons_append, List.nil_append, List.append_nil, Nat.reduceAdd]
def z1o (p : Pst) : List AVal := [.sl 1 (q03 p.vec), .sl 3 (q0g p.cloud)]
theorem qf6 (p : Pst) : (z1o p).all q0j = true := by simp [z1o, q0j, AVal.stb, q01, q02]
def qo5 (l : List Ent) : List AVal := [.sl 4 (q1b l)]
def qn3 (l : List Rec) : List AVal := [.sl 3 (q1j l)]
theorem qo8 (b : Bs) (hb : b.length ≤ 900000000000) : EvM (En Tryz.prog rfl).P 103 [.ptr 900000 0, .ptr 900001 0, .ptr 900002 0] (rdM b 0 0 [.fn 60 []] [.nil, .nil]) (z3x (q1f b 0)) (rdM b (rdA (q1f b 0)) (rdE (q1f b 0)) [.fn 60 []] (rdO (q1f b 0) [.nil, .nil] z1o)) := by
 have he := qds b 0 hb (Nat.zero_le _)
 refine EvM.of_body it_k103 (by simp) (fun k => by rw [q3s, q3s]) z3z (z3y rfl ?_) fun β => ?_
 ·cases q1f b 0 with
  | ok q => exact qf6 _
  | error q => rfl
 rw [qn5]
 refine Run.start ?_
 unfold t_k103
 (focus (have hF := @q07; (repeat' (first | refine go1 (k:=?_) | with_reducible refine Ny.of ?_ ?_ | (refine Hyp.of ?_; intro hc; (try simp only [hc]); (try simp only [Bh] at hc)))); all_goals clear hF))
 cases hr : q1f b 0 with
 | ok q =>
  obtain ⟨x, a⟩ := q
  rw [hr] at he
  refine q5t 900000 900000 (f := 60) (by with_unfolding_all rfl) (by with_unfolding_all rfl) (by with_unfolding_all rfl) (by with_unfolding_all rfl) (by with_unfolding_all rfl) (q2f b 0 0) (q2f b a 0) he.1 he.2 ?_
  dsimp only [AS.put]
  (focus (have hF := (aI @q07 @qo7); (repeat' (first | refine go1 (k:=?_) | with_reducible refine Ny.of ?_ ?_ | (refine Hyp.of ?_; intro hc; (try simp only [hc]); (try simp only [Bh] at hc)))); all_goals clear hF))
  exact ⟨[], rfl, rfl, ⟨[], trivial, rfl⟩, q95 rfl rfl rfl rfl rfl rfl⟩
 | error q =>
  obtain ⟨e, a⟩ := q
  rw [hr] at he
  exact q8v 900000 900000 (f := 60) (by with_unfolding_all rfl) (by with_unfolding_all rfl) (by with_unfolding_all rfl) (by with_unfolding_all rfl) (by with_unfolding_all rfl) (q2f b 0 0) (q2f b a e) (v := gup) rfl he ⟨by show (AVal.iface _ _).kin _ = true; simp only [AVal.kin, q7t, q3s]; rfl, rfl, q95 rfl rfl rfl rfl rfl rfl⟩
theorem qlp (b : Bs) (hb : b.length ≤ 900000000000) : EvM (En Tryz.prog rfl).P 107 [.ptr 900000 0, .ptr 900001 0, .ptr 900002 0] (rdM b 0 0 [.fn 62 []] [.nil]) (z3x (q0a b 0)) (rdM b (rdA (q0a b 0)) (rdE (q0a b 0)) [.fn 62 []] (rdO (q0a b 0) [.nil] qo5)) := by
 have he := qfv b 0 hb (Nat.zero_le _)
 refine EvM.of_body it_k107 (by simp) (fun k => by rw [q3s, q3s]) z3z (z3y rfl ?_) fun β => ?_
 ·cases q0a b 0 with
  | ok q => exact by simp [rdO, qo5, q0j, AVal.stb, q0l]
  | error q => rfl
 rw [qn5]
 refine Run.start ?_
 unfold t_k107
 (focus (have hF := @q07; (repeat' (first | refine go1 (k:=?_) | with_reducible refine Ny.of ?_ ?_ | (refine Hyp.of ?_; intro hc; (try simp only [hc]); (try simp only [Bh] at hc)))); all_goals clear hF))
 cases hr : q0a b 0 with
 | ok q =>
  obtain ⟨x, a⟩ := q
  rw [hr] at he
  refine q5t 900000 900000 (f := 62) (by with_unfolding_all rfl) (by with_unfolding_all rfl) (by with_unfolding_all rfl) (by with_unfolding_all rfl) (by with_unfolding_all rfl) (q2f b 0 0) (q2f b a 0) he.1 he.2 ?_
  dsimp only [AS.put]
  (focus (have hF := @q07; (repeat' (first | refine go1 (k:=?_) | with_reducible refine Ny.of ?_ ?_ | (refine Hyp.of ?_; intro hc; (try simp only [hc]); (try simp only [Bh] at hc)))); all_goals clear hF))
  exact ⟨[], rfl, rfl, ⟨[], trivial, rfl⟩, q95 rfl rfl rfl rfl rfl rfl⟩
 | error q =>
  obtain ⟨e, a⟩ := q
  rw [hr] at he
  exact q8v 900000 900000 (f := 62) (by with_unfolding_all rfl) (by with_unfolding_all rfl) (by with_unfolding_all rfl) (by with_unfolding_all rfl) (by with_unfolding_all rfl) (q2f b 0 0) (q2f b a e) (v := gup) rfl he ⟨by show (AVal.iface _ _).kin _ = true; simp only [AVal.kin, q7t, q3s]; rfl, rfl, q95 rfl rfl rfl rfl rfl rfl⟩
theorem qfz (b : Bs) (hb : b.length ≤ 900000000000) : EvM (En Tryz.prog rfl).P 111 [.ptr 900000 0, .ptr 900001 0, .ptr 900002 0] (rdM b 0 0 [.fn 66 []] [.nil]) (z3x (q08 b 0)) (rdM b (rdA (q08 b 0)) (rdE (q08 b 0)) [.fn 66 []] (rdO (q08 b 0) [.nil] qn3)) := by
 have he := qfu b 0 hb (Nat.zero_le _)
 refine EvM.of_body it_k111 (by simp) (fun k => by rw [q3s, q3s]) z3z (z3y rfl ?_) fun β => ?_
 ·cases q08 b 0 with
  | ok q => exact by simp [rdO, qn3, q0j, AVal.stb, q0p]
  | error q => rfl
 rw [qn5]
 refine Run.start ?_
 unfold t_k111
 (focus (have hF := @q07; (repeat' (first | refine go1 (k:=?_) | with_reducible refine Ny.of ?_ ?_ | (refine Hyp.of ?_; intro hc; (try simp only [hc]); (try simp only [Bh] at hc)))); all_goals clear hF))
 cases hr : q08 b 0 with
 | ok q =>
  obtain ⟨x, a⟩ := q
  rw [hr] at he
  refine q5t 900000 900000 (f := 66) (by with_unfolding_all rfl) (by with_unfolding_all rfl) (by with_unfolding_all rfl) (by with_unfolding_all rfl) (by with_unfolding_all rfl) (q2f b 0 0) (q2f b a 0) he.1 he.2 ?_
  dsimp only [AS.put]
  (focus (have hF := @q07; (repeat' (first | refine go1 (k:=?_) | with_reducible refine Ny.of ?_ ?_ | (refine Hyp.of ?_; intro hc; (try simp only [hc]); (try simp only [Bh] at hc)))); all_goals clear hF))
  exact ⟨[], rfl, rfl, ⟨[], trivial, rfl⟩, q95 rfl rfl rfl rfl rfl rfl⟩
 | error q =>
  obtain ⟨e, a⟩ := q
  rw [hr] at he
  exact q8v 900000 900000 (f := 66) (by with_unfolding_all rfl) (by with_unfolding_all rfl) (by with_unfolding_all rfl) (by with_unfolding_all rfl) (by with_unfolding_all rfl) (q2f b 0 0) (q2f b a e) (v := gup) rfl he ⟨by show (AVal.iface _ _).kin _ = true; simp only [AVal.kin, q7t, q3s]; rfl, rfl, q95 rfl rfl rfl rfl rfl rfl⟩

theorem Wk.cells_nil {n : Nat} {T : q12} {M : Mem} {k : Nat} {cs ds : List AVal} (hk : M k = some (.cells cs)) (h : qeg cs ds) : Wk n ⟨T, M⟩ ⟨T, upd M k (some (.cells ds))⟩ := by
 intro B G a w hR
 obtain ⟨c, el, b1, b2, b3, b4, b5⟩ := hR.mem k _ hk
 have hD : ∀ j e, Dm M j e → Dm (upd M k (some (.cells ds))) j e := fun j e => q35 (by rw [hk]; trivial)
 have hw : ∀ b, b < w.heap.size → ¬ B b → G.ow b = none → w.heap[b]? = w.heap[b]? ∧ ¬ B b ∧ G.ow b = none := fun b _ hn ho => ⟨rfl, hn, ho⟩
 refine ⟨G, hR.update (.refl G w) k (.cells ds) (by show qmm (M k) _; rw [hk]; trivial) (fun _ _ _ => ⟨rfl, rfl⟩) (fun b key _ _ ho _ => ⟨rfl, ho⟩) (fun b hb => hR.ol b hb) ?_, .refl G w⟩
 refine ⟨c, el, b1, b2, b3, by rw [b4, qaf h], fun i y hy => ?_⟩
 obtain ⟨x, hx, hs⟩ := qag h hy
 obtain ⟨u, hu, hr⟩ := b5 i x hx
 refine ⟨u, hu, ?_⟩
 rcases hs with rfl | ⟨rfl, sz, rfl⟩
 ·cases x with
  | own sz' xs' => exact OwnAt.mono hD (fun _ _ _ => ⟨rfl, rfl⟩) hw (fun b _ hb2 hb3 => ⟨rfl, hb2, hb3⟩) hr
  | hole => trivial
  | _ => exact VR.mono hD (fun _ _ _ => ⟨rfl, rfl⟩) hw hr
 ·have hr : VR (Dm M) G B w .nil u := hr
  cases hr
  exact .slnil sz
theorem sub2 : qeg [.nil, .nil] [.sl 1 [], .sl 3 []] := ⟨.inr ⟨rfl, 1, rfl⟩, .inr ⟨rfl, 3, rfl⟩, trivial⟩
def WkQ (n : Nat) (Q : Ex → AS → Prop) : Ex → AS → Prop
 | .pan x, s => Q (.pan x) s
 | e, s => ∃ s2, Wk n s s2 ∧ Q e s2
theorem AW.wkEnd {E : Env} {n : Nat} {Q : Ex → AS → Prop} {s : AS} {x : SC} (h : AW E n x (WkQ n Q) s) : AW E n x Q s := fun c hc B G a w hR Q' hP =>
 h c hc B G a w hR Q' fun e s1 a' w' G' hA hR' hq => by
  cases e with
  | pan x => exact hP (.pan x) s1 a' w' G' hA hR' hq
  | normal => obtain ⟨s2, hw, hq2⟩ := hq; obtain ⟨G2, h2, a2⟩ := hw B G' a' w' hR'; exact hP .normal s2 a' w' G2 (hA.trans a2) h2 hq2
  | ret => obtain ⟨s2, hw, hq2⟩ := hq; obtain ⟨G2, h2, a2⟩ := hw B G' a' w' hR'; exact hP .ret s2 a' w' G2 (hA.trans a2) h2 hq2
  | exit id => obtain ⟨s2, hw, hq2⟩ := hq; obtain ⟨G2, h2, a2⟩ := hw B G' a' w' hR'; exact hP (.exit id) s2 a' w' G2 (hA.trans a2) h2 hq2

def odd (n : Nat) : Bool := decide (n % 2 = 1)
theorem odd_iff (n : Nat) : odd n = true ↔ n % 2 = 1 := by simp [odd]
theorem odd_succ (n : Nat) : odd (n + 1) = !odd n := by
 unfold odd
 rcases Nat.mod_two_eq_zero_or_one n with h | h
 ·have : (n + 1) % 2 = 1 := by omega
  simp [h, this]
 ·have : (n + 1) % 2 = 0 := by omega
  simp [h, this]
structure CbI (a b : List Int) (f : Bool → Bool → Bool) (i j : Nat) (v : Bool) (t : List Int) : Prop where
 hi : i ≤ a.length
 hj : j ≤ b.length
 sa : ∀ x ∈ t, ∀ y ∈ a.drop i, x < y
 sb : ∀ x ∈ t, ∀ y ∈ b.drop j, x < y
 ab : ∀ x ∈ a.take i, ∀ y ∈ b.drop j, x < y
 ba : ∀ x ∈ b.take j, ∀ y ∈ a.drop i, x < y
 rise : t.Pairwise (fun x y => x < y)
 val : v = f (odd i) (odd j)
 len : odd t.length = v
 le : t.length ≤ i + j
 mem : ∀ m, odd (cnt t m) = f (odd (cnt (a.take i) m)) (odd (cnt (b.take j) m))
theorem CbI.start {a b : List Int} {f : Bool → Bool → Bool} (hf : f false false = false) : CbI a b f 0 0 false [] := by
 refine ⟨Nat.zero_le _, Nat.zero_le _, by simp, by simp, by simp, by simp, .nil, by simp [odd, hf], rfl, Nat.le_refl _, fun m => ?_⟩
 simp [q5p, odd, hf]
theorem CbI.step {a b : List Int} {f : Bool → Bool → Bool} (hra : a.Pairwise (fun x y => x < y)) (hrb : b.Pairwise (fun x y => x < y)) {i j : Nat} {v : Bool} {t : List Int} (h : CbI a b f i j v t) {x : Int} {i' j' : Nat}
 (ha : (i' = i + 1 ∧ a[i]? = some x) ∨ (i' = i ∧ ∀ y ∈ a.drop i, x < y)) (hb : (j' = j + 1 ∧ b[j]? = some x) ∨ (j' = j ∧ ∀ y ∈ b.drop j, x < y)) (hx : i' = i + 1 ∨ j' = j + 1) :
 CbI a b f i' j' (f (odd i') (odd j')) (if f (odd i') (odd j') = v then t else t ++ [x]) := by
 have key : ∀ (l : List Int) (k k' : Nat), l.Pairwise (fun x y => x < y) → k ≤ l.length → ((k' = k + 1 ∧ l[k]? = some x) ∨ (k' = k ∧ ∀ y ∈ l.drop k, x < y)) →
  k' ≤ l.length ∧ (∀ y ∈ l.drop k', x < y) ∧ (∀ y ∈ l.take k', y ∈ l.take k ∨ y = x) ∧ (∀ y ∈ l.drop k', y ∈ l.drop k) ∧ (∀ m, m < x → cnt (l.take k') m = cnt (l.take k) m) ∧ (l.take k').length = k' := by
  intro l k k' hr hk hc
  rcases hc with ⟨rfl, hg⟩ | ⟨rfl, hg⟩
  ·obtain ⟨hlt, he⟩ := List.getElem?_eq_some_iff.1 hg
   have hd : l.drop k = x :: l.drop (k + 1) := by rw [List.drop_eq_getElem_cons hlt, he]
   have ht : l.take (k + 1) = l.take k ++ [x] := by rw [List.take_add_one, hg]; rfl
   have hp : (x :: l.drop (k + 1)).Pairwise (fun x y => x < y) := by rw [← hd]; exact hr.drop
   refine ⟨hlt, fun y hy => (List.pairwise_cons.1 hp).1 y hy, fun y hy => ?_, fun y hy => by rw [hd]; exact List.mem_cons_of_mem _ hy, fun m hm => ?_, by rw [List.length_take]; omega⟩
   ·rw [ht] at hy
    simpa using hy
   ·rw [ht, q6x, q1s, if_neg (by omega), q5p]; rfl
  ·exact ⟨hk, hg, fun y hy => .inl hy, fun y hy => hy, fun _ _ => rfl, by rw [List.length_take]; omega⟩
 obtain ⟨a1, a2, a3, a4, a5, a6⟩ := key a i i' hra h.hi ha
 obtain ⟨b1, b2, b3, b4, b5, b6⟩ := key b j j' hrb h.hj hb
 have hxin : (x ∈ a.drop i) ∨ (x ∈ b.drop j) := by
  rcases hx with e | e
  ·rcases ha with ⟨_, hg⟩ | ⟨e2, _⟩
   ·obtain ⟨hlt, he⟩ := List.getElem?_eq_some_iff.1 hg
    exact .inl (by rw [List.drop_eq_getElem_cons hlt, he]; exact List.mem_cons_self)
   ·omega
  ·rcases hb with ⟨_, hg⟩ | ⟨e2, _⟩
   ·obtain ⟨hlt, he⟩ := List.getElem?_eq_some_iff.1 hg
    exact .inr (by rw [List.drop_eq_getElem_cons hlt, he]; exact List.mem_cons_self)
   ·omega
 have tx : ∀ y ∈ t, y < x := fun y hy => by
  rcases hxin with e | e
  ·exact h.sa y hy x e
  ·exact h.sb y hy x e
 have ax : ∀ y ∈ a.take i, y < x := fun y hy => by
  rcases hxin with e | e
  ·have h1 := hra
   rw [← List.take_append_drop i a, List.pairwise_append] at h1
   exact h1.2.2 y hy x e
  ·exact h.ab y hy x e
 have bx : ∀ y ∈ b.take j, y < x := fun y hy => by
  rcases hxin with e | e
  ·exact h.ba y hy x e
  ·have h1 := hrb
   rw [← List.take_append_drop j b, List.pairwise_append] at h1
   exact h1.2.2 y hy x e
 have ax' : ∀ y ∈ a.take i', y ≤ x := fun y hy => by
  rcases a3 y hy with e | e
  ·have := ax y e; omega
  ·omega
 have bx' : ∀ y ∈ b.take j', y ≤ x := fun y hy => by
  rcases b3 y hy with e | e
  ·have := bx y e; omega
  ·omega
 have tx' : ∀ y ∈ (if f (odd i') (odd j') = v then t else t ++ [x]), y ≤ x := fun y hy => by
  split at hy
  ·have := tx y hy; omega
  ·rcases List.mem_append.1 hy with e | e
   ·have := tx y e; omega
   ·simp at e; omega
 have hlen : odd (if f (odd i') (odd j') = v then t else t ++ [x]).length = f (odd i') (odd j') := by
  by_cases e : f (odd i') (odd j') = v
  ·rw [if_pos e, h.len, e]
  ·rw [if_neg e, List.length_append]
   show odd (t.length + 1) = _
   rw [odd_succ, h.len]
   revert e
   cases v <;> cases f (odd i') (odd j') <;> simp
 refine ⟨a1, b1, fun y hy z hz => ?_, fun y hy z hz => ?_, fun y hy z hz => ?_, fun y hy z hz => ?_, ?_, rfl, hlen, ?_, fun m => ?_⟩
 ·have := tx' y hy; have := a2 z hz; omega
 ·have := tx' y hy; have := b2 z hz; omega
 ·have := ax' y hy; have := b2 z hz; omega
 ·have := bx' y hy; have := a2 z hz; omega
 ·split
  ·exact h.rise
  ·exact qbr h.rise tx
 ·have h1 := h.le
  have h2 : i + j + 1 ≤ i' + j' := by omega
  split
  ·omega
  ·simp only [List.length_append, List.length_cons, List.length_nil]; omega
 ·rcases Int.lt_or_le m x with hm | hm
  ·rw [a5 m hm, b5 m hm, ← h.mem m]
   congr 1
   split
   ·rfl
   ·rw [q6x, q1s, if_neg (by omega), q5p]; rfl
  ·rw [qci (fun y hy => Int.le_trans (ax' y hy) hm), qci (fun y hy => Int.le_trans (bx' y hy) hm), qci (fun y hy => Int.le_trans (tx' y hy) hm), a6, b6, hlen]
theorem CbI.done {a b : List Int} {f : Bool → Bool → Bool} {v : Bool} {t : List Int} (h : CbI a b f a.length b.length v t) (hf : f false false = false) {p q : Int → Prop} (ha : Turns p a) (hb : Turns q b) (r : Int → Prop)
 (hr : ∀ m, r m ↔ f (odd (cnt a m)) (odd (cnt b m)) = true) : Turns r t := by
 refine ⟨h.rise, ?_, fun m => ?_⟩
 ·have h1 := h.val
  have e1 : odd a.length = false := by have := ha.even; simp [odd]; omega
  have e2 : odd b.length = false := by have := hb.even; simp [odd]; omega
  rw [e1, e2, hf] at h1
  have := h.len
  rw [h1] at this
  simp [odd] at this
  omega
 ·rw [hr, ← odd_iff, h.mem m, List.take_length, List.take_length]

structure CbS where
 i : Nat
 j : Nat
 v : Bool
 t : List Int

def z9f : List SOp := [zO 1 (.box 88 (.tmp 0)),zO 2 (.alloc 25)]
instance : Live z9f := ⟨[0]⟩
def z9e : List SOp := [zO 3 (.alloc 25)]
instance : Live z9e := ⟨[1,2]⟩
def z9d : List SOp := [zO 8 (.makeSlice 22 (.const (.int .i64 16)) (.const (.int .i64 16))),zG 4 8]
instance : Live z9d := ⟨[1,2,3]⟩
def z9c : List SOp := [zO 5 (.assign (.const (.int .i64 0)))]
instance : Live z9c := ⟨[1,2,3,4]⟩
def z9b : List SOp := [zO 6 (.assign (.const (.int .i64 0)))]
instance : Live z9b := ⟨[1,2,3,4,5]⟩
def z9a : List SOp := [zM 9 6,zO 10 (.binOp .lss 3 (.tmp 9) (.const (.int .i64 16)) 3)]
instance : Live z9a := ⟨[1,2,3,4,5,6]⟩
def z99 : List SOp := [zO 7 (.assign (.const (.int .i64 0)))]
instance : Live z99 := ⟨[1,2,3,4,5,6]⟩
def z98 : List SOp := [zM 13 7,zO 14 (.binOp .add 3 (.tmp 13) (.const (.int .i64 1)) 3),zM 15 6,zF 16 88 1 0,zI 17 86 16 15,zL 18 22 17,zO 19 (.call ⟨.builtin .len,#[.tmp 18],#[22]⟩),zO 20 (.binOp .lss 3 (.tmp 14) (.tmp 19) 3)]
instance : Live z98 := ⟨[1,2,3,4,5,6,7]⟩
def z97 : List SOp := [zM 23 6,zF 24 88 1 0,zI 25 86 24 23,zL 26 22 25,zM 27 7,zI 28 22 26 27,zL 29 3 28,zO 30 (.binOp .eql 3 (.tmp 29) (.const (.int .i64 1)) 3)]
instance : Live z97 := ⟨[1,2,3,4,5,6,7]⟩
def qrt : List SOp := [zM 31 4,zM 32 6,zM 33 6,zF 34 88 1 0,zI 35 86 34 33,zL 36 22 35,zM 37 7,zO 38 (.binOp .add 3 (.tmp 37) (.const (.int .i64 1)) 3),zI 39 22 36 38,zL 40 3 39,zO 41 (.binOp .sub 3 (.tmp 40) (.const (.int .i64 1)) 3),zI 42 22 31 32,⟨none,.store 3 (.tmp 42) (.tmp 41),none⟩]
instance : Live qrt := ⟨[1,2,3,4,6,7]⟩
def qrs : List SOp := [zM 43 6,zO 44 (.binOp .add 3 (.tmp 43) (.const (.int .i64 1)) 3),zG 5 44]
instance : Live qrs := ⟨[1,2,3,4,6,7]⟩
def qf0 : List SOp := [zF 45 25 3 1,zL 46 23 45,zM 47 6,zM 48 6,zF 49 88 1 0,zI 50 86 49 48,zL 51 22 50,zM 52 7,zI 53 22 51 52,zL 54 3 53,zM 55 6,zF 56 88 1 0,zI 57 86 56 55,zL 58 22 57,zM 59 7,zO 60 (.binOp .add 3 (.tmp 59) (.const (.int .i64 1)) 3),zI 61 22 58 60,zL 62 3 61,zO 63 (.binOp .sub 3 (.tmp 62) (.const (.int .i64 1)) 3),zO 64 (.build 82 #[(0,.tmp 47),(1,.tmp 54),(2,.tmp 63)]),zO 65 (.buildSlice 23 1 #[(0,.tmp 64)]),zO 66 (.call ⟨.builtin .append,#[.tmp 46,.tmp 65],#[23,23]⟩),zF 67 25 3 1,⟨none,.store 23 (.tmp 67) (.tmp 66),none⟩]
instance : Live qf0 := ⟨[1,2,3,4,5,6,7]⟩
instance : Rd qf0 := ⟨fun j => j == 1⟩
def qrr : List SOp := [zM 21 7,zO 22 (.binOp .add 3 (.tmp 21) (.const (.int .i64 2)) 3),zG 7 22]
instance : Live qrr := ⟨[1,2,3,4,5,6,7]⟩
def qrq : List SOp := [zM 11 6,zO 12 (.binOp .add 3 (.tmp 11) (.const (.int .i64 1)) 3),zG 6 12]
instance : Live qrq := ⟨[1,2,3,4,5,6]⟩
def qrp : List SOp := [zM 68 4,zM 69 5,zO 70 (.slice 22 (.tmp 68) none (some (.tmp 69)) none),zF 71 25 3 0,⟨none,.store 22 (.tmp 71) (.tmp 70),none⟩]
instance : Live qrp := ⟨[2,3,4,5]⟩
def qro : List SOp := [zL 72 25 3,⟨none,.store 25 (.tmp 2) (.tmp 72),none⟩]
instance : Live qro := ⟨[2,3]⟩
def qpd : SC :=
 (.seq (.seq (.ops false z98) (.cond (.tmp 20) .skip (.exit 2))) (.seq (.block 3 (.seq (.ops false z97) (.cond (.tmp 30) (.seq (.ops false qrt) (.ops false qrs)) (.opsW [46] qf0)))) (.ops false qrr)))
def qpe : SC :=
 (.seq (.seq (.ops false z9a) (.cond (.tmp 10) .skip (.exit 0))) (.seq (.block 1 (.seq (.ops false z99) (.block 2 (.loop qpd)))) (.ops false qrq)))
def t_k43 : SC :=
 (.seq (.ops false z9f) (.seq (.ops false z9e) (.seq (.ops false z9d) (.seq (.ops false z9c) (.seq (.seq (.ops false z9b) (.block 0 (.loop qpe))) (.seq (.ops false qrp) (.seq (.ops false qro) .ret)))))))
theorem it_k43 : FnIs Tryz.prog 43 73 [.cell 2 25] t_k43 := ⟨Tryz.f43, _, Tryz.func43, rfl, rfl, rfl, rfl, by kernel_rfl⟩

def qmf (t : Tab) (r c : Nat) : List Sn := q19 t r ++ ((q1r ((q11 (t.getD r [])).take c)).2).map (q3u r)
theorem z3p (t : Tab) (r : Nat) : qmf t r 0 = q19 t r := by simp [qmf, q1r]
theorem rowF_all (t : Tab) (r : Nat) : qmf t r (q11 (t.getD r [])).length = q19 t (r + 1) := by
 unfold qmf
 rw [q4h, List.take_length]
 rfl
theorem z1j {t : Tab} {r : Nat} {x : Rn} (hx : (q11 (t.getD r []))[0]? = some x) (h : x.1 = 1) : qmf t r 1 = qmf t r 0 := by
 unfold qmf
 rw [List.take_add_one, hx]
 simp [q1r, h]
theorem z3q {t : Tab} {r c : Nat} {x : Rn} (hx : (q11 (t.getD r []))[c]? = some x) (h : x.1 ≠ 1) : qmf t r (c + 1) = qmf t r c ++ [((r : Int), x.1, x.2)] := by
 unfold qmf
 rw [List.take_add_one, hx, List.append_assoc]
 congr 1
 cases c with
 | zero => simp [q1r, h, q3u]
 | succ c =>
  cases hm : q11 (t.getD r []) with
  | nil => rw [hm] at hx; simp at hx
  | cons y l =>
   rw [hm] at hx
   simp only [List.take_succ_cons, List.cons_append, q1r]
   simp only [Option.toList]
   split <;> simp [q3u]
theorem rowF_len (t : Tab) (r c : Nat) : (qmf t r c).length ≤ (q19 t r).length + (q11 (t.getD r [])).length := by
 have h1 := q98 ((q11 (t.getD r [])).take c)
 unfold qmf
 rw [List.length_append, List.length_map]
 rw [List.length_take] at h1
 omega
theorem qou {m : List Rn} {c : Nat} {x : Rn} (h : m[c]? = some x) : (q2w m)[2 * c]? = some x.1 ∧ (q2w m)[2 * c + 1]? = some (x.2 + 1) := by
 induction m generalizing c with
 | nil => simp at h
 | cons y m ih =>
  rw [q48]
  cases c with
  | zero => simp at h; subst h; exact ⟨rfl, rfl⟩
  | succ c =>
   have := ih (c := c) (by simpa using h)
   exact ⟨by simpa [Nat.mul_add] using this.1, by simpa [Nat.mul_add] using this.2⟩
theorem zeh {m : List Rn} (h : Can m) {c : Nat} {x : Rn} (hx : m[c + 1]? = some x) : x.1 ≠ 1 := by
 cases m with
 | nil => simp at hx
 | cons y m =>
  have hy := (Can.cons_iff.1 h)
  have hm : x ∈ m := List.mem_of_getElem? (by simpa using hx)
  have h1 := hy.2.1 x hm
  have h2 := hy.1
  unfold qmx at h1
  unfold okR at h2
  omega
theorem z2z {t : Tab} {r : Nat} (hr : r < 16) (h : q5k t r = 0) : q9n t (r + 1) = q9n t r := by
 unfold q9n
 rw [qc6, h, List.append_assoc, show 16 - r = (16 - (r + 1)) + 1 by omega, List.replicate_succ]
 rfl
def szF (t : Tab) (r : Nat) : Nat → Nat
 | 0 => q2v t r
 | _ + 1 => q2v t (r + 1)
def vcF (t : Tab) (r : Nat) : Nat → List Int
 | 0 => q9n t r
 | _ + 1 => q9n t (r + 1)
theorem ev_k43 (t : Tab) {n : Nat} (ht : TabLe t n) (hn : n ≤ 50000000) : Ev (En Tryz.prog rfl).P 43 [.agg (q0y (t.map q1a))] (.ret (q10 (q69 t))) := by
 refine Ev.of_body it_k43 (by simp) (Run.start ?_)
 unfold t_k43
 have h16 : (q0y (t.map q1a)).length = 16 := by simp [q0y, ht.1]
 have hone := q6v (t.map q1a)
 have hst := q46 (t.map q1a)
 (focus (have hF := (aI @h16 @hone); (repeat' (first | refine go1 (k:=?_) | with_reducible refine Ny.of ?_ ?_ | (refine Hyp.of ?_; intro hc; (try simp only [hc]); (try simp only [Bh] at hc)))); all_goals clear hF))
 refine Run.wk (Wk.own_cells (k := 3) (cs' := [.nil, .own 3 []]) rfl rfl ?_) ?_
 ·intro i x y hx hy
  match i with
  | 0 => simp at hx hy; subst hx; subst hy; exact .inl rfl
  | 1 => simp at hx hy; subst hx; subst hy; exact .inr ⟨rfl, 3, rfl⟩
  | i + 2 => simp at hx
 refine Run.while (σ := Nat) (fun r => ⟨tms [(1, .ptr 1 0), (2, .ptr 2 0), (3, .ptr 3 0), (4, .os 8 0), (5, .int .i64 (q2v t r)), (6, .int .i64 r)], mms [(1, .cells (q0y (t.map q1a))), (2, .cells [.nil, .nil]), (3, .cells [.nil, .own 3 (q0g (q19 t r))]), (8, .arr 0 1 (q03 (q9n t r)))]⟩)
  (fun r => r ≤ 16) (fun r => 16 - r) 0 (have hW := @hst; q0t) (Nat.zero_le _) ?_
 intro r hr
 have g0 : (q03 (q9n t r)).length = 16 := by rw [q0d, qae t hr]
 have hsz := qai t r
 unfold qpe
 by_cases hlt : r < 16
 ·have hrt : r < t.length := by rw [ht.1]; exact hlt
  have hq := ht.2 r
  have g1 : (q0y (t.map q1a))[r]? = some (.sl 1 (q03 (q2w (q11 (t.getD r []))))) := by
   rw [qdv (by rw [List.length_map]; exact hrt)]
   simp [List.getD_eq_getElem?_getD, hrt, q1a]
  have hml := q4d (t.getD r [])
  have hcan := q2k (t.getD r [])
  have hcl := q9g ht r
  have hcl2 : r * n ≤ 16 * n := Nat.mul_le_mul_right n hr
  have f1 := z3p t r
  have f2 := rowF_all t r
  have f3 := fun c x => @z3q t r c x
  have f4 := fun x => @z1j t r x
  have f5 := rowF_len t r
  have hlead : q5k t r = (q1r (q11 (t.getD r []))).1 := rfl
  have hs1 := q6p t r
  have hv1 := qoq t hlt
  have hv2 := qor t hlt
  have hl0 := z1t hcan
  generalize hmr : q11 (t.getD r []) = m at g1 hml hcan f2 f3 f4 f5 hlead hl0
  have g2 : (q03 (q2w m)).length = 2 * m.length := by rw [q0d, qda]
  have hz0 : (q1r m).1 = 0 → q2v t (r + 1) = q2v t r ∧ q9n t (r + 1) = q9n t r := fun h => ⟨by rw [hs1, hlead, h]; rfl, z2z hlt (by rw [hlead, h])⟩
  (focus (have hF := (aI @h16 (aI @hone @g0)); (repeat' (first | refine go1 (k:=?_) | with_reducible refine Ny.of ?_ ?_ | (refine Hyp.of ?_; intro hc; (try simp only [hc]); (try simp only [Bh] at hc)))); all_goals clear hF))
  refine Run.while (σ := Nat) (fun c => ⟨tms [(1, .ptr 1 0), (2, .ptr 2 0), (3, .ptr 3 0), (4, .os 8 0), (5, .int .i64 (szF t r c)), (6, .int .i64 r), (7, .int .i64 (2 * c : Nat))], mms [(1, .cells (q0y (t.map q1a))), (2, .cells [.nil, .nil]), (3, .cells [.nil, .own 3 (q0g (qmf t r c))]), (8, .arr 0 1 (q03 (vcF t r c)))]⟩)
   (fun c => c ≤ m.length) (fun c => m.length - c) 0 (have hW := (aI @hst @f1); q0t) (Nat.zero_le _) ?_
  intro c hc
  have gv : (q03 (vcF t r c)).length = 16 := by
   rw [q0d]
   cases c with
   | zero => exact qae t hr
   | succ c => exact qae t hlt
  have hsz2 : szF t r c ≤ r + 1 := by
   cases c with
   | zero => show q2v t r ≤ _; omega
   | succ c => exact qai t (r + 1)
  unfold qpd
  by_cases hcl3 : c < m.length
  ·obtain ⟨x, hx⟩ : ∃ x, m[c]? = some x := ⟨m[c], by simp [hcl3]⟩
   have ⟨k1, k2⟩ := qou hx
   have k1' : (q03 (q2w m))[2 * c]? = some (.int .i64 x.1) := q0r k1
   have k2' : (q03 (q2w m))[2 * c + 1]? = some (.int .i64 (x.2 + 1)) := q0r k2
   have hxr := hcan.2 x (List.mem_of_getElem? hx)
   unfold okR at hxr
   have hfl := f5 c
   have e8 : ((2 * c : Nat) : Int) + 1 = ((2 * c + 1 : Nat) : Int) := by omega
   have e9 : ((2 * c : Nat) : Int) + 2 = ((2 * (c + 1) : Nat) : Int) := by omega
   have e7 : IntKind.i64.wrap (x.2 + 1 - 1) = x.2 := by rw [q0b (by omega)]; omega
   by_cases h1 : x.1 = 1
   ·have hc0 : c = 0 := by
     cases c with
     | zero => rfl
     | succ c => exact absurd h1 (zeh hcan hx)
    have h5 : q5k t r = x.2 := by
     subst hc0
     rw [hlead]
     cases m with
     | nil => simp at hx
     | cons y m => simp at hx; subst hx; rw [qap h1]
    have h6 : qmf t r (c + 1) = qmf t r c := by subst hc0; exact f4 x hx h1
    have h8 : szF t r (c + 1) = r + 1 := by show q2v t (r + 1) = r + 1; rw [hs1, if_pos (by omega)]
    rw [h5] at hv1
    have h9 : (q03 (vcF t r c)).set r (.int .i64 x.2) = q03 (vcF t r (c + 1)) := by subst hc0; exact hv1
    have h10 : (q03 (vcF t r c))[r]? = some (.int .i64 0) := by subst hc0; exact hv2
    generalize szF t r c = sz at hsz2 ⊢
    (focus (have hF := (aI (aI (aI @h16 (aI @hone @gv)) (aI @g1 (aI @g2 @k1'))) (aI (aI @k2' (aI @h9 @h10)) (aI (aI @e7 @e8) (aI @e9 @h1)))); (repeat' (first | refine go1 (k:=?_) | with_reducible refine Ny.of ?_ ?_ | (refine Hyp.of ?_; intro hc; (try simp only [hc]); (try simp only [Bh] at hc)))); all_goals clear hF))
    (refine Fin.nextW (c + 1) ?_ (have hW := (aI (aI @hst @h6) (aI @h8 @h9)); q0t); (try dsimp only))
    omega
   ·have h6 := f3 c x hx h1
    have h8 : szF t r (c + 1) = szF t r c ∧ vcF t r (c + 1) = vcF t r c := by
     cases c with
     | zero =>
      refine hz0 ?_
      cases m with
      | nil => simp at hx
      | cons y m => simp at hx; subst hx; rw [qao h1]
     | succ c => exact ⟨rfl, rfl⟩
    obtain ⟨h8, h9⟩ := h8
    generalize qmf t r c = cl at h6 hfl ⊢
    have k3 := q14 cl
    (focus (have hF := (aI (aI (aI @h16 (aI @hone @gv)) (aI @g1 (aI @g2 @k1'))) (aI (aI @k2' (aI @e7 @e8)) (aI @e9 (aI @k3 @q1i)))); (repeat' (first | refine go1 (k:=?_) | with_reducible refine Ny.of ?_ ?_ | (refine Hyp.of ?_; intro hc; (try simp only [hc]); (try simp only [Bh] at hc)))); all_goals clear hF))
    ((with_reducible apply toW); refine stW (fun j => j == 1) (k:=?_))
    (focus (have hF := (aI (aI (aI @h16 (aI @hone @gv)) (aI @g1 (aI @g2 @k1'))) (aI (aI @k2' (aI @e7 @e8)) (aI @e9 (aI @k3 @q1i)))); (repeat' (first | refine go1 (k:=?_) | with_reducible refine Ny.of ?_ ?_ | (refine Hyp.of ?_; intro hc; (try simp only [hc]); (try simp only [Bh] at hc)))); all_goals clear hF))
    (refine Fin.nextW (c + 1) ?_ (have hW := (aI (aI @hst @h6) (aI @h8 @h9)); q0t); (try dsimp only))
    omega
  ·have hce : c = m.length := by omega
   subst hce
   rw [f2]
   have h8 : szF t r m.length = q2v t (r + 1) ∧ vcF t r m.length = q9n t (r + 1) := by
    cases m with
    | nil => have := hz0 rfl; exact ⟨this.1.symm, this.2.symm⟩
    | cons y m => exact ⟨rfl, rfl⟩
   rw [h8.1, h8.2] at *
   (focus (have hF := (aI (aI @h16 @hone) (aI @gv (aI @g1 @g2))); (repeat' (first | refine go1 (k:=?_) | with_reducible refine Ny.of ?_ ?_ | (refine Hyp.of ?_; intro hc; (try simp only [hc]); (try simp only [Bh] at hc)))); all_goals clear hF))
   (refine Fin.nextW (r + 1) ?_ (have hW := @hst; q0t); (try dsimp only))
   omega
 ·have hre : r = 16 := by omega
  subst hre
  have hv : q9n t 16 = q24 t 16 := by simp [q9n]
  rw [hv] at g0 ⊢
  have hll := q2c t 16
  have hlz : ((q24 t 16).take (q2v t 16)).length ≤ 16 := by rw [List.length_take]; omega
  have hres : q69 t = ⟨(q24 t 16).take (q2v t 16), q19 t 16⟩ := rfl
  rw [hres]
  refine Run.wk (Wk.freeze (k := 3) (cs := [.nil, .own 3 (q0g (q19 t 16))]) rfl) ?_
  refine Run.wk (s' := ⟨tms [(2, .ptr 2 0), (3, .ptr 3 0), (4, .os 8 0), (5, .int .i64 (q2v t 16)), (6, .int .i64 16)], mms [(2, .cells [.nil, .nil]), (3, .cells [.nil, .sl 3 (q0g (q19 t 16))]), (8, .arr 0 1 (q03 (q24 t 16)))]⟩) (have hW := @hst; q0t) ?_
  (focus (have hF := (aI @g0 @q57); (repeat' (first | refine go1 (k:=?_) | with_reducible refine Ny.of ?_ ?_ | (refine Hyp.of ?_; intro hc; (try simp only [hc]); (try simp only [Bh] at hc)))); all_goals clear hF))
  exact Fin.all rfl (by simp [q0i, AVal.stb, q01, q02, fzc, q74]) rfl

section
open Go.ChangeShapes Go.WideShapes Go.ChangeAt Go.RowKit
def VR0 (w : World) (x : AVal) (v : Value) : Prop := ∀ G : Gh, (∀ b, G.ow b = none) → VR (Dm NoM) G (fun _ => False) w x v
structure Opens (P : Program) (t : TypeId) (α : Type) (ok : α → Prop) (c : α → List AVal) (wt : α → Nat) : Prop where
 run : ∀ {H : Type} (enc : TypeId × Value → H) (w : World) (fuel : Nat) (cs : List Value) (d : DataW H) (ps : List MemPlace),
  DataW.trod enc P w 0 (fun _ => true) true fuel t cs = some (d, ps) →
  ∃ x : α, ok x ∧ wt x ≤ Rows.uptoBulk d ∧ cs.length = (c x).length ∧ ∀ (n : Nat) (y : AVal) (v : Value), (c x)[n]? = some y → cs[n]? = some v → VR0 w y v
section
variable {P : Program} {t : TypeId}
def qfj (n : Int) : Prop := -9223372036854775808 ≤ n ∧ n ≤ 9223372036854775807
theorem Opens.int (ht : P.underlying t = some (.int .i64)) : Opens P t Int qfj (fun n => [.int .i64 n]) (fun _ => 1) := by
 refine ⟨fun {H} enc w fuel cs d ps h => ?_⟩
 obtain ⟨n, rfl, hx, hw⟩ := DataW.trod_int ht h
 have hd : d = .lit (.int .i64 n) := congrArg Prod.fst hx
 subst hd
 refine ⟨n, bounds_i64 hw, by simp [Rows.uptoBulk], rfl, fun i y v hy hv G hG => ?_⟩
 match i with
 | 0 => simp at hy hv; subst hy; subst hv; exact .int _ _
 | i + 1 => simp at hy
theorem Opens.bool (ht : P.underlying t = some .bool) : Opens P t Bool (fun _ => True) (fun n => [.bool n]) (fun _ => 1) := by
 refine ⟨fun {H} enc w fuel cs d ps h => ?_⟩
 obtain ⟨n, rfl, hx⟩ := DataW.trod_bool ht h
 have hd : d = .lit (.bool n) := congrArg Prod.fst hx
 subst hd
 refine ⟨n, trivial, by simp [Rows.uptoBulk], rfl, fun i y v hy hv G hG => ?_⟩
 match i with
 | 0 => simp at hy hv; subst hy; subst hv; exact .bool _
 | i + 1 => simp at hy
theorem Opens.string (ht : P.underlying t = some .string) : Opens P t ByteArray (fun _ => True) (fun s => [.str s]) (fun s => s.size + 1) := by
 refine ⟨fun {H} enc w fuel cs d ps h => ?_⟩
 obtain ⟨n, rfl, hx, hs⟩ := DataW.trod_string ht h
 have hd : d = .lit (.string n.data.toList) := congrArg Prod.fst hx
 subst hd
 refine ⟨n, trivial, ?_, rfl, fun i y v hy hv G hG => ?_⟩
 ·simp only [Rows.uptoBulk, Array.length_toList]
  exact Nat.le_refl _
 ·match i with
  | 0 => simp at hy hv; subst hy; subst hv; exact .str _
  | i + 1 => simp at hy
theorem z0z {H : Type} {α : Type} {wt : α → Nat} : ∀ (es : List (DataW H × List MemPlace)) (l : List α), l.length = es.length → (∀ (i : Nat) x e, l[i]? = some x → es[i]? = some e → wt x ≤ Rows.uptoBulk e.1) → (l.map wt).sum ≤ Rows.uptoBulkAll (es.map (·.1))
 | [], [], _, _ => Nat.le_refl _
 | e :: es, x :: l, hl, h => by
  have h1 := h 0 x e rfl rfl
  have h2 := z0z es l (by simpa using hl) fun i y u hy hu => h (i + 1) y u (by simpa using hy) (by simpa using hu)
  simp only [List.map_cons, List.sum_cons, Rows.uptoBulkAll]
  omega
 | [], _ :: _, hl, _ => by simp at hl
 | _ :: _, [], hl, _ => by simp at hl
theorem addr_add (b off i j : Nat) : ((⟨b, off, none⟩ : Addr).add i).add j = ⟨b, off + i + j, none⟩ := by
 unfold Addr.add
 split <;> split <;> simp_all
def wtL {α : Type} (wt : α → Nat) (l : List α) : Nat := (l.map wt).sum + 1
theorem Opens.slice {e : TypeId} {α : Type} {ok : α → Prop} {c : α → List AVal} {wt : α → Nat} {k : Nat} {mk : α → AVal} (ht : P.underlying t = some (.slice e)) (he : Opens P e α ok c wt) (hcell : P.cellsOf e = k) (hk0 : 0 < k)
 (hmk : ∀ x, (mk x).cells = c x) (hk : ∀ x, (c x).length = k) (hone : ∀ x, ∀ y ∈ c x, y.one = true) : Opens P t (List α) (fun l => ∀ x ∈ l, ok x) (fun l => [.sl k (l.map mk)]) (wtL wt) := by
 refine ⟨fun {H} enc w fuel cs d ps h => ?_⟩
 rcases DataW.trod_slice ht h with ⟨rfl, hx⟩ | ⟨a, len, cap, elems, rest, m, _, rfl, hx, hb, hl, hm, hlen, hel, _, _⟩
 ·have hd : d = .nil := congrArg Prod.fst hx
  subst hd
  refine ⟨[], by simp, by simp [wtL, Rows.uptoBulk], rfl, fun i y v hy hv G hG => ?_⟩
  match i with
  | 0 => simp at hy hv; subst hy; subst hv; exact .slnil k
  | i + 1 => simp at hy
 ·have hd : d = .slice (elems.map (·.1)) (rest.map (·.1)) := congrArg Prod.fst hx
  subst hd
  obtain ⟨b, off, sp⟩ := a
  rcases Nat.eq_zero_or_pos len with h0 | h0
  ·subst h0
   refine ⟨[], by simp, by simp [wtL, Rows.uptoBulk], rfl, fun i y v hy hv G hG => ?_⟩
   match i with
   | 0 => simp at hy hv; subst hy; subst hv; exact .slemp k _ cap
   | i + 1 => simp at hy
  have hspot : sp = none := by
   have h1 := hel 0 h0
   rw [List.getElem?_eq_getElem (by omega), Option.bind_eq_some_iff] at h1
   obtain ⟨cs', h2, h3⟩ := h1
   rw [hcell] at h2
   obtain ⟨_, h4, h5⟩ := World.cells?_some h2
   have h6 := h5 0 hk0
   rw [List.getElem?_eq_getElem (by omega)] at h6
   simp only [Nat.zero_mul, Addr.add, if_true, World.cell?] at h6
   cases sp with
   | none => rfl
   | some q => split at h6 <;> simp at h6
  subst hspot
  rw [hcell] at hel
  have each : ∀ i : _root_.Fin len, ∃ x : α, ok x ∧ (∀ e, elems[i.1]? = some e → wt x ≤ Rows.uptoBulk e.1) ∧ ∀ (j : Nat) (y : AVal), (c x)[j]? = some y → ∃ v, w.cell? ⟨b, off + i.1 * k + j, none⟩ = some v ∧ VR0 w y v := by
   intro i
   have h1 := hel i.1 i.2
   have hi : i.1 < elems.length := by rw [hlen]; exact i.2
   rw [List.getElem?_eq_getElem hi, Option.bind_eq_some_iff] at h1
   obtain ⟨cs', h2, h3⟩ := h1
   obtain ⟨_, h4, h5⟩ := World.cells?_some h2
   obtain ⟨x, ho, hw, hlx, hv⟩ := he.run enc w m cs' elems[i.1].1 elems[i.1].2 h3
   refine ⟨x, ho, fun e he => ?_, fun j y hy => ?_⟩
   ·rw [List.getElem?_eq_getElem hi] at he
    cases he
    exact hw
   ·have hj : j < k := by
     rw [← hk x]
     rcases Nat.lt_or_ge j (c x).length with h | h
     ·exact h
     ·rw [List.getElem?_eq_none h] at hy; cases hy
    have h6 := h5 j hj
    rw [addr_add] at h6
    have hjl : j < cs'.length := by omega
    rw [List.getElem?_eq_getElem hjl] at h6
    exact ⟨_, h6, hv j y _ hy (List.getElem?_eq_getElem hjl)⟩
  let l : List α := List.ofFn fun i : _root_.Fin len => (each i).choose
  have hll : l.length = len := by simp [l]
  have hget : ∀ (i : Nat) (hi : i < len), l[i]? = some (each ⟨i, hi⟩).choose := fun i hi => by simp [l, hi]
  refine ⟨l, fun x hx => ?_, ?_, rfl, fun i y v hy hv G hG => ?_⟩
  ·obtain ⟨i, rfl⟩ := (List.mem_ofFn).1 hx
   exact (each i).choose_spec.1
  ·have := z0z (wt := wt) elems l (by omega) fun i x e hx he => by
    have hi : i < len := by
     rcases Nat.lt_or_ge i len with h | h
     ·exact h
     ·rw [List.getElem?_eq_none (by omega)] at hx; cases hx
    rw [hget i hi] at hx
    cases hx
    exact (each ⟨i, hi⟩).choose_spec.2.1 e he
   simp only [wtL, Rows.uptoBulk]
   omega
  ·match i with
   | i + 1 => simp at hy
   | 0 =>
    simp only [List.getElem?_cons_zero, Option.some.injEq] at hy hv
    subst hy; subst hv
    have hsz : ∀ x ∈ l.map mk, x.cells.length = k := by
     intro x hx
     obtain ⟨z, _, rfl⟩ := List.mem_map.1 hx
     rw [hmk, hk]
    have cellv : ∀ (n : Nat) (x : AVal), (flat (l.map mk))[n]? = some x → ∃ v, w.cell? ⟨b, off + n, none⟩ = some v ∧ VR0 w x v := by
     intro n x hx
     have hn : n < len * k := by
      have h1 := q0q hsz
      rw [List.length_map, hll] at h1
      rcases Nat.lt_or_ge n (len * k) with h | h
      ·exact h
      ·rw [List.getElem?_eq_none (by omega)] at hx; cases hx
     have h1 : n / k < len := Nat.div_lt_of_lt_mul (by rw [Nat.mul_comm]; exact hn)
     have h2 : n % k < k := Nat.mod_lt _ hk0
     have h3 := q9d (sz := k) (xs := l.map mk) (i := n / k) (j := n % k) (x := mk (each ⟨n / k, h1⟩).choose) hsz (by rw [List.getElem?_map, hget _ h1]; rfl) h2
     have e : n / k * k + n % k = n := by rw [Nat.mul_comm]; exact Nat.div_add_mod n k
     rw [e, hmk] at h3
     rw [hx] at h3
     obtain ⟨v, hv, hr⟩ := (each ⟨n / k, h1⟩).choose_spec.2.2 (n % k) x h3.symm
     refine ⟨v, ?_, hr⟩
     rw [← hv]
     congr 2
     simp only
     omega
    have e0 : (l.map mk).length = len := by simp [hll]
    have hsl : VR (Dm NoM) G (fun _ => False) w (.sl k (l.map mk)) (.slice (some ⟨b, off, none⟩) (l.map mk).length cap) := by
     refine .sl k (l.map mk) b off cap (fun n => (w.cell? ⟨b, off + n, none⟩).getD undef) (by omega) (fun _ => ⟨fun h => h, hG b⟩) (fun x hx => ?_) hsz (fun n x hx => ?_) (fun n x hx => ?_)
     ·obtain ⟨z, hz, hx⟩ := List.mem_flatMap.1 hx
      obtain ⟨q, _, rfl⟩ := List.mem_map.1 hz
      rw [hmk] at hx
      exact hone q x hx
     ·obtain ⟨v, hv, _⟩ := cellv n x hx
      rw [hv]; rfl
     ·obtain ⟨v, hv, hr⟩ := cellv n x hx
      simp only [hv, Option.getD_some]
      exact hr G hG
    rw [e0] at hsl
    exact hsl
def OpensF (P : Program) (fs : List Field) (off tot : Nat) (α : Type) (ok : α → Prop) (c : α → List AVal) (wt : α → Nat) : Prop :=
 (∀ x, (c x).length = tot) ∧
 ∀ {H : Type} (enc : TypeId × Value → H) (w : World) (m : Nat) (cs : List Value) (xs : List (DataW H × List MemPlace)), xs.length = fs.length → off + tot ≤ cs.length →
  (∀ (i : Nat) (f : Field), fs[i]? = some f → DataW.trod enc P w 0 (fun _ => true) true m f.type ((cs.drop f.offset).take (P.cellsOf f.type)) = xs[i]?) →
  ∃ x : α, ok x ∧ wt x ≤ Rows.uptoBulkAll (xs.map (·.1)) ∧ ∀ (n : Nat) (y : AVal) (v : Value), (c x)[n]? = some y → cs[off + n]? = some v → VR0 w y v
theorem OpensF.nil (off : Nat) : OpensF P [] off 0 Unit (fun _ => True) (fun _ => []) (fun _ => 0) :=
 ⟨fun _ => rfl, fun enc w m cs xs hl _ _ => ⟨(), trivial, Nat.zero_le _, fun n y v hy => by simp at hy⟩⟩
theorem OpensF.cons {f : Field} {fs : List Field} {off k tot : Nat} {α β : Type} {ok : α → Prop} {ok' : β → Prop} {c : α → List AVal} {c' : β → List AVal} {wt : α → Nat} {wt' : β → Nat}
 (h1 : Opens P f.type α ok c wt) (hk : ∀ x, (c x).length = k) (hc : P.cellsOf f.type = k) (ho : f.offset = off) (h2 : OpensF P fs (off + k) tot β ok' c' wt') :
 OpensF P (f :: fs) off (k + tot) (α × β) (fun x => ok x.1 ∧ ok' x.2) (fun x => c x.1 ++ c' x.2) (fun x => wt x.1 + wt' x.2) := by
 refine ⟨fun x => by rw [List.length_append, hk, h2.1], fun {H} enc w m cs xs hl hlen hx => ?_⟩
 cases xs with
 | nil => simp at hl
 | cons x0 xs =>
  have hx0 := hx 0 f rfl
  simp only [List.getElem?_cons_zero] at hx0
  rw [ho, hc] at hx0
  obtain ⟨x, a1, a2, a3, a4⟩ := h1.run enc w m _ x0.1 x0.2 hx0
  obtain ⟨y, b1, b2, b3⟩ := h2.2 enc w m cs xs (by simpa using hl) (by omega) (fun i g hg => by simpa using hx (i + 1) g (by simpa using hg))
  refine ⟨(x, y), ⟨a1, b1⟩, ?_, fun n z v hz hv => ?_⟩
  ·simp only [List.map_cons, Rows.uptoBulkAll]
   omega
  ·rcases Nat.lt_or_ge n k with hn | hn
   ·rw [List.getElem?_append_left (by rw [hk]; exact hn)] at hz
    refine a4 n z v hz ?_
    rw [List.getElem?_take, if_pos hn, List.getElem?_drop]
    exact hv
   ·rw [List.getElem?_append_right (by rw [hk]; exact hn), hk] at hz
    refine b3 (n - k) z v hz ?_
    rw [show off + k + (n - k) = off + n by omega]
    exact hv
theorem Opens.struct {fs : Array Field} {tot : Nat} {α : Type} {ok : α → Prop} {c : α → List AVal} {wt : α → Nat} (ht : P.underlying t = some (.struct fs)) (hc : P.cellsOf t = tot) (h : OpensF P fs.toList 0 tot α ok c wt) :
 Opens P t α ok c (fun x => wt x + 1) := by
 refine ⟨fun {H} enc w fuel cs d ps hd => ?_⟩
 obtain ⟨xs, n, _, hx, hl, hxl, hf⟩ := DataW.trod_struct ht hd
 have hd : d = .agg (xs.map (·.1)) := congrArg Prod.fst hx
 subst hd
 obtain ⟨x, h1, h2, h3⟩ := h.2 enc w n cs xs (by simpa using hxl) (by omega) (fun i f hi => hf i f (by simpa using hi))
 refine ⟨x, h1, by simp only [Rows.uptoBulk]; omega, by rw [h.1, hl, hc], fun i y v hy hv => h3 i y v hy (by simpa using hv)⟩
theorem Opens.map {α β : Type} {ok : α → Prop} {c : α → List AVal} {wt : α → Nat} {ok' : β → Prop} {c' : β → List AVal} {wt' : β → Nat} (h : Opens P t α ok c wt) (g : α → β) (h1 : ∀ x, ok x → ok' (g x)) (h2 : ∀ x, c' (g x) = c x) (h3 : ∀ x, wt' (g x) ≤ wt x) :
 Opens P t β ok' c' wt' := by
 refine ⟨fun {H} enc w fuel cs d ps hd => ?_⟩
 obtain ⟨x, a1, a2, a3, a4⟩ := h.run enc w fuel cs d ps hd
 exact ⟨g x, h1 x a1, Nat.le_trans (h3 x) a2, by rw [h2]; exact a3, by rw [h2]; exact a4⟩
end
section
variable {P : Program} {t : TypeId}
def zen (P : Program) (t : TypeId) (α : Type) (ok : α → Prop) (mk : α → AVal) (wt : α → Nat) : Prop :=
 ∀ {H : Type} (enc : TypeId × Value → H) (w : World) (base fuel : Nat) (v : Value) (d : DataW H) (ps : List MemPlace), Value.okWide P w .any base t v →
  DataW.trod enc P w 0 (fun _ => true) true fuel t v.cells.toList = some (d, ps) → ∃ x : α, ok x ∧ wt x ≤ Rows.uptoBulk d ∧ VR0 w (mk x) v
theorem Opens.agg {α : Type} {ok : α → Prop} {c : α → List AVal} {wt : α → Nat} {fs : Array Field} (h : Opens P t α ok c wt) (ht : P.underlying t = some (.struct fs)) : zen P t α ok (fun x => .agg (c x)) wt := by
 intro H enc w base fuel v d ps hok hd
 unfold Value.okWide at hok
 rw [ht] at hok
 obtain ⟨cs, rfl, hsz, _⟩ := hok
 obtain ⟨x, x1, x2, x3, x4⟩ := h.run enc w fuel cs.toList d ps (by simpa [Value.cells] using hd)
 exact ⟨x, x1, x2, fun G hG => .agg _ _ (by simpa using x3) fun n z u hz hu => x4 n z u hz (by simpa using hu) G hG⟩
theorem Opens.one {α : Type} {ok : α → Prop} {mk : α → AVal} {wt : α → Nat} {u : TypeDesc} (h : Opens P t α ok (fun x => [mk x]) wt) (ht : P.underlying t = some u) (hu : (match u with | .struct _ | .array _ _ => False | _ => True)) : zen P t α ok mk wt := by
 intro H enc w base fuel v d ps hok hd
 have hv : v.cells.toList = [v] := by
  cases v <;> first | rfl | skip
  unfold Value.okWide at hok
  rw [ht] at hok
  cases u <;> first | exact hu.elim | (simp [Cell.okWide, Cell.ok, ht] at hok; done)
 rw [hv] at hd
 obtain ⟨x, x1, x2, x3, x4⟩ := h.run enc w fuel [v] d ps hd
 exact ⟨x, x1, x2, x4 0 (mk x) v rfl rfl⟩
def OpensA (P : Program) (ts : List TypeId) (α : Type) (ok : α → Prop) (l : α → List AVal) (wt : α → Nat) : Prop :=
 ∀ {H : Type} (enc : TypeId × Value → H) (w : World) (base : Nat) (vs : List Value) (ds : List (DataW H)) (ps : List MemPlace), (∀ (j : Nat) t v, ts[j]? = some t → vs[j]? = some v → Value.okWide P w .any base t v) →
  DataW.TrodAll enc P w 0 (fun _ => true) true ts vs ds ps → ∃ x : α, ok x ∧ wt x ≤ Rows.uptoBulkAll ds ∧ vs.length = (l x).length ∧ ∀ (n : Nat) (y : AVal) (v : Value), (l x)[n]? = some y → vs[n]? = some v → VR0 w y v
theorem OpensA.nil : OpensA P [] Unit (fun _ => True) (fun _ => []) (fun _ => 0) := by
 intro H enc w base vs ds ps _ h
 obtain ⟨rfl, rfl, rfl⟩ := trodAll_nil h
 exact ⟨(), trivial, Nat.zero_le _, rfl, fun n y v hy => by simp at hy⟩
theorem OpensA.cons {ts : List TypeId} {α β : Type} {ok : α → Prop} {ok' : β → Prop} {mk : α → AVal} {l : β → List AVal} {wt : α → Nat} {wt' : β → Nat} (h1 : zen P t α ok mk wt) (h2 : OpensA P ts β ok' l wt') :
 OpensA P (t :: ts) (α × β) (fun x => ok x.1 ∧ ok' x.2) (fun x => mk x.1 :: l x.2) (fun x => wt x.1 + wt' x.2) := by
 intro H enc w base vs ds ps hok h
 obtain ⟨v, vs', d, ds', p, q, rfl, rfl, rfl, ⟨fuel, hd⟩, hr⟩ := trodAll_cons h
 obtain ⟨x, x1, x2, x3⟩ := h1 enc w base fuel v d p (hok 0 t v rfl rfl) hd
 obtain ⟨y, y1, y2, y3, y4⟩ := h2 enc w base vs' ds' q (fun j t' v' ht hv => hok (j + 1) t' v' (by simpa using ht) (by simpa using hv)) hr
 refine ⟨(x, y), ⟨x1, y1⟩, ?_, by simpa using y3, fun n z u hz hu => ?_⟩
 ·simp only [Rows.uptoBulkAll]
  omega
 ·match n with
  | 0 => simp at hz hu; subst hz; subst hu; exact x3
  | n + 1 => exact y4 n z u (by simpa using hz) (by simpa using hu)
theorem OpensA.map {ts : List TypeId} {α β : Type} {ok : α → Prop} {ok' : β → Prop} {l : α → List AVal} {l' : β → List AVal} {wt : α → Nat} {wt' : β → Nat} (h : OpensA P ts α ok l wt) (g : α → β) (h1 : ∀ x, ok x → ok' (g x)) (h2 : ∀ x, l' (g x) = l x) (h3 : ∀ x, wt' (g x) ≤ wt x) :
 OpensA P ts β ok' l' wt' := by
 intro H enc w base vs ds ps hok ht
 obtain ⟨x, x1, x2, x3, x4⟩ := h enc w base vs ds ps hok ht
 exact ⟨g x, h1 x x1, Nat.le_trans (h3 x) x2, by rw [h2]; exact x3, by rw [h2]; exact x4⟩
end
theorem qm7 {H : Type} {enc : TypeId × Value → H} {P : Program} (hl : laidOutB P = true) {W W' : World} (hb : Below W.heap.size W W') : ∀ {ts : List TypeId} {vs : List Value} {ds : List (DataW H)} {ps : List MemPlace}, (∀ t ∈ ts, P.readableRec t = true ∧ t < P.types.size) →
 DataW.TrodAll enc P W 0 (fun _ => true) true ts vs ds ps → (∀ x ∈ ps, x.block < W.heap.size) → DataW.TrodAll enc P W' 0 (fun b => decide (b < W.heap.size)) true ts vs ds ps
 | [], vs, ds, ps, _, h, _ => by
  obtain ⟨rfl, rfl, rfl⟩ := trodAll_nil h
  exact trodAll_mk0
 | t :: ts, vs, ds, ps, hr, h, hlt => by
  obtain ⟨v, vs', d, ds', p, q, rfl, rfl, rfl, hd, hrest⟩ := trodAll_cons h
  have h1 := hr t (by simp)
  exact trodAll_cons_mk (Below.trod hl h1.1 h1.2 hd hb fun x hx => hlt x (by simp [hx])) (qm7 hl hb (fun t' ht' => hr t' (by simp [ht'])) hrest fun x hx => hlt x (by simp [hx]))
theorem qls {P : Program} {f : FuncId} {fn : Func} {α : Type} {ok : α → Prop} {l : α → List AVal} {wt : α → Nat} {s : ChangeSpec} (hfn : P.funcs[f]? = some fn) (hr : fn.resultTypes = #[4]) (hb : P.underlying 4 = some .bool)
 (hl : laidOutB P = true) (hre : ∀ t ∈ fn.params.toList, P.readableRec t = true ∧ t < P.types.size) (hvars : s.vars = [])
 (hsfn : ∀ (H : Type) (ds : List (DataW H)), ds.length = fn.params.size → s.fn H ds = { results := [.lit (.bool true)], args := ds })
 (ho : OpensA P fn.params.toList α ok l wt) (hEv : ∀ x, ok x → wt x ≤ 1048576 → Ev P f (l x) (.ret (.bool true)))
 (H : Type) (enc : TypeId × Value → H) (W : World) (base : Nat) (args : Array Value) (ds gs : List (DataW H)) (before : List MemPlace)
 (hval : ∀ (j : Nat) t v, fn.params[j]? = some t → args[j]? = some v → Value.okWide P W .any base t v)
 (hW : DataW.Whole enc P fn.params.toList s.vars false W args.toList ds gs before) (hk : Rows.uptoSmall H (ds ++ gs) = true) :
 Calls P f args W fun e W' => ∃ v, e = .returned v ∧ s.post enc P fn false true false false W args v W' := by
 have hW' := hW
 obtain ⟨p, q, hA, hV, rfl, hfz, hnd⟩ := hW
 rw [hvars] at hV
 obtain ⟨rfl, rfl⟩ := trodVars_none hV
 obtain ⟨x, x1, x2, x3, x4⟩ := ho enc W base args.toList ds p (fun j t v ht hv => hval j t v (by simpa using ht) (by simpa using hv)) hA
 have hlen : ds.length = fn.params.size := by
  have : ∀ (ts : List TypeId) (vs : List Value) (ds : List (DataW H)) (ps : List MemPlace), DataW.TrodAll enc P W 0 (fun _ => true) true ts vs ds ps → ds.length = ts.length := by
   intro ts
   induction ts with
   | nil => intro vs ds ps h; obtain ⟨_, rfl, _⟩ := trodAll_nil h; rfl
   | cons t ts ih =>
    intro vs ds ps h
    obtain ⟨v, vs', d, ds', p, q, rfl, rfl, rfl, _, hr⟩ := trodAll_cons h
    simp [ih _ _ _ hr]
  simpa using this _ _ _ _ hA
 have hsmall : Rows.uptoBulkAll ds ≤ 1048576 := by
  have : Rows.uptoBulkAll (ds ++ []) ≤ 1048576 := of_decide_eq_true hk
  simpa using this
 have hcall := (hEv x x1 (by omega)).2 (fun _ => False) W args ⟨fun _ => 0, fun _ _ => .int .i64 0, fun _ => none, fun _ _ => rfl⟩ (fun _ => rfl) (by simpa using x3) (fun i y v hy hv => x4 i y v hy (by simpa using hv) _ (fun _ => rfl)) (fun _ h => h.elim)
 refine hcall.mono ?_
 rintro e W' ⟨G', v', hG', hAdv, he, hr'⟩
 cases hr'
 subst he
 have hbel : Below W.heap.size W W' := ⟨hAdv.os.1, hAdv.tape, hAdv.output, hAdv.size, fun b hb => (hAdv.keep b hb rfl).1⟩
 have hlt : ∀ z ∈ p, z.block < W.heap.size := fun z hz => by simpa using hW'.lt z (by simpa using hz)
 refine ⟨.bool true, rfl, ds, [], p ++ [], [], p, [], hW', ?_, ?_, ?_, hbel.frame _, fun h => by cases h⟩
 ·rw [hr, List.append_nil, hsfn H ds hlen]
  exact trodAll_cons_mk (p' := []) (shut_bool hb _) trodAll_mk0
 ·rw [List.append_nil, hsfn H ds hlen]
  exact qm7 hl hbel hre hA hlt
 ·rw [hvars, List.append_nil, hsfn H ds hlen]
  rfl
theorem qob {P : Program} {f : FuncId} {fn : Func} {t : TypeId} {fs : Array Field} {α : Type} {ok : α → Prop} {c : α → List AVal} {wt : α → Nat} {s : ChangeSpec} (hfn : P.funcs[f]? = some fn) (hp : fn.params = #[t]) (hr : fn.resultTypes = #[4]) (hb : P.underlying 4 = some .bool)
 (ht : P.underlying t = some (.struct fs)) (hl : laidOutB P = true) (hre : P.readableRec t = true) (hrow : t < P.types.size) (hvars : s.vars = [])
 (hsfn : ∀ (H : Type) (d : DataW H), s.fn H [d] = { results := [.lit (.bool true)], args := [d] })
 (ho : Opens P t α ok c wt) (hEv : ∀ x, ok x → wt x ≤ 1048576 → Ev P f [.agg (c x)] (.ret (.bool true)))
 (H : Type) (enc : TypeId × Value → H) (W : World) (base : Nat) (args : Array Value) (ds gs : List (DataW H)) (before : List MemPlace)
 (hval : ∀ (j : Nat) t v, fn.params[j]? = some t → args[j]? = some v → Value.okWide P W .any base t v)
 (hW : DataW.Whole enc P fn.params.toList s.vars false W args.toList ds gs before) (hk : Rows.uptoSmall H (ds ++ gs) = true) :
 Calls P f args W fun e W' => ∃ v, e = .returned v ∧ s.post enc P fn false true false false W args v W' :=
 qls (α := α × Unit) (l := fun x => [.agg (c x.1)]) (wt := fun x => wt x.1 + 0) hfn hr hb hl (by rw [hp]; intro t' h'; simp at h'; subst h'; exact ⟨hre, hrow⟩) hvars
  (fun H ds h => by
   rw [hp] at h
   match ds, h with
   | [d], _ => exact hsfn H d)
  (by rw [hp]; exact OpensA.cons (ho.agg ht) OpensA.nil) (ok := fun x => ok x.1 ∧ True) (fun (x : α × Unit) (hx : ok x.1 ∧ True) hw => hEv x.1 hx.1 hw) H enc W base args ds gs before hval hW hk
end
theorem q4i : Tryz.prog.cellsOf 3 = 1 := by kernel_rfl
theorem z2e : Tryz.prog.cellsOf 22 = 1 := by kernel_rfl
theorem qod : Tryz.prog.cellsOf 23 = 1 := by kernel_rfl
theorem qe3 : Tryz.prog.cellsOf 82 = 3 := by kernel_rfl
theorem qlz : Tryz.prog.cellsOf 43 = 2 := by kernel_rfl
theorem q71 : Tryz.prog.cellsOf 25 = 2 := by kernel_rfl
theorem qbv : Opens Tryz.prog 3 Int qfj (fun n => [.int .i64 n]) (fun _ => 1) := Opens.int Tryz.underlying3
theorem op_ints : Opens Tryz.prog 22 (List Int) (fun l => ∀ x ∈ l, qfj x) (fun l => [.sl 1 (q03 l)]) (wtL fun _ => 1) :=
 Opens.slice (mk := encI) Tryz.underlying22 qbv q4i (by decide) (fun _ => rfl) (fun _ => rfl) (fun x y hy => by simp at hy; subst hy; rfl)
def okS (s : Sn) : Prop := qfj s.1 ∧ qfj s.2.1 ∧ qfj s.2.2
theorem op_Span : Opens Tryz.prog 82 Sn okS (fun s => [.int .i64 s.1, .int .i64 s.2.1, .int .i64 s.2.2]) (fun _ => 1) :=
 (Opens.struct Tryz.underlying82 qe3 (OpensF.cons (k := 1) qbv (fun _ => rfl) q4i rfl (OpensF.cons (k := 1) qbv (fun _ => rfl) q4i rfl (OpensF.cons (k := 1) qbv (fun _ => rfl) q4i rfl (OpensF.nil _))))).map
  (fun x => (x.1, x.2.1, x.2.2.1)) (fun x h => ⟨h.1, h.2.1, h.2.2.1⟩) (fun _ => rfl) (fun _ => Nat.le_add_left _ _)
theorem op_spans : Opens Tryz.prog 23 (List Sn) (fun l => ∀ x ∈ l, okS x) (fun l => [.sl 3 (q0g l)]) (wtL fun _ => 1) :=
 Opens.slice (mk := encS) Tryz.underlying23 op_Span
  qe3 (by decide) (fun _ => rfl) (fun _ => rfl) (fun x y hy => by simp at hy; rcases hy with rfl | rfl | rfl <;> rfl)
def okD (s : Rn) : Prop := qfj s.1 ∧ qfj s.2
theorem op_Dot : Opens Tryz.prog 43 Rn okD (fun x => [.int .i64 x.1, .int .i64 x.2]) (fun _ => 1) :=
 (Opens.struct Tryz.underlying43 qlz (OpensF.cons (k := 1) qbv (fun _ => rfl) q4i rfl (OpensF.cons (k := 1) qbv (fun _ => rfl) q4i rfl (OpensF.nil _)))).map
  (fun x => (x.1, x.2.1)) (fun x h => ⟨h.1, h.2.1⟩) (fun _ => rfl) (fun _ => Nat.le_add_left _ _)
def okP (p : Pst) : Prop := (∀ x ∈ p.vec, qfj x) ∧ ∀ s ∈ p.cloud, okS s
theorem q7f {α : Type} (l : List α) : wtL (fun _ => 1) l = l.length + 1 := by
 unfold wtL
 induction l with
 | nil => rfl
 | cons x l ih => simp only [List.map_cons, List.sum_cons, List.length_cons]; omega
theorem qnm : Opens Tryz.prog 25 Pst okP (fun p => [.sl 1 (q03 p.vec), .sl 3 (q0g p.cloud)]) wt :=
 (Opens.struct Tryz.underlying25 q71 (OpensF.cons (k := 1) op_ints (fun _ => rfl) z2e rfl (OpensF.cons (k := 1) op_spans (fun _ => rfl) qod rfl (OpensF.nil _)))).map (fun x => ⟨x.1, x.2.1⟩) (fun x h => ⟨h.1, h.2.1⟩) (fun _ => rfl)
  (fun x => by show x.1.length + x.2.1.length ≤ wtL (fun _ => 1) x.1 + (wtL (fun _ => 1) x.2.1 + 0) + 1; rw [q7f, q7f]; omega)
structure Cas where
 a : Pst
 b : Pst
 c : Pst
 ds : List Rn
 rep : Int
 most : Int
theorem own : ownKnob Tryz.prog.godebug = none := by kernel_rfl


def bothR (x y : Rn) : Rn := (max x.1 y.1, min x.2 y.2)
def one0 (r : Rn) : List Rn := if r.1 ≤ r.2 then [r] else []
def meetR : List Rn → List Rn → List Rn
 | [], _ => []
 | _ :: _, [] => []
 | x :: l, y :: m => one0 (bothR x y) ++ if x.2 < y.2 then meetR l (y :: m) else meetR (x :: l) m
termination_by l m => l.length + m.length
structure MtS where
 i : Nat
 j : Nat
 o : List Rn
def qdj : Int → List Rn → List Rn
 | k, [] => one0 (k, 1000000000)
 | k, r :: l => (if k < r.1 then [(k, r.1 - 1)] else []) ++ qdj (r.2 + 1) l
def othersR (l : List Rn) : List Rn := qdj 1 l
structure OtS where
 i : Nat
 k : Int
 o : List Rn

def minusR (a b : List Rn) : List Rn := meetR (q11 a) (q11 (othersR (q11 b)))

def qxb : List SOp := [zO 1 (.box 25 (.tmp 0)),zO 2 (.assign (.const (.bool false)))]
instance : Live qxb := ⟨[0]⟩
def qxa : List SOp := [zL 3 25 1,zO 4 (.call ⟨.value (.func 144),#[.tmp 3],#[25]⟩),zO 5 (.binOp .eql 3 (.tmp 4) (.const (.int .i64 0)) 3),zG 2 5]
instance : Live qxa := ⟨[1]⟩
def t_k127 : SC :=
 (.seq (.ops false qxb) (.seq (.ops false qxa) .ret))
theorem it_k127 : FnIs Tryz.prog 127 6 [.tmp 2] t_k127 := ⟨Tryz.f127, _, Tryz.func127, rfl, rfl, rfl, rfl, by kernel_rfl⟩

def WithP (t u : Tab) : Prop := ∀ r, r < 16 → minusR (t.getD r []) (u.getD r []) = []
open Classical in
noncomputable def withinP (p q : Pst) : Bool := decide (WithP (q25 [p]) (q25 [q]))
theorem ev_k127 (p : Pst) (hp : wt p ≤ 50000000) : Ev (En Tryz.prog rfl).P 127 [q10 p] (.ret (.bool (decide (q83 p = 0)))) := by
 refine Ev.of_body it_k127 (by simp) (Run.start ?_)
 unfold t_k127 q10
 (focus (have hF := True.intro; (repeat' (first | refine go1 (k:=?_) | with_reducible refine Ny.of ?_ ?_ | (refine Hyp.of ?_; intro hc; (try simp only [hc]); (try simp only [Bh] at hc)))); all_goals clear hF))
 refine q05 [q10 p] (he := ev_k144 p hp) (k:=?_)
 (focus (have hF := True.intro; (repeat' (first | refine go1 (k:=?_) | with_reducible refine Ny.of ?_ ?_ | (refine Hyp.of ?_; intro hc; (try simp only [hc]); (try simp only [Bh] at hc)))); all_goals clear hF))
 exact Fin.tmp' rfl rfl

def NewQ (t : Tmp) (cs : List AVal) : Ex → AS → Prop
 | .ret, s => ∃ k, s.T t = .ptr k 0 ∧ s.M k = some (.cells cs) ∧ q0i cs = true
 | _, _ => False
theorem qbk {P : Program} {fn : Func} {t : Tmp} (hrs : fn.results.toList = [.tmp t]) (tm : Array Value) (w : World) : (results fn tm).run P w = .ok (tm.getD t undef) w := by
 have hm : (fn.results.mapM (fun r => match r with | .tmp t => pure (tm.getD t undef) | .cell c t => do loadVar t (← asAddr (tm.getD c undef)) : ResultVar → Sem Value)).run P w = .ok #[tm.getD t undef] w := by
  rw [Array.mapM_eq_mapM_toList, hrs]
  simp only [Sem.run_map, List.mapM_cons, List.mapM_nil, Sem.run_bind, Sem.run_pure, Result.andThen]
 unfold results
 simp only [Sem.run_bind]
 refine Eq.trans (congrArg (fun r => Result.andThen r _) hm) ?_
 simp [Result.andThen]
theorem EvNew.of_body {E : Env} {f : FuncId} {n : Nat} {t : Tmp} {sc : SC} (hf : FnIs E.P f n [.tmp t] sc) {args cs : List AVal} (hl : args.length ≤ n)
 (h : AW E n sc (NewQ t cs) ⟨q41 args, NoM⟩) : EvNew E.P f args cs := by
 obtain ⟨fn, c, h1, h2, h3, rfl, hrs, h6⟩ := hf
 refine ⟨⟨fn, h1, h2, by simp [h3]⟩, fun B w vs G hG hsz hv hB => ?_⟩
 refine calls_of_wp h1 h3 ?_
 have hR : Rel fn.ntmps B G ⟨q41 args, NoM⟩ { tmps := vs ++ Array.replicate (fn.ntmps - vs.size) undef, defers := [] } w := by
  refine ⟨by simp; omega, rfl, fun t => ?_, fun k blk hk => by simp [NoM] at hk, fun b hb => ⟨hB b hb, hG b⟩, fun b hb => absurd (hG b) hb⟩
  simp only [q41]
  cases ht : args[t]? with
  | none => exact .undef _
  | some x =>
   have hlt : t < vs.size := by
    rw [hsz]
    rcases Nat.lt_or_ge t args.length with h' | h'
    ·exact h'
    ·rw [List.getElem?_eq_none h'] at ht; cases ht
   have : (vs ++ Array.replicate (fn.ntmps - vs.size) undef).getD t undef = vs[t] := by
    rw [Array.getD_eq_getD_getElem?, Array.getElem?_append_left hlt]
    simp [hlt]
   simp only [Option.getD_some, this]
   exact hv t x _ ht (by simp [hlt])
 refine h c h6 B G _ w hR _ fun e s a' w' G' hA hR' hq => ?_
 cases e with
 | normal => exact hq.elim
 | exit id => exact hq.elim
 | pan x => exact hq.elim
 | ret =>
  obtain ⟨k, q1, q2, q3⟩ := hq
  have hx := hR'.temps t
  rw [q1] at hx
  have e1 : a'.tmps.getD t undef = .pointer (some ⟨G'.β k, 0, none⟩) := by
   generalize a'.tmps.getD t undef = tv at hx
   cases hx
   rfl
  obtain ⟨cc, el, b1, b2, b3, b4, b5⟩ := hR'.mem k _ q2
  let G2 : Gh := { G' with ow := fun b => if b = G'.β k then G'.ow b else none }
  have g2 : ∀ b, G'.ow b = none → G2.ow b = none := fun b hb => by simp only [G2]; split <;> first | exact hb | rfl
  have hge : w.heap.size ≤ G'.β k := by
   rcases Nat.lt_or_ge (G'.β k) w.heap.size with h' | h'
   ·have := (hA.keep _ h' (hG _)).2
    rw [b1] at this
    cases this
   ·exact h'
  refine ⟨hR'.defers, _, qbk hrs a'.tmps w', G2, G'.β k, cc, el, hge, hR'.ol _ (by rw [b1]; simp), by simp only [G2, if_true]; rw [b1]; simp,
   ⟨hA.os, hA.tape, hA.output, hA.size, fun b hb ho => ⟨(hA.keep b hb ho).1, g2 b (hA.keep b hb ho).2⟩⟩, by rw [e1], b3, b4, fun i x hx => ?_⟩
  obtain ⟨u, hu, hcr⟩ := b5 i x hx
  have hst : x.stb = true := q3y q3 hx
  refine ⟨u, hu, ?_⟩
  have hvr : VR (Dm s.M) G' B w' x u := by
   cases x <;> first | exact hcr | (simp [AVal.stb] at hst; done)
  exact hvr.stable (fun b _ hn ho => ⟨rfl, hn, g2 b ho⟩) hst



def zc0 : List SOp := [zO 1 (.box 25 (.tmp 0)),zO 2 (.alloc 25)]
instance : Live zc0 := ⟨[0]⟩
def zbz : List SOp := [zL 3 25 1,zO 4 (.call ⟨.value (.func 44),#[.tmp 3],#[25]⟩),zO 5 (.call ⟨.value (.func 43),#[.tmp 4],#[88]⟩),⟨none,.store 25 (.tmp 2) (.tmp 5),none⟩]
instance : Live zbz := ⟨[1,2]⟩
def t_k11 : SC :=
 (.seq (.ops false zc0) (.seq (.ops false zbz) .ret))
theorem it_k11 : FnIs Tryz.prog 11 6 [.cell 2 25] t_k11 := ⟨Tryz.f11, _, Tryz.func11, rfl, rfl, rfl, rfl, by kernel_rfl⟩

theorem ev_k44 (p : Pst) (hw : wt p ≤ 800000000) : Ev (En Tryz.prog rfl).P 44 [q10 p] (.ret (.agg (q0y (qky [p])))) :=
 zdn p (qky [p]) (zcv [p]) (ev_k88 [p] (by simp) (by simpa using hw))
theorem z29 (K : Nat → Bool) (M : Mem) (t : List (List Int)) : (q0y t).map (fzc K M) = q0y t := by
 unfold q0y
 rw [List.map_map]
 rfl
theorem zdw (p : Pst) (hw : wt p ≤ 40000000) : Ev (En Tryz.prog rfl).P 11 [q10 p] (.ret (q10 (q26 p))) := by
 have c1 := ev_k44 p (by omega)
 have c2 := ev_k43 (q25 [p]) (n := wt p) (by simpa using q3z [p]) (by omega)
 refine Ev.of_body it_k11 (by simp) (Run.start ?_)
 unfold t_k11 q10
 have hS := q46
 have hL := z29
 (focus (have hF := True.intro; (repeat' (first | refine go1 (k:=?_) | with_reducible refine Ny.of ?_ ?_ | (refine Hyp.of ?_; intro hc; (try simp only [hc]); (try simp only [Bh] at hc)))); all_goals clear hF))
 refine q05 [q10 p] (he := c1) (k:=?_)
 (focus (have hF := True.intro; (repeat' (first | refine go1 (k:=?_) | with_reducible refine Ny.of ?_ ?_ | (refine Hyp.of ?_; intro hc; (try simp only [hc]); (try simp only [Bh] at hc)))); all_goals clear hF))
 refine q05 [.agg (q0y (qky [p]))] (he := c2) (k:=?_)
 unfold q26 q10
 (focus (have hF := True.intro; (repeat' (first | refine go1 (k:=?_) | with_reducible refine Ny.of ?_ ?_ | (refine Hyp.of ?_; intro hc; (try simp only [hc]); (try simp only [Bh] at hc)))); all_goals clear hF))
 exact Fin.all rfl (by simp [q0i, AVal.stb, q01, q02, fzc, q74]) rfl

def qx7 : List SOp := [zO 2 (.box 25 (.tmp 0)),zO 3 (.box 25 (.tmp 1)),zO 4 (.assign (.const (.int .i64 0)))]
instance : Live qx7 := ⟨[0,1]⟩
def qx6 : List SOp := [zL 10 25 2,zO 11 (.call ⟨.value (.func 89),#[.tmp 10],#[25]⟩),zL 12 25 3,zO 13 (.call ⟨.value (.func 89),#[.tmp 12],#[25]⟩),zO 5 (.alloc 25),zO 6 (.alloc 25),⟨none,.store 25 (.tmp 5) (.tmp 11),none⟩,⟨none,.store 25 (.tmp 6) (.tmp 13),none⟩]
instance : Live qx6 := ⟨[2,3]⟩
def qx5 : List SOp := [zO 14 (.move (.const (.int .i64 0)))]
instance : Live qx5 := ⟨[5,6]⟩
def qx4 : List SOp := [zO 15 (.binOp .lss 3 (.tmp 14) (.const (.int .i64 16)) 3)]
instance : Live qx4 := ⟨[5,6,14]⟩
def qx3 : List SOp := [zM 16 14,zG 7 16]
instance : Live qx3 := ⟨[5,6,14]⟩
def qx2 : List SOp := [zO 8 (.assign (.const (.int .i64 0))),zO 9 (.assign (.const (.int .i64 0)))]
instance : Live qx2 := ⟨[5,6,7,14]⟩
def qx1 : List SOp := [zM 17 7,zF 18 25 5 0,zL 19 22 18,zO 20 (.call ⟨.builtin .len,#[.tmp 19],#[22]⟩),zO 21 (.binOp .lss 3 (.tmp 17) (.tmp 20) 3)]
instance : Live qx1 := ⟨[5,6,7,8,9,14]⟩
def qx0 : List SOp := [zF 22 25 5 0,zL 23 22 22,zM 24 7,zI 25 22 23 24,zL 26 3 25,zG 8 26]
instance : Live qx0 := ⟨[5,6,7,9,14]⟩
def qwz : List SOp := [zM 27 7,zF 28 25 6 0,zL 29 22 28,zO 30 (.call ⟨.builtin .len,#[.tmp 29],#[22]⟩),zO 31 (.binOp .lss 3 (.tmp 27) (.tmp 30) 3)]
instance : Live qwz := ⟨[5,6,7,8,9,14]⟩
def qj1 : List SOp := [zF 32 25 6 0,zL 33 22 32,zM 34 7,zI 35 22 33 34,zL 36 3 35,zG 9 36]
instance : Live qj1 := ⟨[5,6,7,8,14]⟩
def qj0 : List SOp := [zM 37 8,zM 38 9,zO 39 (.binOp .neq 3 (.tmp 37) (.tmp 38) 3)]
instance : Live qj0 := ⟨[5,6,8,9,14]⟩
def qiz : List SOp := [zM 40 8,zM 41 9,zO 42 (.call ⟨.value (.func 146),#[.tmp 40,.tmp 41],#[3,3]⟩),zG 4 42]
instance : Live qiz := ⟨[8,9]⟩
def qiy : List SOp := [zO 43 (.binOp .add 3 (.tmp 14) (.const (.int .i64 1)) 3),zM 14 43]
instance : Live qiy := ⟨[5,6,14]⟩
def qix : List SOp := [zF 44 25 5 1,zL 45 23 44,zF 46 25 6 1,zL 47 23 46,zO 48 (.call ⟨.value (.func 147),#[.tmp 45,.tmp 47,.func 148],#[23,23,185]⟩),zG 4 48]
instance : Live qix := ⟨[5,6]⟩
def qgy : SC :=
 (.seq (.ops false qx4) (.seq (.cond (.tmp 15) .skip (.exit 0)) (.seq (.block 1 (.seq (.ops false qx3) (.seq (.ops false qx2) (.seq (.seq (.ops false qx1) (.cond (.tmp 21) (.ops false qx0) .skip)) (.seq (.seq (.ops false qwz) (.cond (.tmp 31) (.ops false qj1) .skip)) (.seq (.ops false qj0) (.cond (.tmp 39) (.seq (.ops false qiz) .ret) .skip))))))) (.ops false qiy))))
def t_k129 : SC :=
 (.seq (.ops false qx7) (.seq (.ops true qx6) (.seq (.seq (.ops false qx5) (.block 0 (.loop qgy))) (.seq (.ops false qix) .ret))))
theorem it_k129 : FnIs Tryz.prog 129 49 [.tmp 4] t_k129 := ⟨Tryz.f129, _, Tryz.func129, rfl, rfl, rfl, rfl, by kernel_rfl⟩

theorem ev_k129 (p q : Pst) (hp : wt p ≤ 50000000) (hq : wt q ≤ 50000000) : Ev (En Tryz.prog rfl).P 129 [q10 p, q10 q] (.ret (.int .i64 (cmpP p q))) := by
 refine Ev.of_body it_k129 (by simp) (Run.start ?_)
 unfold t_k129 q10
 have c1 := zdk p (by omega)
 have c2 := zdk q (by omega)
 have h1 := q6u p
 have h2 := q6u q
 have hr : cmpP p q = q76 (qmi (q26 p)) (qmi (q26 q)) := rfl
 rw [hr]
 (focus (have hF := True.intro; (repeat' (first | refine go1 (k:=?_) | with_reducible refine Ny.of ?_ ?_ | (refine Hyp.of ?_; intro hc; (try simp only [hc]); (try simp only [Bh] at hc)))); all_goals clear hF))
 refine q05 [q10 p] (he := c1) (k:=?_)
 (focus (have hF := True.intro; (repeat' (first | refine go1 (k:=?_) | with_reducible refine Ny.of ?_ ?_ | (refine Hyp.of ?_; intro hc; (try simp only [hc]); (try simp only [Bh] at hc)))); all_goals clear hF))
 refine q05 [q10 q] (he := c2) (k:=?_)
 clear c1 c2 hr
 generalize q26 p = x at h1 ⊢
 generalize q26 q = y at h2 ⊢
 unfold q10
 have hw1 : x.vec.length + x.cloud.length = wt x := rfl
 have hw2 : y.vec.length + y.cloud.length = wt y := rfl
 have e1 := q0d x.vec
 have e2 := q0d y.vec
 (focus (have hF := (aI @e1 @e2); (repeat' (first | refine go1 (k:=?_) | with_reducible refine Ny.of ?_ ?_ | (refine Hyp.of ?_; intro hc; (try simp only [hc]); (try simp only [Bh] at hc)))); all_goals clear hF))
 refine Run.while (σ := Nat) (fun i => ⟨tms [(5, .ptr 5 0), (6, .ptr 6 0), (14, .int .i64 (i : Int))], mms [(5, .cells [.sl 1 (q03 x.vec), .sl 3 (q0g x.cloud)]), (6, .cells [.sl 1 (q03 y.vec), .sl 3 (q0g y.cloud)])]⟩) (fun i => i ≤ 16 ∧ ∀ j, j < i → vv x j = vv y j) (fun i => 16 - i) 0 (have hW := (aI @q01 @q02); q0t) ⟨Nat.zero_le _, fun j hj => absurd hj (Nat.not_lt_zero _)⟩ ?_
 rintro i ⟨hi, hp⟩
 unfold qgy
 by_cases hlt : i < 16
 ·have hne : vv x i ≠ vv y i → q76 (qmi x) (qmi y) = q64 (vv x i) (vv y i) := fun hn =>
   qnu (z1c x) (z1c y) i _ _ _ _ (q4m x hlt) (q4m y hlt) (fun j hj => by rw [q4m x (by omega), q4m y (by omega), hp j hj]) hn
  have heq : vv x i = vv y i → ∀ j, j < i + 1 → vv x j = vv y j := fun he j hj => by
   by_cases e : j = i
   ·rw [e]; exact he
   ·exact hp j (by omega)
  have k1 := qft (vv x i) (vv y i)
  unfold vv at hne heq k1
  by_cases hx : i < x.vec.length
  ·have g1 : (q03 x.vec)[i]? = some (.int .i64 (q2b x.vec i)) := q0r (by unfold q2b; rw [List.getD_eq_getElem?_getD, List.getElem?_eq_getElem hx]; rfl)
   simp only [if_pos hx] at hne heq k1
   by_cases hy : i < y.vec.length
   ·have g2 : (q03 y.vec)[i]? = some (.int .i64 (q2b y.vec i)) := q0r (by unfold q2b; rw [List.getD_eq_getElem?_getD, List.getElem?_eq_getElem hy]; rfl)
    simp only [if_pos hy] at hne heq k1
    (focus (have hF := (aI (aI @e1 @e2) (aI @g1 @g2)); (repeat' (first | refine go1 (k:=?_) | with_reducible refine Ny.of ?_ ?_ | (refine Hyp.of ?_; intro hc; (try simp only [hc]); (try simp only [Bh] at hc)))); all_goals clear hF))
    ·rw [hne hc]
     refine q05 [.int .i64 (q2b x.vec i), .int .i64 (q2b y.vec i)] (he := k1) (k:=?_)
     (focus (have hF := True.intro; (repeat' (first | refine go1 (k:=?_) | with_reducible refine Ny.of ?_ ?_ | (refine Hyp.of ?_; intro hc; (try simp only [hc]); (try simp only [Bh] at hc)))); all_goals clear hF))
     exact Fin.tmp' rfl rfl
    ·have h := heq hc
     (refine Fin.nextW (i + 1) ?_ (have hW := (aI @q01 @q02); q0t); (try dsimp only))
     exact ⟨⟨hlt, h⟩, by omega⟩
   ·simp only [if_neg hy] at hne heq k1
    (focus (have hF := (aI @e1 (aI @e2 @g1)); (repeat' (first | refine go1 (k:=?_) | with_reducible refine Ny.of ?_ ?_ | (refine Hyp.of ?_; intro hc; (try simp only [hc]); (try simp only [Bh] at hc)))); all_goals clear hF))
    ·rw [hne hc]
     refine q05 [.int .i64 (q2b x.vec i), .int .i64 0] (he := k1) (k:=?_)
     (focus (have hF := True.intro; (repeat' (first | refine go1 (k:=?_) | with_reducible refine Ny.of ?_ ?_ | (refine Hyp.of ?_; intro hc; (try simp only [hc]); (try simp only [Bh] at hc)))); all_goals clear hF))
     exact Fin.tmp' rfl rfl
    ·have h := heq hc
     (refine Fin.nextW (i + 1) ?_ (have hW := (aI @q01 @q02); q0t); (try dsimp only))
     exact ⟨⟨hlt, h⟩, by omega⟩
  ·simp only [if_neg hx] at hne heq k1
   by_cases hy : i < y.vec.length
   ·have g2 : (q03 y.vec)[i]? = some (.int .i64 (q2b y.vec i)) := q0r (by unfold q2b; rw [List.getD_eq_getElem?_getD, List.getElem?_eq_getElem hy]; rfl)
    simp only [if_pos hy] at hne heq k1
    (focus (have hF := (aI @e1 (aI @e2 @g2)); (repeat' (first | refine go1 (k:=?_) | with_reducible refine Ny.of ?_ ?_ | (refine Hyp.of ?_; intro hc; (try simp only [hc]); (try simp only [Bh] at hc)))); all_goals clear hF))
    ·rw [hne hc]
     refine q05 [.int .i64 0, .int .i64 (q2b y.vec i)] (he := k1) (k:=?_)
     (focus (have hF := True.intro; (repeat' (first | refine go1 (k:=?_) | with_reducible refine Ny.of ?_ ?_ | (refine Hyp.of ?_; intro hc; (try simp only [hc]); (try simp only [Bh] at hc)))); all_goals clear hF))
     exact Fin.tmp' rfl rfl
    ·have h := heq hc
     (refine Fin.nextW (i + 1) ?_ (have hW := (aI @q01 @q02); q0t); (try dsimp only))
     exact ⟨⟨hlt, h⟩, by omega⟩
   ·simp only [if_neg hy] at hne heq k1
    (focus (have hF := (aI @e1 @e2); (repeat' (first | refine go1 (k:=?_) | with_reducible refine Ny.of ?_ ?_ | (refine Hyp.of ?_; intro hc; (try simp only [hc]); (try simp only [Bh] at hc)))); all_goals clear hF))
    have h := heq trivial
    (refine Fin.nextW (i + 1) ?_ (have hW := (aI @q01 @q02); q0t); (try dsimp only))
    exact ⟨⟨hlt, h⟩, by omega⟩
 ·have hv : z1c x = z1c y := by
   unfold z1c
   exact List.map_congr_left fun j hj => hp j (by rw [List.mem_range] at hj; omega)
  have k2 := q77 x.cloud y.cloud (by omega) (by omega)
  have hk : q76 (qmi x) (qmi y) = qga x.cloud y.cloud := by
   unfold qmi
   rw [hv, qff, qcj]
  rw [hk]
  (focus (have hF := (aI @e1 @e2); (repeat' (first | refine go1 (k:=?_) | with_reducible refine Ny.of ?_ ?_ | (refine Hyp.of ?_; intro hc; (try simp only [hc]); (try simp only [Bh] at hc)))); all_goals clear hF))
  refine q05 [.sl 3 (q0g x.cloud), .sl 3 (q0g y.cloud), .fn 148 []] (he := k2) (k:=?_)
  (focus (have hF := (aI @e1 @e2); (repeat' (first | refine go1 (k:=?_) | with_reducible refine Ny.of ?_ ?_ | (refine Hyp.of ?_; intro hc; (try simp only [hc]); (try simp only [Bh] at hc)))); all_goals clear hF))
  exact Fin.tmp' rfl rfl


theorem bool_eq {a b : Bool} (h : a = true ↔ b = true) : a = b := by cases a <;> cases b <;> simp_all


def qw3 : List SOp := [zO 1 (.box 25 (.tmp 0)),zO 2 (.assign (.const (.int .i64 0)))]
instance : Live qw3 := ⟨[0]⟩
def qw2 : List SOp := [zL 7 25 1,zO 8 (.call ⟨.value (.func 44),#[.tmp 7],#[25]⟩),zO 3 (.alloc 88),⟨none,.store 88 (.tmp 3) (.tmp 8),none⟩]
instance : Live qw2 := ⟨[1]⟩
def qw1 : List SOp := [zO 4 (.assign (.const (.int .i64 0)))]
instance : Live qw1 := ⟨[3]⟩
def qw0 : List SOp := [zO 5 (.assign (.const (.int .i64 0)))]
instance : Live qw0 := ⟨[3,4]⟩
def qvz : List SOp := [zM 9 5,zO 10 (.binOp .lss 3 (.tmp 9) (.const (.int .i64 16)) 3)]
instance : Live qvz := ⟨[3,4,5]⟩
def qvy : List SOp := [zO 6 (.assign (.const (.int .i64 0)))]
instance : Live qvy := ⟨[3,4,5]⟩
def qvx : List SOp := [zM 13 6,zO 14 (.binOp .add 3 (.tmp 13) (.const (.int .i64 1)) 3),zM 15 5,zF 16 88 3 0,zI 17 86 16 15,zL 18 22 17,zO 19 (.call ⟨.builtin .len,#[.tmp 18],#[22]⟩),zO 20 (.binOp .lss 3 (.tmp 14) (.tmp 19) 3)]
instance : Live qvx := ⟨[3,4,5,6]⟩
def qvw : List SOp := [zM 23 4,zM 24 5,zF 25 88 3 0,zI 26 86 25 24,zL 27 22 26,zM 28 6,zO 29 (.binOp .add 3 (.tmp 28) (.const (.int .i64 1)) 3),zI 30 22 27 29,zL 31 3 30,zM 32 5,zF 33 88 3 0,zI 34 86 33 32,zL 35 22 34,zM 36 6,zI 37 22 35 36,zL 38 3 37,zO 39 (.binOp .sub 3 (.tmp 31) (.tmp 38) 3),zO 40 (.binOp .add 3 (.tmp 23) (.tmp 39) 3),zG 4 40]
instance : Live qvw := ⟨[3,4,5,6]⟩
def qvv : List SOp := [zM 21 6,zO 22 (.binOp .add 3 (.tmp 21) (.const (.int .i64 2)) 3),zG 6 22]
instance : Live qvv := ⟨[3,4,5,6]⟩
def qin : List SOp := [zM 11 5,zO 12 (.binOp .add 3 (.tmp 11) (.const (.int .i64 1)) 3),zG 5 12]
instance : Live qin := ⟨[3,4,5]⟩
def qim : List SOp := [zM 41 4,zG 2 41]
instance : Live qim := ⟨[4]⟩
def qgv : SC :=
 (.seq (.seq (.ops false qvx) (.cond (.tmp 20) .skip (.exit 2))) (.seq (.block 3 (.ops true qvw)) (.ops false qvv)))
def qgw : SC :=
 (.seq (.seq (.ops false qvz) (.cond (.tmp 10) .skip (.exit 0))) (.seq (.block 1 (.seq (.ops false qvy) (.block 2 (.loop qgv)))) (.ops false qin)))
def t_k135 : SC :=
 (.seq (.ops false qw3) (.seq (.ops false qw2) (.seq (.ops false qw1) (.seq (.seq (.ops false qw0) (.block 0 (.loop qgw))) (.seq (.ops false qim) .ret)))))
theorem it_k135 : FnIs Tryz.prog 135 42 [.tmp 2] t_k135 := ⟨Tryz.f135, _, Tryz.func135, rfl, rfl, rfl, rfl, by kernel_rfl⟩

def qyx : List SOp := [zO 1 (.box 25 (.tmp 0)),zO 2 (.assign (.const (.bool false)))]
instance : Live qyx := ⟨[0]⟩
def qyw : List SOp := [zL 3 25 1,zO 4 (.call ⟨.value (.func 135),#[.tmp 3],#[25]⟩),zO 5 (.binOp .eql 3 (.tmp 4) (.const (.int .i64 0)) 3),zG 2 5]
instance : Live qyw := ⟨[1]⟩
def t_k109 : SC :=
 (.seq (.ops false qyx) (.seq (.ops false qyw) .ret))
theorem it_k109 : FnIs Tryz.prog 109 6 [.tmp 2] t_k109 := ⟨Tryz.f109, _, Tryz.func109, rfl, rfl, rfl, rfl, by kernel_rfl⟩

def qvu : List SOp := [zO 4 (.assign (.const (.int .i64 0)))]
instance : Live qvu := ⟨[0,1]⟩
def qvt : List SOp := [zM 5 0,zM 6 1,zO 7 (.binOp .lss 3 (.tmp 5) (.tmp 6) 3)]
instance : Live qvt := ⟨[0,1]⟩
def qvs : List SOp := [zO 4 (.assign (.const (.int .i64 (-1))))]
instance : Live qvs := ⟨[]⟩
def qvr : List SOp := [zM 8 0,zM 9 1,zO 10 (.binOp .gtr 3 (.tmp 8) (.tmp 9) 3)]
instance : Live qvr := ⟨[0,1]⟩
def qvq : List SOp := [zO 4 (.assign (.const (.int .i64 1)))]
instance : Live qvq := ⟨[]⟩
def qvp : List SOp := [zO 4 (.assign (.const (.int .i64 0)))]
instance : Live qvp := ⟨[]⟩
def t_k136 : SC :=
 (.seq (.ops false qvu) (.seq (.seq (.ops false qvt) (.cond (.tmp 7) (.seq (.ops false qvs) .ret) .skip)) (.seq (.seq (.ops false qvr) (.cond (.tmp 10) (.seq (.ops false qvq) .ret) .skip)) (.seq (.ops false qvp) .ret))))
theorem it_k136 : FnIs Tryz.prog 136 11 [.tmp 4] t_k136 := ⟨Tryz.f136, _, Tryz.func136, rfl, rfl, rfl, rfl, by kernel_rfl⟩

def qys : List SOp := [zO 2 (.box 25 (.tmp 0)),zO 3 (.box 25 (.tmp 1)),zO 4 (.assign (.const (.int .i64 0)))]
instance : Live qys := ⟨[0,1]⟩
def qyr : List SOp := [zL 11 25 2,zO 12 (.call ⟨.value (.func 11),#[.tmp 11],#[25]⟩),⟨none,.store 25 (.tmp 2) (.tmp 12),none⟩]
instance : Live qyr := ⟨[2,3]⟩
def qyq : List SOp := [zL 13 25 3,zO 14 (.call ⟨.value (.func 11),#[.tmp 13],#[25]⟩),⟨none,.store 25 (.tmp 3) (.tmp 14),none⟩]
instance : Live qyq := ⟨[2,3]⟩
def qyp : List SOp := [zO 5 (.assign (.const (.int .i64 0)))]
instance : Live qyp := ⟨[2,3]⟩
def qyo : List SOp := [zM 15 5,zO 16 (.binOp .lss 3 (.tmp 15) (.const (.int .i64 16)) 3)]
instance : Live qyo := ⟨[2,3,5]⟩
def qyn : List SOp := [zO 6 (.assign (.const (.int .i64 0))),zO 7 (.assign (.const (.int .i64 0)))]
instance : Live qyn := ⟨[2,3,5]⟩
def qym : List SOp := [zM 19 5,zF 20 25 2 0,zL 21 22 20,zO 22 (.call ⟨.builtin .len,#[.tmp 21],#[22]⟩),zO 23 (.binOp .lss 3 (.tmp 19) (.tmp 22) 3)]
instance : Live qym := ⟨[2,3,5,6,7]⟩
def qyl : List SOp := [zF 24 25 2 0,zL 25 22 24,zM 26 5,zI 27 22 25 26,zL 28 3 27,zG 6 28]
instance : Live qyl := ⟨[2,3,5,7]⟩
def qyk : List SOp := [zM 29 5,zF 30 25 3 0,zL 31 22 30,zO 32 (.call ⟨.builtin .len,#[.tmp 31],#[22]⟩),zO 33 (.binOp .lss 3 (.tmp 29) (.tmp 32) 3)]
instance : Live qyk := ⟨[2,3,5,6,7]⟩
def qke : List SOp := [zF 34 25 3 0,zL 35 22 34,zM 36 5,zI 37 22 35 36,zL 38 3 37,zG 7 38]
instance : Live qke := ⟨[2,3,5,6]⟩
def qkd : List SOp := [zM 39 6,zM 40 7,zO 41 (.binOp .neq 3 (.tmp 39) (.tmp 40) 3)]
instance : Live qkd := ⟨[2,3,5,6,7]⟩
def qkc : List SOp := [zM 42 6,zM 43 7,zO 44 (.call ⟨.value (.func 136),#[.tmp 42,.tmp 43],#[3,3]⟩),zG 4 44]
instance : Live qkc := ⟨[6,7]⟩
def qkb : List SOp := [zM 17 5,zO 18 (.binOp .add 3 (.tmp 17) (.const (.int .i64 1)) 3),zG 5 18]
instance : Live qkb := ⟨[2,3,5]⟩
def qka : List SOp := [zO 8 (.assign (.const (.int .i64 0)))]
instance : Live qka := ⟨[2,3]⟩
def qk9 : List SOp := [zM 45 8,zF 46 25 2 1,zL 47 23 46,zO 48 (.call ⟨.builtin .len,#[.tmp 47],#[23]⟩),zO 49 (.binOp .lss 3 (.tmp 45) (.tmp 48) 3),zM 50 49,⟨some 51,.move (.tmp 8),some ((some 50),true)⟩,⟨some 52,.fieldAddr 25 (.tmp 3) 1,some ((some 50),true)⟩,⟨some 53,.load 23 (.tmp 52),some ((some 50),true)⟩,⟨some 54,.call ⟨.builtin .len,#[.tmp 53],#[23]⟩,some ((some 50),true)⟩,⟨some 55,.binOp .lss 3 (.tmp 51) (.tmp 54) 3,some ((some 50),true)⟩,zO 56 (.pick (.tmp 50) (.tmp 55) (.const (.bool false)))]
instance : Live qk9 := ⟨[2,3,8]⟩
def qbn : List SOp := [zF 59 25 2 1,zL 60 23 59,zM 61 8,zI 62 23 60 61,zL 63 82 62,zF 64 25 3 1,zL 65 23 64,zM 66 8,zI 67 23 65 66,zL 68 82 67,zO 9 (.alloc 82),zO 10 (.alloc 82),⟨none,.store 82 (.tmp 9) (.tmp 63),none⟩,⟨none,.store 82 (.tmp 10) (.tmp 68),none⟩]
instance : Live qbn := ⟨[2,3,8]⟩
instance : Rd qbn := ⟨fun j => j == 2 || j == 3⟩
def qk8 : List SOp := [zF 69 82 9 0,zL 70 3 69,zF 71 82 10 0,zL 72 3 71,zO 73 (.binOp .neq 3 (.tmp 70) (.tmp 72) 3)]
instance : Live qk8 := ⟨[2,3,8,9,10]⟩
def qk7 : List SOp := [zF 74 82 9 0,zL 75 3 74,zF 76 82 10 0,zL 77 3 76,zO 78 (.call ⟨.value (.func 136),#[.tmp 75,.tmp 77],#[3,3]⟩),zG 4 78]
instance : Live qk7 := ⟨[9,10]⟩
def qk6 : List SOp := [zF 79 82 9 1,zL 80 3 79,zF 81 82 10 1,zL 82 3 81,zO 83 (.binOp .neq 3 (.tmp 80) (.tmp 82) 3)]
instance : Live qk6 := ⟨[2,3,8,9,10]⟩
def qk5 : List SOp := [zF 84 82 9 1,zL 85 3 84,zF 86 82 10 1,zL 87 3 86,zO 88 (.call ⟨.value (.func 136),#[.tmp 85,.tmp 87],#[3,3]⟩),zG 4 88]
instance : Live qk5 := ⟨[9,10]⟩
def qk4 : List SOp := [zF 89 82 9 2,zL 90 3 89,zF 91 82 10 2,zL 92 3 91,zO 93 (.binOp .neq 3 (.tmp 90) (.tmp 92) 3)]
instance : Live qk4 := ⟨[2,3,8,9,10]⟩
def qk3 : List SOp := [zF 94 82 9 2,zL 95 3 94,zF 96 82 10 2,zL 97 3 96,zO 98 (.call ⟨.value (.func 136),#[.tmp 95,.tmp 97],#[3,3]⟩),zG 4 98]
instance : Live qk3 := ⟨[9,10]⟩
def qk2 : List SOp := [zM 57 8,zO 58 (.binOp .add 3 (.tmp 57) (.const (.int .i64 1)) 3),zG 8 58]
instance : Live qk2 := ⟨[2,3,8]⟩
def qk1 : List SOp := [zF 99 25 2 1,zL 100 23 99,zO 101 (.call ⟨.builtin .len,#[.tmp 100],#[23]⟩),zF 102 25 3 1,zL 103 23 102,zO 104 (.call ⟨.builtin .len,#[.tmp 103],#[23]⟩),zO 105 (.call ⟨.value (.func 136),#[.tmp 101,.tmp 104],#[3,3]⟩),zG 4 105]
instance : Live qk1 := ⟨[2,3]⟩
def qh5 : SC :=
 (.seq (.seq (.ops false qyo) (.cond (.tmp 16) .skip (.exit 0))) (.seq (.block 1 (.seq (.ops false qyn) (.seq (.seq (.ops false qym) (.cond (.tmp 23) (.ops false qyl) .skip)) (.seq (.seq (.ops false qyk) (.cond (.tmp 33) (.ops false qke) .skip)) (.seq (.ops false qkd) (.cond (.tmp 41) (.seq (.ops false qkc) .ret) .skip)))))) (.ops false qkb)))
def qh4 : SC :=
 (.seq (.seq (.ops false qk9) (.cond (.tmp 56) .skip (.exit 2))) (.seq (.block 3 (.seq (.opsW [] qbn) (.seq (.seq (.ops false qk8) (.cond (.tmp 73) (.seq (.ops false qk7) .ret) .skip)) (.seq (.seq (.ops false qk6) (.cond (.tmp 83) (.seq (.ops false qk5) .ret) .skip)) (.seq (.ops false qk4) (.cond (.tmp 93) (.seq (.ops false qk3) .ret) .skip)))))) (.ops false qk2)))
def t_k110 : SC :=
 (.seq (.ops false qys) (.seq (.ops false qyr) (.seq (.ops false qyq) (.seq (.seq (.ops false qyp) (.block 0 (.loop qh5))) (.seq (.seq (.ops false qka) (.block 2 (.loop qh4))) (.seq (.ops false qk1) .ret))))))
theorem it_k110 : FnIs Tryz.prog 110 106 [.tmp 4] t_k110 := ⟨Tryz.f110, _, Tryz.func110, rfl, rfl, rfl, rfl, by kernel_rfl⟩


theorem ev_k135 (p : Pst) (hw : wt p ≤ 50000000) : Ev (En Tryz.prog rfl).P 135 [q10 p] (.ret (.int .i64 (q83 p))) := by
 have c1 := ev_k44 p (by omega)
 refine Ev.of_body it_k135 (by simp) (Run.start ?_)
 unfold t_k135 q10
 have ht : TabLe (q25 [p]) (wt p) := by simpa using q3z [p]
 have hS := q46
 have hm : qky [p] = (q25 [p]).map q1a := rfl
 have hp : q83 p = q1x (q25 [p]) 16 := rfl
 rw [hm] at c1
 rw [hp]
 have h16 : (q0y ((q25 [p]).map q1a)).length = 16 := by simp [q0y, ht.1]
 have hone := q6v ((q25 [p]).map q1a)
 have hst := q46 ((q25 [p]).map q1a)
 (focus (have hF := True.intro; (repeat' (first | refine go1 (k:=?_) | with_reducible refine Ny.of ?_ ?_ | (refine Hyp.of ?_; intro hc; (try simp only [hc]); (try simp only [Bh] at hc)))); all_goals clear hF))
 refine q05 [q10 p] (he := c1) (k:=?_)
 clear c1 hm hp
 generalize q25 [p] = t at ht h16 hone hst ⊢
 (focus (have hF := (aI @h16 @hone); (repeat' (first | refine go1 (k:=?_) | with_reducible refine Ny.of ?_ ?_ | (refine Hyp.of ?_; intro hc; (try simp only [hc]); (try simp only [Bh] at hc)))); all_goals clear hF))
 refine Run.while (σ := Nat) (fun r => ⟨tms [(3, .ptr 3 0), (4, .int .i64 (q1x t r)), (5, .int .i64 (r : Int))], mms [(3, .cells (q0y (t.map q1a)))]⟩)
  (fun r => r ≤ 16) (fun r => 16 - r) 0 (have hW := @hst; q0t) (Nat.zero_le _) ?_
 intro r hr
 unfold qgw
 by_cases hlt : r < 16
 ·have hrt : r < t.length := by rw [ht.1]; exact hlt
  have hq := ht.2 r
  have g1 : (q0y (t.map q1a))[r]? = some (.sl 1 (q03 (q2w (q11 (t.getD r []))))) := by
   rw [qdv (by rw [List.length_map]; exact hrt)]
   simp [List.getD_eq_getElem?_getD, hrt, q1a]
  have hml := q4d (t.getD r [])
  have hcan := q2k (t.getD r [])
  have hb := q5d ht r
  have hr16 : (r : Int) * (1000000000 * (wt p : Int)) ≤ 16 * (1000000000 * (wt p : Int)) := Int.mul_le_mul_of_nonneg_right (by omega) (by omega)
  have hnx := q67 t r
  unfold qej at hnx
  generalize q11 (t.getD r []) = m at g1 hml hcan hnx
  have g2 : (q03 (q2w m)).length = 2 * m.length := by rw [q0d, qda]
  (focus (have hF := (aI @h16 @hone); (repeat' (first | refine go1 (k:=?_) | with_reducible refine Ny.of ?_ ?_ | (refine Hyp.of ?_; intro hc; (try simp only [hc]); (try simp only [Bh] at hc)))); all_goals clear hF))
  refine Run.while (σ := Nat) (fun c => ⟨tms [(3, .ptr 3 0), (4, .int .i64 ((m.take c).foldl q16 (q1x t r))), (5, .int .i64 (r : Int)), (6, .int .i64 ((2 * c : Nat) : Int))], mms [(3, .cells (q0y (t.map q1a)))]⟩)
   (fun c => c ≤ m.length) (fun c => m.length - c) 0 (have hW := @hst; q0t) (Nat.zero_le _) ?_
  intro c hc
  unfold qgv
  by_cases hcl : c < m.length
  ·obtain ⟨x, hx⟩ : ∃ x, m[c]? = some x := ⟨m[c], by simp [hcl]⟩
   have ⟨k1, k2⟩ := qou hx
   have k1' : (q03 (q2w m))[2 * c]? = some (.int .i64 x.1) := q0r k1
   have k2' : (q03 (q2w m))[2 * c + 1]? = some (.int .i64 (x.2 + 1)) := q0r k2
   have hxr := hcan.2 x (List.mem_of_getElem? hx)
   unfold okR at hxr
   have e8 : ((2 * c : Nat) : Int) + 1 = ((2 * c + 1 : Nat) : Int) := by omega
   have e9 : ((2 * c : Nat) : Int) + 2 = ((2 * (c + 1) : Nat) : Int) := by omega
   have hf : (m.take (c + 1)).foldl q16 (q1x t r) = (m.take c).foldl q16 (q1x t r) + (x.2 + 1 - x.1) := by
    rw [q3d q16 _ m hx]
    unfold q16
    omega
   have hb2 := q7j (m := m.take c) (fun y hy => by have := hcan.2 y (List.mem_of_mem_take hy); unfold okR at this; omega) (q1x t r)
   have hb3 : (m.take c).length ≤ m.length := by rw [List.length_take]; omega
   generalize (m.take c).foldl q16 (q1x t r) = a at hf hb2 ⊢
   (focus (have hF := (aI (aI (aI @h16 @hone) (aI @g1 @g2)) (aI (aI @k1' @k2') (aI @e8 @e9))); (repeat' (first | refine go1 (k:=?_) | with_reducible refine Ny.of ?_ ?_ | (refine Hyp.of ?_; intro hc; (try simp only [hc]); (try simp only [Bh] at hc)))); all_goals clear hF))
   (refine Fin.nextW (c + 1) ?_ (have hW := (aI @hst @hf); q0t); (try dsimp only))
   omega
  ·have hce : (m.take c).foldl q16 (q1x t r) = q1x t (r + 1) := by
    rw [show c = m.length by omega, List.take_length, qd0, hnx]
   rw [hce]
   (focus (have hF := (aI (aI @h16 @hone) (aI @g1 @g2)); (repeat' (first | refine go1 (k:=?_) | with_reducible refine Ny.of ?_ ?_ | (refine Hyp.of ?_; intro hc; (try simp only [hc]); (try simp only [Bh] at hc)))); all_goals clear hF))
   (refine Fin.nextW (r + 1) ?_ (have hW := @hst; q0t); (try dsimp only))
   omega
 ·rw [show r = 16 by omega]
  (focus (have hF := @h16; (repeat' (first | refine go1 (k:=?_) | with_reducible refine Ny.of ?_ ?_ | (refine Hyp.of ?_; intro hc; (try simp only [hc]); (try simp only [Bh] at hc)))); all_goals clear hF))
  exact Fin.tmp' rfl rfl
theorem ev_k109 (p : Pst) (hp : wt p ≤ 50000000) : Ev (En Tryz.prog rfl).P 109 [q10 p] (.ret (.bool (decide (q83 p = 0)))) := by
 refine Ev.of_body it_k109 (by simp) (Run.start ?_)
 unfold t_k109 q10
 (focus (have hF := True.intro; (repeat' (first | refine go1 (k:=?_) | with_reducible refine Ny.of ?_ ?_ | (refine Hyp.of ?_; intro hc; (try simp only [hc]); (try simp only [Bh] at hc)))); all_goals clear hF))
 refine q05 [q10 p] (he := ev_k135 p hp) (k:=?_)
 (focus (have hF := True.intro; (repeat' (first | refine go1 (k:=?_) | with_reducible refine Ny.of ?_ ?_ | (refine Hyp.of ?_; intro hc; (try simp only [hc]); (try simp only [Bh] at hc)))); all_goals clear hF))
 exact Fin.tmp' rfl rfl
theorem qcd (a b : Int) : Ev (En Tryz.prog rfl).P 136 [.int .i64 a, .int .i64 b] (.ret (.int .i64 (q64 a b))) := by
 refine Ev.of_body it_k136 (by simp) (Run.start ?_)
 unfold t_k136
 by_cases h1 : a < b
 ·rw [show q64 a b = -1 from if_pos h1]
  (focus (have hF := True.intro; (repeat' (first | refine go1 (k:=?_) | with_reducible refine Ny.of ?_ ?_ | (refine Hyp.of ?_; intro hc; (try simp only [hc]); (try simp only [Bh] at hc)))); all_goals clear hF))
  exact Fin.tmp' rfl rfl
 ·by_cases h2 : b < a
  ·rw [show q64 a b = 1 by unfold q64; rw [if_neg h1, if_pos h2]]
   (focus (have hF := True.intro; (repeat' (first | refine go1 (k:=?_) | with_reducible refine Ny.of ?_ ?_ | (refine Hyp.of ?_; intro hc; (try simp only [hc]); (try simp only [Bh] at hc)))); all_goals clear hF))
   exact Fin.tmp' rfl rfl
  ·rw [show q64 a b = 0 by unfold q64; rw [if_neg h1, if_neg h2]]
   (focus (have hF := True.intro; (repeat' (first | refine go1 (k:=?_) | with_reducible refine Ny.of ?_ ?_ | (refine Hyp.of ?_; intro hc; (try simp only [hc]); (try simp only [Bh] at hc)))); all_goals clear hF))
   exact Fin.tmp' rfl rfl

theorem cmpS_def (s t : Sn) : cmpS s t = if q64 s.1 t.1 = 0 then (if q64 s.2.1 t.2.1 = 0 then q64 s.2.2 t.2.2 else q64 s.2.1 t.2.1) else q64 s.1 t.1 := by
 unfold cmpS
 simp only [orI]
 split
 ·split
  ·split
   ·rename_i h; exact h.symm
   ·rfl
  ·rfl
 ·rfl
theorem q58 {a b : Int} : q64 a b = 0 ↔ a = b := by
 unfold q64
 split
 ·constructor
  ·intro h; simp at h
  ·intro h; omega
 ·split
  ·constructor
   ·intro h; simp at h
   ·intro h; omega
  ·constructor
   ·intro _; omega
   ·intro _; rfl
theorem ev_k110 (p q : Pst) (hp : wt p ≤ 30000000) (hq : wt q ≤ 30000000) : Ev (En Tryz.prog rfl).P 110 [q10 p, q10 q] (.ret (.int .i64 (cmpP p q))) := by
 refine Ev.of_body it_k110 (by simp) (Run.start ?_)
 unfold t_k110 q10
 have c1 := zdw p (by omega)
 have c2 := zdw q (by omega)
 have h1 := q6u p
 have h2 := q6u q
 have hr : cmpP p q = q76 (qmi (q26 p)) (qmi (q26 q)) := rfl
 rw [hr]
 (focus (have hF := True.intro; (repeat' (first | refine go1 (k:=?_) | with_reducible refine Ny.of ?_ ?_ | (refine Hyp.of ?_; intro hc; (try simp only [hc]); (try simp only [Bh] at hc)))); all_goals clear hF))
 refine q05 [q10 p] (he := c1) (k:=?_)
 unfold q10
 (focus (have hF := True.intro; (repeat' (first | refine go1 (k:=?_) | with_reducible refine Ny.of ?_ ?_ | (refine Hyp.of ?_; intro hc; (try simp only [hc]); (try simp only [Bh] at hc)))); all_goals clear hF))
 refine q05 [q10 q] (he := c2) (k:=?_)
 clear c1 c2 hr
 generalize q26 p = x at h1 ⊢
 generalize q26 q = y at h2 ⊢
 unfold q10
 have hw1 : x.vec.length + x.cloud.length = wt x := rfl
 have hw2 : y.vec.length + y.cloud.length = wt y := rfl
 have e1 := q0d x.vec
 have e2 := q0d y.vec
 have e3 := q14 x.cloud
 have e4 := q14 y.cloud
 (focus (have hF := (aI @e1 @e2); (repeat' (first | refine go1 (k:=?_) | with_reducible refine Ny.of ?_ ?_ | (refine Hyp.of ?_; intro hc; (try simp only [hc]); (try simp only [Bh] at hc)))); all_goals clear hF))
 refine Run.while (σ := Nat) (fun i => ⟨tms [(2, .ptr 2 0), (3, .ptr 3 0), (5, .int .i64 (i : Int))], mms [(2, .cells [.sl 1 (q03 x.vec), .sl 3 (q0g x.cloud)]), (3, .cells [.sl 1 (q03 y.vec), .sl 3 (q0g y.cloud)])]⟩) (fun i => i ≤ 16 ∧ ∀ j, j < i → vv x j = vv y j) (fun i => 16 - i) 0 (have hW := (aI @q01 @q02); q0t) ⟨Nat.zero_le _, fun j hj => absurd hj (Nat.not_lt_zero _)⟩ ?_
 rintro i ⟨hi, hp⟩
 unfold qh5
 by_cases hlt : i < 16
 ·have hne : vv x i ≠ vv y i → q76 (qmi x) (qmi y) = q64 (vv x i) (vv y i) := fun hn =>
   qnu (z1c x) (z1c y) i _ _ _ _ (q4m x hlt) (q4m y hlt) (fun j hj => by rw [q4m x (by omega), q4m y (by omega), hp j hj]) hn
  have heq : vv x i = vv y i → ∀ j, j < i + 1 → vv x j = vv y j := fun he j hj => by
   by_cases e : j = i
   ·rw [e]; exact he
   ·exact hp j (by omega)
  have k1 := qcd (vv x i) (vv y i)
  unfold vv at hne heq k1
  by_cases hx : i < x.vec.length
  ·have g1 : (q03 x.vec)[i]? = some (.int .i64 (q2b x.vec i)) := q0r (by unfold q2b; rw [List.getD_eq_getElem?_getD, List.getElem?_eq_getElem hx]; rfl)
   simp only [if_pos hx] at hne heq k1
   by_cases hy : i < y.vec.length
   ·have g2 : (q03 y.vec)[i]? = some (.int .i64 (q2b y.vec i)) := q0r (by unfold q2b; rw [List.getD_eq_getElem?_getD, List.getElem?_eq_getElem hy]; rfl)
    simp only [if_pos hy] at hne heq k1
    (focus (have hF := (aI (aI @e1 @e2) (aI @g1 @g2)); (repeat' (first | refine go1 (k:=?_) | with_reducible refine Ny.of ?_ ?_ | (refine Hyp.of ?_; intro hc; (try simp only [hc]); (try simp only [Bh] at hc)))); all_goals clear hF))
    ·rw [hne hc]
     refine q05 [.int .i64 (q2b x.vec i), .int .i64 (q2b y.vec i)] (he := k1) (k:=?_)
     (focus (have hF := True.intro; (repeat' (first | refine go1 (k:=?_) | with_reducible refine Ny.of ?_ ?_ | (refine Hyp.of ?_; intro hc; (try simp only [hc]); (try simp only [Bh] at hc)))); all_goals clear hF))
     exact Fin.tmp' rfl rfl
    ·have h := heq hc
     (refine Fin.nextW (i + 1) ?_ (have hW := (aI @q01 @q02); q0t); (try dsimp only))
     exact ⟨⟨hlt, h⟩, by omega⟩
   ·simp only [if_neg hy] at hne heq k1
    (focus (have hF := (aI @e1 (aI @e2 @g1)); (repeat' (first | refine go1 (k:=?_) | with_reducible refine Ny.of ?_ ?_ | (refine Hyp.of ?_; intro hc; (try simp only [hc]); (try simp only [Bh] at hc)))); all_goals clear hF))
    ·rw [hne hc]
     refine q05 [.int .i64 (q2b x.vec i), .int .i64 0] (he := k1) (k:=?_)
     (focus (have hF := True.intro; (repeat' (first | refine go1 (k:=?_) | with_reducible refine Ny.of ?_ ?_ | (refine Hyp.of ?_; intro hc; (try simp only [hc]); (try simp only [Bh] at hc)))); all_goals clear hF))
     exact Fin.tmp' rfl rfl
    ·have h := heq hc
     (refine Fin.nextW (i + 1) ?_ (have hW := (aI @q01 @q02); q0t); (try dsimp only))
     exact ⟨⟨hlt, h⟩, by omega⟩
  ·simp only [if_neg hx] at hne heq k1
   by_cases hy : i < y.vec.length
   ·have g2 : (q03 y.vec)[i]? = some (.int .i64 (q2b y.vec i)) := q0r (by unfold q2b; rw [List.getD_eq_getElem?_getD, List.getElem?_eq_getElem hy]; rfl)
    simp only [if_pos hy] at hne heq k1
    (focus (have hF := (aI @e1 (aI @e2 @g2)); (repeat' (first | refine go1 (k:=?_) | with_reducible refine Ny.of ?_ ?_ | (refine Hyp.of ?_; intro hc; (try simp only [hc]); (try simp only [Bh] at hc)))); all_goals clear hF))
    ·rw [hne hc]
     refine q05 [.int .i64 0, .int .i64 (q2b y.vec i)] (he := k1) (k:=?_)
     (focus (have hF := True.intro; (repeat' (first | refine go1 (k:=?_) | with_reducible refine Ny.of ?_ ?_ | (refine Hyp.of ?_; intro hc; (try simp only [hc]); (try simp only [Bh] at hc)))); all_goals clear hF))
     exact Fin.tmp' rfl rfl
    ·have h := heq hc
     (refine Fin.nextW (i + 1) ?_ (have hW := (aI @q01 @q02); q0t); (try dsimp only))
     exact ⟨⟨hlt, h⟩, by omega⟩
   ·simp only [if_neg hy] at hne heq k1
    (focus (have hF := (aI @e1 @e2); (repeat' (first | refine go1 (k:=?_) | with_reducible refine Ny.of ?_ ?_ | (refine Hyp.of ?_; intro hc; (try simp only [hc]); (try simp only [Bh] at hc)))); all_goals clear hF))
    have h := heq trivial
    (refine Fin.nextW (i + 1) ?_ (have hW := (aI @q01 @q02); q0t); (try dsimp only))
    exact ⟨⟨hlt, h⟩, by omega⟩
 ·have hv : z1c x = z1c y := by
   unfold z1c
   exact List.map_congr_left fun j hj => hp j (by rw [List.mem_range] at hj; omega)
  have hk : q76 (qmi x) (qmi y) = qga x.cloud y.cloud := by
   unfold qmi
   rw [hv, qff, qcj]
  rw [hk]
  (focus (have hF := (aI @e1 @e2); (repeat' (first | refine go1 (k:=?_) | with_reducible refine Ny.of ?_ ?_ | (refine Hyp.of ?_; intro hc; (try simp only [hc]); (try simp only [Bh] at hc)))); all_goals clear hF))
  refine Run.while (σ := Nat) (fun i => ⟨tms [(2, .ptr 2 0), (3, .ptr 3 0), (8, .int .i64 (i : Int))], mms [(2, .cells [.sl 1 (q03 x.vec), .sl 3 (q0g x.cloud)]), (3, .cells [.sl 1 (q03 y.vec), .sl 3 (q0g y.cloud)])]⟩) (fun i => i ≤ x.cloud.length ∧ i ≤ y.cloud.length ∧ qga (x.cloud.drop i) (y.cloud.drop i) = qga x.cloud y.cloud) (fun i => x.cloud.length - i) 0 (have hW := (aI @q01 @q02); q0t) ⟨Nat.zero_le _, Nat.zero_le _, by rw [List.drop_zero, List.drop_zero]⟩ ?_
  clear hlt hi hp
  rintro i ⟨hi, hi2, hp⟩
  unfold qh4
  by_cases hlt : i < x.cloud.length ∧ i < y.cloud.length
  ·obtain ⟨hla, hlb⟩ := hlt
   obtain ⟨s, hs⟩ : ∃ s, x.cloud[i]? = some s := ⟨x.cloud[i], by simp [hla]⟩
   obtain ⟨t, ht⟩ : ∃ t, y.cloud[i]? = some t := ⟨y.cloud[i], by simp [hlb]⟩
   have g1 := q21 hs
   have g2 := q21 ht
   obtain ⟨_, hxa⟩ := List.getElem?_eq_some_iff.1 hs
   obtain ⟨_, hyb⟩ := List.getElem?_eq_some_iff.1 ht
   have hd : qga x.cloud y.cloud = if cmpS s t = 0 then qga (x.cloud.drop (i + 1)) (y.cloud.drop (i + 1)) else cmpS s t := by
    rw [← hp, List.drop_eq_getElem_cons hla, List.drop_eq_getElem_cons hlb, hxa, hyb]
    rfl
   rw [cmpS_def] at hd
   have k1 := qcd s.1 t.1
   have k2 := qcd s.2.1 t.2.1
   have k3 := qcd s.2.2 t.2.2
   unfold encS at g1 g2
   by_cases q1 : s.1 = t.1
   ·rw [if_pos (q58.2 q1)] at hd
    by_cases q2 : s.2.1 = t.2.1
    ·rw [if_pos (q58.2 q2)] at hd
     by_cases q3 : s.2.2 = t.2.2
     ·rw [if_pos (q58.2 q3)] at hd
      (focus (have hF := (aI (aI (aI @e1 @e2) (aI @e3 @e4)) (aI (aI @g1 @g2) (aI @q1 (aI @q2 @q3)))); (repeat' (first | refine go2 (k:=?_) | with_reducible refine Ny.of ?_ ?_ | (refine Hyp.of ?_; intro hc; (try simp only [hc]); (try simp only [Bh] at hc)))); all_goals clear hF))
      (refine Fin.nextW (i + 1) ?_ (have hW := (aI @q01 @q02); q0t); (try dsimp only))
      exact ⟨⟨hla, hlb, hd.symm⟩, by omega⟩
     ·rw [if_neg (fun h => q3 (q58.1 h))] at hd
      rw [hd]
      (focus (have hF := (aI (aI (aI @e1 @e2) (aI @e3 @e4)) (aI (aI @g1 @g2) (aI @q1 (aI @q2 @q3)))); (repeat' (first | refine go2 (k:=?_) | with_reducible refine Ny.of ?_ ?_ | (refine Hyp.of ?_; intro hc; (try simp only [hc]); (try simp only [Bh] at hc)))); all_goals clear hF))
      refine q05 [.int .i64 s.2.2, .int .i64 t.2.2] (he := k3) (k:=?_)
      (focus (have hF := True.intro; (repeat' (first | refine go1 (k:=?_) | with_reducible refine Ny.of ?_ ?_ | (refine Hyp.of ?_; intro hc; (try simp only [hc]); (try simp only [Bh] at hc)))); all_goals clear hF))
      exact Fin.tmp' rfl rfl
    ·have hd2 : ¬ q64 s.2.1 t.2.1 = 0 := fun h => q2 (q58.1 h)
     rw [if_neg hd2, if_neg hd2] at hd
     rw [hd]
     (focus (have hF := (aI (aI (aI @e1 @e2) (aI @e3 @e4)) (aI (aI @g1 @g2) (aI @q1 @q2))); (repeat' (first | refine go2 (k:=?_) | with_reducible refine Ny.of ?_ ?_ | (refine Hyp.of ?_; intro hc; (try simp only [hc]); (try simp only [Bh] at hc)))); all_goals clear hF))
     refine q05 [.int .i64 s.2.1, .int .i64 t.2.1] (he := k2) (k:=?_)
     (focus (have hF := True.intro; (repeat' (first | refine go1 (k:=?_) | with_reducible refine Ny.of ?_ ?_ | (refine Hyp.of ?_; intro hc; (try simp only [hc]); (try simp only [Bh] at hc)))); all_goals clear hF))
     exact Fin.tmp' rfl rfl
   ·have hd2 : ¬ q64 s.1 t.1 = 0 := fun h => q1 (q58.1 h)
    rw [if_neg hd2, if_neg hd2] at hd
    rw [hd]
    (focus (have hF := (aI (aI @e1 (aI @e2 @e3)) (aI (aI @e4 @g1) (aI @g2 @q1))); (repeat' (first | refine go2 (k:=?_) | with_reducible refine Ny.of ?_ ?_ | (refine Hyp.of ?_; intro hc; (try simp only [hc]); (try simp only [Bh] at hc)))); all_goals clear hF))
    refine q05 [.int .i64 s.1, .int .i64 t.1] (he := k1) (k:=?_)
    (focus (have hF := True.intro; (repeat' (first | refine go1 (k:=?_) | with_reducible refine Ny.of ?_ ?_ | (refine Hyp.of ?_; intro hc; (try simp only [hc]); (try simp only [Bh] at hc)))); all_goals clear hF))
    exact Fin.tmp' rfl rfl
  ·have hd : qga x.cloud y.cloud = q64 (x.cloud.length : Int) (y.cloud.length : Int) := by
    rw [← hp]
    by_cases ha : i < x.cloud.length
    ·have hb : ¬ i < y.cloud.length := fun h => hlt ⟨ha, h⟩
     rw [List.drop_eq_getElem_cons ha, List.drop_eq_nil_of_le (show y.cloud.length ≤ i by omega)]
     unfold q64
     rw [if_neg (by omega), if_pos (by omega)]
     rfl
    ·by_cases hb : i < y.cloud.length
     ·rw [List.drop_eq_nil_of_le (show x.cloud.length ≤ i by omega), List.drop_eq_getElem_cons hb]
      unfold q64
      rw [if_pos (by omega)]
      rfl
     ·rw [List.drop_eq_nil_of_le (show x.cloud.length ≤ i by omega), List.drop_eq_nil_of_le (show y.cloud.length ≤ i by omega)]
      unfold q64
      rw [if_neg (by omega), if_neg (by omega)]
      rfl
   rw [hd]
   have k1 := qcd (x.cloud.length : Int) (y.cloud.length : Int)
   by_cases ha : i < x.cloud.length
   ·have hb : ¬ i < y.cloud.length := fun h => hlt ⟨ha, h⟩
    (focus (have hF := (aI (aI @e1 @e2) (aI @e3 @e4)); (repeat' (first | refine go1 (k:=?_) | with_reducible refine Ny.of ?_ ?_ | (refine Hyp.of ?_; intro hc; (try simp only [hc]); (try simp only [Bh] at hc)))); all_goals clear hF))
    refine q05 [.int .i64 (x.cloud.length : Int), .int .i64 (y.cloud.length : Int)] (he := k1) (k:=?_)
    (focus (have hF := True.intro; (repeat' (first | refine go1 (k:=?_) | with_reducible refine Ny.of ?_ ?_ | (refine Hyp.of ?_; intro hc; (try simp only [hc]); (try simp only [Bh] at hc)))); all_goals clear hF))
    exact Fin.tmp' rfl rfl
   ·(focus (have hF := (aI (aI @e1 @e2) (aI @e3 @e4)); (repeat' (first | refine go1 (k:=?_) | with_reducible refine Ny.of ?_ ?_ | (refine Hyp.of ?_; intro hc; (try simp only [hc]); (try simp only [Bh] at hc)))); all_goals clear hF))
    refine q05 [.int .i64 (x.cloud.length : Int), .int .i64 (y.cloud.length : Int)] (he := k1) (k:=?_)
    (focus (have hF := True.intro; (repeat' (first | refine go1 (k:=?_) | with_reducible refine Ny.of ?_ ?_ | (refine Hyp.of ?_; intro hc; (try simp only [hc]); (try simp only [Bh] at hc)))); all_goals clear hF))
    exact Fin.tmp' rfl rfl

def qui : List SOp := [zO 4 (.assign (.const (.int .i64 0)))]
instance : Live qui := ⟨[0,1]⟩
def quh : List SOp := [zM 5 0,zM 6 1,zO 7 (.call ⟨.value (.func 156),#[.tmp 5,.tmp 6],#[9,9]⟩),zG 4 7]
instance : Live quh := ⟨[0,1]⟩
def t_k145 : SC :=
 (.seq (.ops false qui) (.seq (.ops false quh) .ret))
theorem it_k145 : FnIs Tryz.prog 145 8 [.tmp 4] t_k145 := ⟨Tryz.f145, _, Tryz.func145, rfl, rfl, rfl, rfl, by kernel_rfl⟩

def qx9 : List SOp := [zO 4 (.assign (.const (.int .i64 0)))]
instance : Live qx9 := ⟨[0,1]⟩
def qx8 : List SOp := [zM 5 0,zM 6 1,zO 7 (.call ⟨.value (.func 145),#[.tmp 5,.tmp 6],#[9,9]⟩),zG 4 7]
instance : Live qx8 := ⟨[0,1]⟩
def t_k128 : SC :=
 (.seq (.ops false qx9) (.seq (.ops false qx8) .ret))
theorem it_k128 : FnIs Tryz.prog 128 8 [.tmp 4] t_k128 := ⟨Tryz.f128, _, Tryz.func128, rfl, rfl, rfl, rfl, by kernel_rfl⟩

def qzv : List SOp := [zO 2 (.box 84 (.tmp 0)),zO 3 (.box 84 (.tmp 1)),zO 4 (.assign (.const (.int .i64 0)))]
instance : Live qzv := ⟨[0,1]⟩
def qzu : List SOp := [zF 6 84 2 0,zL 7 9 6,zF 8 84 3 0,zL 9 9 8,zO 10 (.call ⟨.value (.func 128),#[.tmp 7,.tmp 9],#[9,9]⟩),zG 5 10]
instance : Live qzu := ⟨[2,3]⟩
def qzt : List SOp := [zM 11 5,zO 12 (.binOp .neq 3 (.tmp 11) (.const (.int .i64 0)) 3)]
instance : Live qzt := ⟨[2,3,5]⟩
def qzs : List SOp := [zM 13 5,zG 4 13]
instance : Live qzs := ⟨[5]⟩
def qzr : List SOp := [zF 14 84 2 1,zL 15 25 14,zF 16 84 3 1,zL 17 25 16,zO 18 (.call ⟨.value (.func 129),#[.tmp 15,.tmp 17],#[25,25]⟩),zG 4 18]
instance : Live qzr := ⟨[2,3]⟩
def t_k101 : SC :=
 (.seq (.ops false qzv) (.seq (.seq (.ops false qzu) (.seq (.ops false qzt) (.cond (.tmp 12) (.seq (.ops false qzs) .ret) .skip))) (.seq (.ops false qzr) .ret)))
theorem it_k101 : FnIs Tryz.prog 101 19 [.tmp 4] t_k101 := ⟨Tryz.f101, _, Tryz.func101, rfl, rfl, rfl, rfl, by kernel_rfl⟩

def z71 : List SOp := [zO 2 (.box 84 (.tmp 0)),zO 3 (.box 84 (.tmp 1)),zO 4 (.assign (.const (.int .i64 0)))]
instance : Live z71 := ⟨[0,1]⟩
def z6z : List SOp := [zF 5 84 2 0,zL 6 9 5,zF 7 84 3 0,zL 8 9 7,zO 9 (.binOp .lss 9 (.tmp 6) (.tmp 8) 9)]
instance : Live z6z := ⟨[2,3]⟩
def z6y : List SOp := [zO 4 (.assign (.const (.int .i64 (-1))))]
instance : Live z6y := ⟨[]⟩
def z6x : List SOp := [zF 10 84 2 0,zL 11 9 10,zF 12 84 3 0,zL 13 9 12,zO 14 (.binOp .gtr 9 (.tmp 11) (.tmp 13) 9)]
instance : Live z6x := ⟨[2,3]⟩
def z6w : List SOp := [zO 4 (.assign (.const (.int .i64 1)))]
instance : Live z6w := ⟨[]⟩
def z6v : List SOp := [zF 15 84 2 1,zL 16 25 15,zF 17 84 3 1,zL 18 25 17,zO 19 (.call ⟨.value (.func 110),#[.tmp 16,.tmp 18],#[25,25]⟩),zG 4 19]
instance : Live z6v := ⟨[2,3]⟩
def t_k64 : SC :=
 (.seq (.ops false z71) (.seq (.seq (.ops false z6z) (.cond (.tmp 9) (.seq (.ops false z6y) .ret) .skip)) (.seq (.seq (.ops false z6x) (.cond (.tmp 14) (.seq (.ops false z6w) .ret) .skip)) (.seq (.ops false z6v) .ret))))
theorem it_k64 : FnIs Tryz.prog 64 20 [.tmp 4] t_k64 := ⟨Tryz.f64, _, Tryz.func64, rfl, rfl, rfl, rfl, by kernel_rfl⟩

def z01 : List SOp := [zO 1 (.box 84 (.tmp 0)),zO 2 (.assign (.const (.int .i64 0)))]
instance : Live z01 := ⟨[0]⟩
def z00 : List SOp := [zF 3 84 1 0,zL 4 9 3,zO 5 (.binOp .neq 9 (.tmp 4) (.const (.string ⟨#[]⟩)) 9),zM 6 5,⟨some 7,.fieldAddr 84 (.tmp 1) 0,some ((some 6),true)⟩,⟨some 8,.load 9 (.tmp 7),some ((some 6),true)⟩,⟨some 9,.call ⟨.value (.func 124),#[.tmp 8],#[9]⟩,some ((some 6),true)⟩,⟨some 10,.unOp .not 4 (.tmp 9),some ((some 6),true)⟩,zO 11 (.pick (.tmp 6) (.tmp 10) (.const (.bool false)))]
instance : Live z00 := ⟨[1]⟩
def qzz : List SOp := [zO 2 (.assign (.const (.int .i64 5)))]
instance : Live qzz := ⟨[]⟩
def qzy : List SOp := [zF 12 84 1 1,zL 13 25 12,zO 14 (.call ⟨.value (.func 45),#[.tmp 13],#[25]⟩),zO 15 (.unOp .not 4 (.tmp 14)),zM 16 15,⟨some 17,.fieldAddr 84 (.tmp 1) 1,some ((some 16),false)⟩,⟨some 18,.load 25 (.tmp 17),some ((some 16),false)⟩,⟨some 19,.call ⟨.value (.func 127),#[.tmp 18],#[25]⟩,some ((some 16),false)⟩,zO 20 (.pick (.tmp 16) (.const (.bool true)) (.tmp 19))]
instance : Live qzy := ⟨[1]⟩
def qzx : List SOp := [zO 2 (.assign (.const (.int .i64 1)))]
instance : Live qzx := ⟨[]⟩
def qzw : List SOp := [zO 2 (.assign (.const (.int .i64 0)))]
instance : Live qzw := ⟨[]⟩
def t_k100 : SC :=
 (.seq (.ops false z01) (.seq (.seq (.ops false z00) (.cond (.tmp 11) (.seq (.ops false qzz) .ret) .skip)) (.seq (.seq (.ops false qzy) (.cond (.tmp 20) (.seq (.ops false qzx) .ret) .skip)) (.seq (.ops false qzw) .ret))))
theorem it_k100 : FnIs Tryz.prog 100 21 [.tmp 2] t_k100 := ⟨Tryz.f100, _, Tryz.func100, rfl, rfl, rfl, rfl, by kernel_rfl⟩

def z79 : List SOp := [zO 1 (.box 84 (.tmp 0)),zO 2 (.assign (.const (.int .i64 0)))]
instance : Live z79 := ⟨[0]⟩
def z78 : List SOp := [zF 3 84 1 0,zL 4 9 3,zO 5 (.binOp .neq 9 (.tmp 4) (.const (.string ⟨#[]⟩)) 9),zM 6 5,⟨some 7,.fieldAddr 84 (.tmp 1) 0,some ((some 6),true)⟩,⟨some 8,.load 9 (.tmp 7),some ((some 6),true)⟩,⟨some 9,.call ⟨.value (.func 52),#[.tmp 8],#[9]⟩,some ((some 6),true)⟩,⟨some 10,.unOp .not 4 (.tmp 9),some ((some 6),true)⟩,zO 11 (.pick (.tmp 6) (.tmp 10) (.const (.bool false)))]
instance : Live z78 := ⟨[1]⟩
def z75 : List SOp := [zO 2 (.assign (.const (.int .i64 5)))]
instance : Live z75 := ⟨[]⟩
def z74 : List SOp := [zF 12 84 1 1,zL 13 25 12,zO 14 (.call ⟨.value (.func 22),#[.tmp 13],#[25]⟩),zO 15 (.unOp .not 4 (.tmp 14)),zM 16 15,⟨some 17,.fieldAddr 84 (.tmp 1) 1,some ((some 16),false)⟩,⟨some 18,.load 25 (.tmp 17),some ((some 16),false)⟩,⟨some 19,.call ⟨.value (.func 109),#[.tmp 18],#[25]⟩,some ((some 16),false)⟩,zO 20 (.pick (.tmp 16) (.const (.bool true)) (.tmp 19))]
instance : Live z74 := ⟨[1]⟩
def z73 : List SOp := [zO 2 (.assign (.const (.int .i64 1)))]
instance : Live z73 := ⟨[]⟩
def z72 : List SOp := [zO 2 (.assign (.const (.int .i64 0)))]
instance : Live z72 := ⟨[]⟩
def t_k63 : SC :=
 (.seq (.ops false z79) (.seq (.seq (.ops false z78) (.cond (.tmp 11) (.seq (.ops false z75) .ret) .skip)) (.seq (.seq (.ops false z74) (.cond (.tmp 20) (.seq (.ops false z73) .ret) .skip)) (.seq (.ops false z72) .ret))))
theorem it_k63 : FnIs Tryz.prog 63 21 [.tmp 2] t_k63 := ⟨Tryz.f63, _, Tryz.func63, rfl, rfl, rfl, rfl, by kernel_rfl⟩

def z84 : List SOp := [zO 2 (.assign (.const (.int .i64 0)))]
instance : Live z84 := ⟨[0]⟩
def z83 : List SOp := [zM 5 0,zO 6 (.call ⟨.builtin .len,#[.tmp 5],#[27]⟩),zO 7 (.move (.const (.int .i64 0)))]
instance : Live z83 := ⟨[0]⟩
def z82 : List SOp := [zO 8 (.binOp .lss 3 (.tmp 7) (.tmp 6) 3)]
instance : Live z82 := ⟨[0,5,6,7]⟩
def z81 : List SOp := [zM 9 7,zI 10 27 5 7,zL 11 84 10,zO 4 (.alloc 84),zG 3 9,⟨none,.store 84 (.tmp 4) (.tmp 11),none⟩]
instance : Live z81 := ⟨[0,5,6,7]⟩
def z80 : List SOp := [zL 12 84 4,zO 13 (.call ⟨.value (.func 100),#[.tmp 12],#[84]⟩),zO 14 (.binOp .neq 35 (.tmp 13) (.const (.int .i64 0)) 35),zM 15 14,⟨some 16,.move (.tmp 3),some ((some 15),false)⟩,⟨some 17,.binOp .gtr 3 (.tmp 16) (.const (.int .i64 0)) 3,some ((some 15),false)⟩,⟨some 18,.move (.tmp 17),some ((some 15),false)⟩,⟨some 19,.move (.tmp 0),some ((some 18),true)⟩,⟨some 20,.move (.tmp 3),some ((some 18),true)⟩,⟨some 21,.binOp .sub 3 (.tmp 20) (.const (.int .i64 1)) 3,some ((some 18),true)⟩,⟨some 22,.indexAddr 27 (.tmp 19) (.tmp 21),some ((some 18),true)⟩,⟨some 23,.load 84 (.tmp 22),some ((some 18),true)⟩,⟨some 24,.load 84 (.tmp 4),some ((some 18),true)⟩,⟨some 25,.call ⟨.value (.func 101),#[.tmp 23,.tmp 24],#[84,84]⟩,some ((some 18),true)⟩,⟨some 26,.binOp .geq 3 (.tmp 25) (.const (.int .i64 0)) 3,some ((some 18),true)⟩,⟨some 27,.pick (.tmp 18) (.tmp 26) (.const (.bool false)),some ((some 15),false)⟩,zO 28 (.pick (.tmp 15) (.const (.bool true)) (.tmp 27))]
instance : Live z80 := ⟨[0,3,4,5,6,7]⟩
def z7z : List SOp := [zO 2 (.assign (.const (.int .i64 1)))]
instance : Live z7z := ⟨[]⟩
def z7y : List SOp := [zO 29 (.binOp .add 3 (.tmp 7) (.const (.int .i64 1)) 3),zM 7 29]
instance : Live z7y := ⟨[0,5,6,7]⟩
def z7x : List SOp := [zO 2 (.assign (.const (.int .i64 0)))]
instance : Live z7x := ⟨[]⟩
def qp8 : SC :=
 (.seq (.ops false z82) (.seq (.cond (.tmp 8) .skip (.exit 0)) (.seq (.block 1 (.seq (.ops false z81) (.seq (.ops true z80) (.cond (.tmp 28) (.seq (.ops false z7z) .ret) .skip)))) (.ops false z7y))))
def t_k57 : SC :=
 (.seq (.ops false z84) (.seq (.seq (.ops false z83) (.block 0 (.loop qp8))) (.seq (.ops false z7x) .ret)))
theorem it_k57 : FnIs Tryz.prog 57 30 [.tmp 2] t_k57 := ⟨Tryz.f57, _, Tryz.func57, rfl, rfl, rfl, rfl, by kernel_rfl⟩

def zaq : List SOp := [zO 2 (.assign (.const (.int .i64 0)))]
instance : Live zaq := ⟨[0]⟩
def zap : List SOp := [zO 3 (.assign (.const (.int .i64 0)))]
instance : Live zap := ⟨[0]⟩
def zao : List SOp := [zM 4 3,zM 5 0,zO 6 (.call ⟨.builtin .len,#[.tmp 5],#[27]⟩),zO 7 (.binOp .lss 3 (.tmp 4) (.tmp 6) 3)]
instance : Live zao := ⟨[0,3]⟩
def zan : List SOp := [zM 10 0,zM 11 3,zI 12 27 10 11,zL 13 84 12,zO 14 (.call ⟨.value (.func 63),#[.tmp 13],#[84]⟩),zO 15 (.binOp .neq 35 (.tmp 14) (.const (.int .i64 0)) 35)]
instance : Live zan := ⟨[0,3]⟩
def zam : List SOp := [zO 2 (.assign (.const (.int .i64 1)))]
instance : Live zam := ⟨[]⟩
def zal : List SOp := [zM 16 3,zO 17 (.binOp .gtr 3 (.tmp 16) (.const (.int .i64 0)) 3),zM 18 17,⟨some 19,.move (.tmp 0),some ((some 18),true)⟩,⟨some 20,.move (.tmp 3),some ((some 18),true)⟩,⟨some 21,.binOp .sub 3 (.tmp 20) (.const (.int .i64 1)) 3,some ((some 18),true)⟩,⟨some 22,.indexAddr 27 (.tmp 19) (.tmp 21),some ((some 18),true)⟩,⟨some 23,.load 84 (.tmp 22),some ((some 18),true)⟩,⟨some 24,.move (.tmp 0),some ((some 18),true)⟩,⟨some 25,.move (.tmp 3),some ((some 18),true)⟩,⟨some 26,.indexAddr 27 (.tmp 24) (.tmp 25),some ((some 18),true)⟩,⟨some 27,.load 84 (.tmp 26),some ((some 18),true)⟩,⟨some 28,.call ⟨.value (.func 64),#[.tmp 23,.tmp 27],#[84,84]⟩,some ((some 18),true)⟩,⟨some 29,.binOp .geq 3 (.tmp 28) (.const (.int .i64 0)) 3,some ((some 18),true)⟩,zO 30 (.pick (.tmp 18) (.tmp 29) (.const (.bool false)))]
instance : Live zal := ⟨[0,3]⟩
def zak : List SOp := [zO 2 (.assign (.const (.int .i64 1)))]
instance : Live zak := ⟨[]⟩
def zaj : List SOp := [zM 8 3,zO 9 (.binOp .add 3 (.tmp 8) (.const (.int .i64 1)) 3),zG 3 9]
instance : Live zaj := ⟨[0,3]⟩
def zai : List SOp := [zO 2 (.assign (.const (.int .i64 0)))]
instance : Live zai := ⟨[]⟩
def qpi : SC :=
 (.seq (.seq (.ops false zao) (.cond (.tmp 7) .skip (.exit 0))) (.seq (.block 1 (.seq (.seq (.ops false zan) (.cond (.tmp 15) (.seq (.ops false zam) .ret) .skip)) (.seq (.ops true zal) (.cond (.tmp 30) (.seq (.ops false zak) .ret) .skip)))) (.ops false zaj)))
def t_k25 : SC :=
 (.seq (.ops false zaq) (.seq (.seq (.ops false zap) (.block 0 (.loop qpi))) (.seq (.ops false zai) .ret)))
theorem it_k25 : FnIs Tryz.prog 25 31 [.tmp 2] t_k25 := ⟨Tryz.f25, _, Tryz.func25, rfl, rfl, rfl, rfl, by kernel_rfl⟩

def z4p : List SOp := [zO 1 (.box 45 (.tmp 0)),zO 2 (.assign (.const (.int .i64 0)))]
instance : Live z4p := ⟨[0]⟩
def z4o : List SOp := [zF 4 45 1 0,zF 5 43 4 0,zL 6 3 5,zO 7 (.binOp .lss 3 (.tmp 6) (.const (.int .i64 0)) 3),zM 8 7,⟨some 9,.fieldAddr 45 (.tmp 1) 0,some ((some 8),false)⟩,⟨some 10,.fieldAddr 43 (.tmp 9) 0,some ((some 8),false)⟩,⟨some 11,.load 3 (.tmp 10),some ((some 8),false)⟩,⟨some 12,.binOp .geq 3 (.tmp 11) (.const (.int .i64 16)) 3,some ((some 8),false)⟩,zO 13 (.pick (.tmp 8) (.const (.bool true)) (.tmp 12)),zG 3 13]
instance : Live z4o := ⟨[1]⟩
def z4n : List SOp := [zO 2 (.assign (.const (.int .i64 3)))]
instance : Live z4n := ⟨[]⟩
def z4m : List SOp := [zF 15 45 1 0,zF 16 43 15 1,zL 17 3 16,zO 18 (.binOp .lss 3 (.tmp 17) (.const (.int .i64 1)) 3),zM 19 18,⟨some 20,.fieldAddr 45 (.tmp 1) 0,some ((some 19),false)⟩,⟨some 21,.fieldAddr 43 (.tmp 20) 1,some ((some 19),false)⟩,⟨some 22,.load 3 (.tmp 21),some ((some 19),false)⟩,⟨some 23,.binOp .gtr 3 (.tmp 22) (.const (.int .i64 1000000000)) 3,some ((some 19),false)⟩,zO 24 (.pick (.tmp 19) (.const (.bool true)) (.tmp 23)),zG 14 24]
instance : Live z4m := ⟨[1]⟩
def z4l : List SOp := [zO 2 (.assign (.const (.int .i64 2)))]
instance : Live z4l := ⟨[]⟩
def z4k : List SOp := [zF 26 45 1 1,zL 27 9 26,zO 28 (.call ⟨.value (.func 124),#[.tmp 27],#[9]⟩),zO 29 (.unOp .not 4 (.tmp 28)),zG 25 29]
instance : Live z4k := ⟨[1]⟩
def z4j : List SOp := [zO 2 (.assign (.const (.int .i64 5)))]
instance : Live z4j := ⟨[]⟩
def z4i : List SOp := [zF 31 45 1 2,zL 32 3 31,zO 33 (.binOp .lss 3 (.tmp 32) (.const (.int .i64 1)) 3),zM 34 33,⟨some 35,.fieldAddr 45 (.tmp 1) 2,some ((some 34),false)⟩,⟨some 36,.load 3 (.tmp 35),some ((some 34),false)⟩,⟨some 37,.binOp .gtr 3 (.tmp 36) (.const (.int .i64 1000000)) 3,some ((some 34),false)⟩,zO 38 (.pick (.tmp 34) (.const (.bool true)) (.tmp 37)),zG 30 38]
instance : Live z4i := ⟨[1]⟩
def z4h : List SOp := [zO 2 (.assign (.const (.int .i64 6)))]
instance : Live z4h := ⟨[]⟩
def qq2 : List SOp := [zO 2 (.assign (.const (.int .i64 0)))]
instance : Live qq2 := ⟨[]⟩
def t_k95 : SC :=
 (.seq (.ops false z4p) (.seq (.block 0 (.seq (.ops false z4o) (.cond (.tmp 3) (.seq (.ops false z4n) .ret) (.seq (.ops false z4m) (.cond (.tmp 14) (.seq (.ops false z4l) .ret) (.seq (.ops false z4k) (.cond (.tmp 25) (.seq (.ops false z4j) .ret) (.seq (.ops false z4i) (.cond (.tmp 30) (.seq (.ops false z4h) .ret) .skip))))))))) (.seq (.ops false qq2) .ret)))
theorem it_k95 : FnIs Tryz.prog 95 39 [.tmp 2] t_k95 := ⟨Tryz.f95, _, Tryz.func95, rfl, rfl, rfl, rfl, by kernel_rfl⟩

def z4g : List SOp := [zO 2 (.box 43 (.tmp 0)),zO 3 (.box 43 (.tmp 1)),zO 4 (.assign (.const (.bool false)))]
instance : Live z4g := ⟨[0,1]⟩
def z4f : List SOp := [zF 5 43 2 0,zL 6 3 5,zF 7 43 3 0,zL 8 3 7,zO 9 (.binOp .lss 3 (.tmp 6) (.tmp 8) 3),zM 10 9,⟨some 11,.fieldAddr 43 (.tmp 2) 0,some ((some 10),false)⟩,⟨some 12,.load 3 (.tmp 11),some ((some 10),false)⟩,⟨some 13,.fieldAddr 43 (.tmp 3) 0,some ((some 10),false)⟩,⟨some 14,.load 3 (.tmp 13),some ((some 10),false)⟩,⟨some 15,.binOp .eql 3 (.tmp 12) (.tmp 14) 3,some ((some 10),false)⟩,⟨some 16,.move (.tmp 15),some ((some 10),false)⟩,⟨some 17,.fieldAddr 43 (.tmp 2) 1,some ((some 16),true)⟩,⟨some 18,.load 3 (.tmp 17),some ((some 16),true)⟩,⟨some 19,.fieldAddr 43 (.tmp 3) 1,some ((some 16),true)⟩,⟨some 20,.load 3 (.tmp 19),some ((some 16),true)⟩,⟨some 21,.binOp .lss 3 (.tmp 18) (.tmp 20) 3,some ((some 16),true)⟩,⟨some 22,.pick (.tmp 16) (.tmp 21) (.const (.bool false)),some ((some 10),false)⟩,zO 23 (.pick (.tmp 10) (.const (.bool true)) (.tmp 22)),zG 4 23]
instance : Live z4f := ⟨[2,3]⟩
def t_k96 : SC :=
 (.seq (.ops false z4g) (.seq (.ops false z4f) .ret))
theorem it_k96 : FnIs Tryz.prog 96 24 [.tmp 4] t_k96 := ⟨Tryz.f96, _, Tryz.func96, rfl, rfl, rfl, rfl, by kernel_rfl⟩

def z8o : List SOp := [zO 2 (.assign (.const (.int .i64 0)))]
instance : Live z8o := ⟨[0]⟩
def z8n : List SOp := [zM 5 0,zO 6 (.call ⟨.builtin .len,#[.tmp 5],#[26]⟩),zO 7 (.move (.const (.int .i64 0)))]
instance : Live z8n := ⟨[0]⟩
def z8m : List SOp := [zO 8 (.binOp .lss 3 (.tmp 7) (.tmp 6) 3)]
instance : Live z8m := ⟨[0,5,6,7]⟩
def z8l : List SOp := [zM 9 7,zI 10 26 5 7,zL 11 45 10,zO 4 (.alloc 45),zG 3 9,⟨none,.store 45 (.tmp 4) (.tmp 11),none⟩]
instance : Live z8l := ⟨[0,5,6,7]⟩
def z8k : List SOp := [zL 12 45 4,zO 13 (.call ⟨.value (.func 95),#[.tmp 12],#[45]⟩),zO 14 (.binOp .neq 35 (.tmp 13) (.const (.int .i64 0)) 35),zM 15 14,⟨some 16,.move (.tmp 3),some ((some 15),false)⟩,⟨some 17,.binOp .gtr 3 (.tmp 16) (.const (.int .i64 0)) 3,some ((some 15),false)⟩,⟨some 18,.move (.tmp 17),some ((some 15),false)⟩,⟨some 19,.move (.tmp 0),some ((some 18),true)⟩,⟨some 20,.move (.tmp 3),some ((some 18),true)⟩,⟨some 21,.binOp .sub 3 (.tmp 20) (.const (.int .i64 1)) 3,some ((some 18),true)⟩,⟨some 22,.indexAddr 26 (.tmp 19) (.tmp 21),some ((some 18),true)⟩,⟨some 23,.fieldAddr 45 (.tmp 22) 0,some ((some 18),true)⟩,⟨some 24,.load 43 (.tmp 23),some ((some 18),true)⟩,⟨some 25,.fieldAddr 45 (.tmp 4) 0,some ((some 18),true)⟩,⟨some 26,.load 43 (.tmp 25),some ((some 18),true)⟩,⟨some 27,.call ⟨.value (.func 96),#[.tmp 24,.tmp 26],#[43,43]⟩,some ((some 18),true)⟩,⟨some 28,.unOp .not 4 (.tmp 27),some ((some 18),true)⟩,⟨some 29,.pick (.tmp 18) (.tmp 28) (.const (.bool false)),some ((some 15),false)⟩,zO 30 (.pick (.tmp 15) (.const (.bool true)) (.tmp 29))]
instance : Live z8k := ⟨[0,3,4,5,6,7]⟩
def z8j : List SOp := [zO 2 (.assign (.const (.int .i64 1)))]
instance : Live z8j := ⟨[]⟩
def z8i : List SOp := [zO 31 (.binOp .add 3 (.tmp 7) (.const (.int .i64 1)) 3),zM 7 31]
instance : Live z8i := ⟨[0,5,6,7]⟩
def z8h : List SOp := [zO 2 (.assign (.const (.int .i64 0)))]
instance : Live z8h := ⟨[]⟩
def qpa : SC :=
 (.seq (.ops false z8m) (.seq (.cond (.tmp 8) .skip (.exit 0)) (.seq (.block 1 (.seq (.ops false z8l) (.seq (.ops true z8k) (.cond (.tmp 30) (.seq (.ops false z8j) .ret) .skip)))) (.ops false z8i))))
def t_k49 : SC :=
 (.seq (.ops false z8o) (.seq (.seq (.ops false z8n) (.block 0 (.loop qpa))) (.seq (.ops false z8h) .ret)))
theorem it_k49 : FnIs Tryz.prog 49 32 [.tmp 2] t_k49 := ⟨Tryz.f49, _, Tryz.func49, rfl, rfl, rfl, rfl, by kernel_rfl⟩

def z8g : List SOp := [zO 1 (.box 43 (.tmp 0)),zO 2 (.assign (.const (.bool false)))]
instance : Live z8g := ⟨[0]⟩
def z8f : List SOp := [zF 3 43 1 0,zL 4 3 3,zO 5 (.binOp .geq 3 (.tmp 4) (.const (.int .i64 0)) 3),zM 6 5,⟨some 7,.fieldAddr 43 (.tmp 1) 0,some ((some 6),true)⟩,⟨some 8,.load 3 (.tmp 7),some ((some 6),true)⟩,⟨some 9,.binOp .lss 3 (.tmp 8) (.const (.int .i64 16)) 3,some ((some 6),true)⟩,zO 10 (.pick (.tmp 6) (.tmp 9) (.const (.bool false))),zM 11 10,⟨some 12,.fieldAddr 43 (.tmp 1) 1,some ((some 11),true)⟩,⟨some 13,.load 3 (.tmp 12),some ((some 11),true)⟩,⟨some 14,.binOp .geq 3 (.tmp 13) (.const (.int .i64 1)) 3,some ((some 11),true)⟩,zO 15 (.pick (.tmp 11) (.tmp 14) (.const (.bool false))),zM 16 15,⟨some 17,.fieldAddr 43 (.tmp 1) 1,some ((some 16),true)⟩,⟨some 18,.load 3 (.tmp 17),some ((some 16),true)⟩,⟨some 19,.binOp .leq 3 (.tmp 18) (.const (.int .i64 1000000000)) 3,some ((some 16),true)⟩,zO 20 (.pick (.tmp 16) (.tmp 19) (.const (.bool false))),zG 2 20]
instance : Live z8f := ⟨[1]⟩
def t_k51 : SC :=
 (.seq (.ops false z8g) (.seq (.ops false z8f) .ret))
theorem it_k51 : FnIs Tryz.prog 51 21 [.tmp 2] t_k51 := ⟨Tryz.f51, _, Tryz.func51, rfl, rfl, rfl, rfl, by kernel_rfl⟩

def zb2 : List SOp := [zO 1 (.box 25 (.tmp 0)),zO 2 (.assign (.const (.bool false)))]
instance : Live zb2 := ⟨[0]⟩
def zb1 : List SOp := [zL 3 25 1,zL 4 25 1,zO 5 (.call ⟨.value (.func 11),#[.tmp 4],#[25]⟩),zO 6 (.call ⟨.value (.func 14),#[.tmp 3,.tmp 5],#[25,25]⟩),zG 2 6]
instance : Live zb1 := ⟨[1]⟩
def t_k22 : SC :=
 (.seq (.ops false zb2) (.seq (.ops true zb1) .ret))
theorem it_k22 : FnIs Tryz.prog 22 7 [.tmp 2] t_k22 := ⟨Tryz.f22, _, Tryz.func22, rfl, rfl, rfl, rfl, by kernel_rfl⟩

def z8b : List SOp := [zO 2 (.box 43 (.tmp 0)),zO 3 (.box 43 (.tmp 1)),zO 4 (.assign (.const (.bool false)))]
instance : Live z8b := ⟨[0,1]⟩
def z8a : List SOp := [zF 5 43 2 0,zL 6 3 5,zF 7 43 3 0,zL 8 3 7,zO 9 (.binOp .lss 3 (.tmp 6) (.tmp 8) 3),zM 10 9,⟨some 11,.fieldAddr 43 (.tmp 2) 0,some ((some 10),false)⟩,⟨some 12,.load 3 (.tmp 11),some ((some 10),false)⟩,⟨some 13,.fieldAddr 43 (.tmp 3) 0,some ((some 10),false)⟩,⟨some 14,.load 3 (.tmp 13),some ((some 10),false)⟩,⟨some 15,.binOp .eql 3 (.tmp 12) (.tmp 14) 3,some ((some 10),false)⟩,⟨some 16,.move (.tmp 15),some ((some 10),false)⟩,⟨some 17,.fieldAddr 43 (.tmp 2) 1,some ((some 16),true)⟩,⟨some 18,.load 3 (.tmp 17),some ((some 16),true)⟩,⟨some 19,.fieldAddr 43 (.tmp 3) 1,some ((some 16),true)⟩,⟨some 20,.load 3 (.tmp 19),some ((some 16),true)⟩,⟨some 21,.binOp .lss 3 (.tmp 18) (.tmp 20) 3,some ((some 16),true)⟩,⟨some 22,.pick (.tmp 16) (.tmp 21) (.const (.bool false)),some ((some 10),false)⟩,zO 23 (.pick (.tmp 10) (.const (.bool true)) (.tmp 22)),zG 4 23]
instance : Live z8a := ⟨[2,3]⟩
def t_k53 : SC :=
 (.seq (.ops false z8b) (.seq (.ops false z8a) .ret))
theorem it_k53 : FnIs Tryz.prog 53 24 [.tmp 4] t_k53 := ⟨Tryz.f53, _, Tryz.func53, rfl, rfl, rfl, rfl, by kernel_rfl⟩

def zbk : List SOp := [zO 2 (.assign (.const (.bool false)))]
instance : Live zbk := ⟨[0]⟩
def zbj : List SOp := [zO 3 (.assign (.const (.int .i64 0)))]
instance : Live zbj := ⟨[0]⟩
def zbi : List SOp := [zM 4 3,zM 5 0,zO 6 (.call ⟨.builtin .len,#[.tmp 5],#[26]⟩),zO 7 (.binOp .lss 3 (.tmp 4) (.tmp 6) 3)]
instance : Live zbi := ⟨[0,3]⟩
def zbh : List SOp := [zM 10 0,zM 11 3,zI 12 26 10 11,zF 13 45 12 0,zL 14 43 13,zO 15 (.call ⟨.value (.func 51),#[.tmp 14],#[43]⟩),zO 16 (.unOp .not 4 (.tmp 15)),zM 17 16,⟨some 18,.move (.tmp 0),some ((some 17),false)⟩,⟨some 19,.move (.tmp 3),some ((some 17),false)⟩,⟨some 20,.indexAddr 26 (.tmp 18) (.tmp 19),some ((some 17),false)⟩,⟨some 21,.fieldAddr 45 (.tmp 20) 1,some ((some 17),false)⟩,⟨some 22,.load 9 (.tmp 21),some ((some 17),false)⟩,⟨some 23,.call ⟨.value (.func 52),#[.tmp 22],#[9]⟩,some ((some 17),false)⟩,⟨some 24,.unOp .not 4 (.tmp 23),some ((some 17),false)⟩,zO 25 (.pick (.tmp 17) (.const (.bool true)) (.tmp 24)),zM 26 25,⟨some 27,.move (.tmp 0),some ((some 26),false)⟩,⟨some 28,.move (.tmp 3),some ((some 26),false)⟩,⟨some 29,.indexAddr 26 (.tmp 27) (.tmp 28),some ((some 26),false)⟩,⟨some 30,.fieldAddr 45 (.tmp 29) 2,some ((some 26),false)⟩,⟨some 31,.load 3 (.tmp 30),some ((some 26),false)⟩,⟨some 32,.binOp .lss 3 (.tmp 31) (.const (.int .i64 1)) 3,some ((some 26),false)⟩,zO 33 (.pick (.tmp 26) (.const (.bool true)) (.tmp 32)),zM 34 33,⟨some 35,.move (.tmp 0),some ((some 34),false)⟩,⟨some 36,.move (.tmp 3),some ((some 34),false)⟩,⟨some 37,.indexAddr 26 (.tmp 35) (.tmp 36),some ((some 34),false)⟩,⟨some 38,.fieldAddr 45 (.tmp 37) 2,some ((some 34),false)⟩,⟨some 39,.load 3 (.tmp 38),some ((some 34),false)⟩,⟨some 40,.binOp .gtr 3 (.tmp 39) (.const (.int .i64 1000000)) 3,some ((some 34),false)⟩,zO 41 (.pick (.tmp 34) (.const (.bool true)) (.tmp 40))]
instance : Live zbh := ⟨[0,3]⟩
def zbg : List SOp := [zO 2 (.assign (.const (.bool false)))]
instance : Live zbg := ⟨[]⟩
def zbf : List SOp := [zM 42 3,zO 43 (.binOp .gtr 3 (.tmp 42) (.const (.int .i64 0)) 3),zM 44 43,⟨some 45,.move (.tmp 0),some ((some 44),true)⟩,⟨some 46,.move (.tmp 3),some ((some 44),true)⟩,⟨some 47,.binOp .sub 3 (.tmp 46) (.const (.int .i64 1)) 3,some ((some 44),true)⟩,⟨some 48,.indexAddr 26 (.tmp 45) (.tmp 47),some ((some 44),true)⟩,⟨some 49,.fieldAddr 45 (.tmp 48) 0,some ((some 44),true)⟩,⟨some 50,.load 43 (.tmp 49),some ((some 44),true)⟩,⟨some 51,.move (.tmp 0),some ((some 44),true)⟩,⟨some 52,.move (.tmp 3),some ((some 44),true)⟩,⟨some 53,.indexAddr 26 (.tmp 51) (.tmp 52),some ((some 44),true)⟩,⟨some 54,.fieldAddr 45 (.tmp 53) 0,some ((some 44),true)⟩,⟨some 55,.load 43 (.tmp 54),some ((some 44),true)⟩,⟨some 56,.call ⟨.value (.func 53),#[.tmp 50,.tmp 55],#[43,43]⟩,some ((some 44),true)⟩,⟨some 57,.unOp .not 4 (.tmp 56),some ((some 44),true)⟩,zO 58 (.pick (.tmp 44) (.tmp 57) (.const (.bool false)))]
instance : Live zbf := ⟨[0,3]⟩
def zbe : List SOp := [zO 2 (.assign (.const (.bool false)))]
instance : Live zbe := ⟨[]⟩
def zbd : List SOp := [zM 8 3,zO 9 (.binOp .add 3 (.tmp 8) (.const (.int .i64 1)) 3),zG 3 9]
instance : Live zbd := ⟨[0,3]⟩
def zbc : List SOp := [zO 2 (.assign (.const (.bool true)))]
instance : Live zbc := ⟨[]⟩
def qpk : SC :=
 (.seq (.seq (.ops false zbi) (.cond (.tmp 7) .skip (.exit 0))) (.seq (.block 1 (.seq (.seq (.ops false zbh) (.cond (.tmp 41) (.seq (.ops false zbg) .ret) .skip)) (.seq (.ops true zbf) (.cond (.tmp 58) (.seq (.ops false zbe) .ret) .skip)))) (.ops false zbd)))
def t_k16 : SC :=
 (.seq (.ops false zbk) (.seq (.seq (.ops false zbj) (.block 0 (.loop qpk))) (.seq (.ops false zbc) .ret)))
theorem it_k16 : FnIs Tryz.prog 16 59 [.tmp 2] t_k16 := ⟨Tryz.f16, _, Tryz.func16, rfl, rfl, rfl, rfl, by kernel_rfl⟩

theorem hook_cmp {P : Program} {f : FuncId} {fn : Func} (hf : P.funcs[f]? = some fn) (h1 : (fn.name = "runtime.NumGoroutine") = False) (h2 : (fn.body = none) = True) (h3 : Extern.findNext fn = none) (h4 : Extern.find fn = some Extern.BytealgCompare.compare) {s : AS} {x y : Operand} {ts : Array TypeId} {a b : ByteArray} (hx : ev s.T x = .str a) (hy : ev s.T y = .str b) :
 Hook P s (.call ⟨.value (.func f), #[x, y], ts⟩) (fun v M' => M' = s.M ∧ v = .int .i64 (qml a b)) := by
 intro n B G act w hR o ho K Q hK
 have q1 := hR.ev x
 have q2 := hR.ev y
 rw [hx] at q1
 rw [hy] at q2
 generalize hxv : act.eval x = xv at q1
 generalize hyv : act.eval y = yv at q2
 cases q1
 cases q2
 have hrun : (execOp act.eval o).run P w = .ok (.value (.int .i64 (qml a b))) w := by
  unfold execOp
  rw [ho]
  have hc := Go.Lib.run_compareString (P := P) a b w
  rw [q9z] at hc
  have hf0 : act.eval (.func f) = .func (.func f) #[] #[] := rfl
  simp [resolve, Deferred.ofValue, invoke, callFunc, hf, hf0, h1, h2, h3, h4, hxv, hyv, hc, Result.andThen, qml, bs]
 unfold Oper.wp
 rw [hrun]
 exact hK (.int .i64 (qml a b)) _ s.M w G ⟨rfl, rfl⟩ (.refl G w) hR (.int _ _)
theorem ev_k145 (a b : ByteArray) : Ev (En Tryz.prog rfl).P 145 [.str a, .str b] (.ret (.int .i64 (qml a b))) := by
 refine Ev.of_body it_k145 (by simp) (Run.start ?_)
 unfold t_k145
 (focus (have hF := True.intro; (repeat' (first | refine go1 (k:=?_) | with_reducible refine Ny.of ?_ ?_ | (refine Hyp.of ?_; intro hc; (try simp only [hc]); (try simp only [Bh] at hc)))); all_goals clear hF))
 refine q2e (hook_cmp (f := 156) (fn := Tryz.f156) Tryz.func156 (eq_false (by decide)) (eq_true rfl) rfl rfl rfl rfl) ?_
 rintro v M' ⟨rfl, rfl⟩
 dsimp only [AS.put]
 (focus (have hF := True.intro; (repeat' (first | refine go1 (k:=?_) | with_reducible refine Ny.of ?_ ?_ | (refine Hyp.of ?_; intro hc; (try simp only [hc]); (try simp only [Bh] at hc)))); all_goals clear hF))
 exact Fin.tmp' rfl rfl
theorem ev_k128 (a b : ByteArray) : Ev (En Tryz.prog rfl).P 128 [.str a, .str b] (.ret (.int .i64 (qml a b))) := by
 refine Ev.of_body it_k128 (by simp) (Run.start ?_)
 unfold t_k128
 (focus (have hF := True.intro; (repeat' (first | refine go1 (k:=?_) | with_reducible refine Ny.of ?_ ?_ | (refine Hyp.of ?_; intro hc; (try simp only [hc]); (try simp only [Bh] at hc)))); all_goals clear hF))
 refine q05 [.str a, .str b] (he := ev_k145 a b) (k:=?_)
 (focus (have hF := True.intro; (repeat' (first | refine go1 (k:=?_) | with_reducible refine Ny.of ?_ ?_ | (refine Hyp.of ?_; intro hc; (try simp only [hc]); (try simp only [Bh] at hc)))); all_goals clear hF))
 exact Fin.tmp' rfl rfl
theorem ev_k101 (a b : Rec) (ha : wt a.past ≤ 50000000) (hb : wt b.past ≤ 50000000) : Ev (En Tryz.prog rfl).P 101 [qat a, qat b] (.ret (.int .i64 (qlt a b))) := by
 refine Ev.of_body it_k101 (by simp) (Run.start ?_)
 unfold t_k101 qat qlt
 have c1 := ev_k128 a.sku b.sku
 have c2 := ev_k129 a.past b.past ha hb
 generalize qml a.sku b.sku = v at c1 ⊢
 (focus (have hF := True.intro; (repeat' (first | refine go1 (k:=?_) | with_reducible refine Ny.of ?_ ?_ | (refine Hyp.of ?_; intro hc; (try simp only [hc]); (try simp only [Bh] at hc)))); all_goals clear hF))
 refine q05 [.str a.sku, .str b.sku] (he := c1) (k:=?_)
 by_cases h : v = 0
 ·rw [if_pos h]
  (focus (have hF := @h; (repeat' (first | refine go1 (k:=?_) | with_reducible refine Ny.of ?_ ?_ | (refine Hyp.of ?_; intro hc; (try simp only [hc]); (try simp only [Bh] at hc)))); all_goals clear hF))
  refine q05 [q10 a.past, q10 b.past] (he := c2) (k:=?_)
  (focus (have hF := True.intro; (repeat' (first | refine go1 (k:=?_) | with_reducible refine Ny.of ?_ ?_ | (refine Hyp.of ?_; intro hc; (try simp only [hc]); (try simp only [Bh] at hc)))); all_goals clear hF))
  exact Fin.tmp' rfl rfl
 ·rw [if_neg h]
  (focus (have hF := True.intro; (repeat' (first | refine go1 (k:=?_) | with_reducible refine Ny.of ?_ ?_ | (refine Hyp.of ?_; intro hc; (try simp only [hc]); (try simp only [Bh] at hc)))); all_goals clear hF))
  exact Fin.tmp' rfl rfl
theorem ev_k64 (a b : Rec) (ha : wt a.past ≤ 30000000) (hb : wt b.past ≤ 30000000) : Ev (En Tryz.prog rfl).P 64 [qat a, qat b] (.ret (.int .i64 (qlt a b))) := by
 refine Ev.of_body it_k64 (by simp) (Run.start ?_)
 unfold t_k64 qat qlt
 have c2 := ev_k110 a.past b.past ha hb
 have h1 := zea a.sku b.sku
 have hr : qml a.sku b.sku = -1 ∨ qml a.sku b.sku = 0 ∨ qml a.sku b.sku = 1 := qdm _ _
 have h0 : (a.sku = b.sku) = (qml a.sku b.sku = 0) := propext ze9.symm
 generalize qml a.sku b.sku = v at *
 rcases hr with rfl | rfl | rfl
 ·rw [if_neg (by decide)]
  rw [show decide ((-1 : Int) < 0) = true by decide] at h1
  (focus (have hF := @h1; (repeat' (first | refine go1 (k:=?_) | with_reducible refine Ny.of ?_ ?_ | (refine Hyp.of ?_; intro hc; (try simp only [hc]); (try simp only [Bh] at hc)))); all_goals clear hF))
  exact Fin.tmp' rfl rfl
 ·rw [if_pos rfl]
  rw [show decide ((0 : Int) < 0) = false by decide] at h1
  rw [show ((0 : Int) = 0) = True by simp] at h0
  (focus (have hF := (aI (aI @h1 (aI @h0 @Bool.not_true)) (aI @Bool.or_true (aI @Bool.false_or @decide_true))); (repeat' (first | refine go1 (k:=?_) | with_reducible refine Ny.of ?_ ?_ | (refine Hyp.of ?_; intro hc; (try simp only [hc]); (try simp only [Bh] at hc)))); all_goals clear hF))
  refine q05 [q10 a.past, q10 b.past] (he := c2) (k:=?_)
  (focus (have hF := True.intro; (repeat' (first | refine go1 (k:=?_) | with_reducible refine Ny.of ?_ ?_ | (refine Hyp.of ?_; intro hc; (try simp only [hc]); (try simp only [Bh] at hc)))); all_goals clear hF))
  exact Fin.tmp' rfl rfl
 ·rw [if_neg (by decide)]
  rw [show decide ((1 : Int) < 0) = false by decide] at h1
  rw [show ((1 : Int) = 0) = False by simp] at h0
  (focus (have hF := (aI (aI @h1 @h0) (aI @Bool.not_false (aI @Bool.or_false @decide_false))); (repeat' (first | refine go1 (k:=?_) | with_reducible refine Ny.of ?_ ?_ | (refine Hyp.of ?_; intro hc; (try simp only [hc]); (try simp only [Bh] at hc)))); all_goals clear hF))
  exact Fin.tmp' rfl rfl
theorem ql0 (p : Pst) : qmy p (q26 p) = q0o p := by
 refine bool_eq ?_
 rw [q5l]
 constructor
 ·intro h
  have : ∀ a b : Pst, a.vec = b.vec → a.cloud = b.cloud → a = b := fun a b u v => by cases a; cases b; simp at u v; rw [u, v]
  have h' := of_decide_eq_true h
  exact (this _ _ h'.1 h'.2).symm
 ·intro h
  have h' : q26 p = p := h
  rw [h']
  exact q6q ⟨rfl, rfl⟩
theorem ev_k22 (p : Pst) (hw : wt p ≤ 30000000) : Ev (En Tryz.prog rfl).P 22 [q10 p] (.ret (.bool (q0o p))) := by
 have c1 := zdw p (by omega)
 have w := q6u p
 have c2 := zds p (q26 p) (by unfold wt at *; omega) (by unfold wt at *; omega)
 rw [ql0] at c2
 refine Ev.of_body it_k22 (by simp) (Run.start ?_)
 unfold t_k22 q10
 (focus (have hF := True.intro; (repeat' (first | refine go1 (k:=?_) | with_reducible refine Ny.of ?_ ?_ | (refine Hyp.of ?_; intro hc; (try simp only [hc]); (try simp only [Bh] at hc)))); all_goals clear hF))
 refine q05 [q10 p] (he := c1) (k:=?_)
 (focus (have hF := True.intro; (repeat' (first | refine go1 (k:=?_) | with_reducible refine Ny.of ?_ ?_ | (refine Hyp.of ?_; intro hc; (try simp only [hc]); (try simp only [Bh] at hc)))); all_goals clear hF))
 refine q05 [q10 p, q10 (q26 p)] (he := c2) (k:=?_)
 (focus (have hF := True.intro; (repeat' (first | refine go1 (k:=?_) | with_reducible refine Ny.of ?_ ?_ | (refine Hyp.of ?_; intro hc; (try simp only [hc]); (try simp only [Bh] at hc)))); all_goals clear hF))
 exact Fin.tmp' rfl rfl
theorem qmq (s : ByteArray) : (s = (⟨#[]⟩ : ByteArray)) = (s.size = 0) := propext qbf
theorem ev_k100 (r : Rec) (hw : wt r.past ≤ 40000000) : Ev (En Tryz.prog rfl).P 100 [qat r] (.ret (.int .i64 (q3m r))) := by
 refine Ev.of_body it_k100 (by simp) (Run.start ?_)
 unfold t_k100 qat q3m
 have c1 := zdu r.sku
 have c2 := zdm r.past hw
 have c3 := ev_k127 r.past (by omega)
 have e := qmq r.sku
 generalize q4e r.sku = v1 at c1 ⊢
 generalize q0o r.past = v2 at c2 ⊢
 generalize q83 r.past = v3 at c3 ⊢
 have tail : ∀ (X : Prop), X → X := fun _ x => x
 by_cases h0 : r.sku.size = 0
 ·have h0' : (r.sku.size = 0) = True := eq_true h0
  simp only [h0', not_true_eq_false, false_and, if_false]
  rw [h0'] at e
  (focus (have hF := (aI @e (aI @decide_true @Bool.not_true)); (repeat' (first | refine go1 (k:=?_) | with_reducible refine Ny.of ?_ ?_ | (refine Hyp.of ?_; intro hc; (try simp only [hc]); (try simp only [Bh] at hc)))); all_goals clear hF))
  refine q05 [q10 r.past] (he := c2) (k:=?_)
  cases v2
  ·(focus (have hF := True.intro; (repeat' (first | refine go1 (k:=?_) | with_reducible refine Ny.of ?_ ?_ | (refine Hyp.of ?_; intro hc; (try simp only [hc]); (try simp only [Bh] at hc)))); all_goals clear hF))
   exact Fin.tmp' rfl rfl
  ·(focus (have hF := True.intro; (repeat' (first | refine go1 (k:=?_) | with_reducible refine Ny.of ?_ ?_ | (refine Hyp.of ?_; intro hc; (try simp only [hc]); (try simp only [Bh] at hc)))); all_goals clear hF))
   refine q05 [q10 r.past] (he := c3) (k:=?_)
   by_cases h3 : v3 = 0
   ·(focus (have hF := @h3; (repeat' (first | refine go1 (k:=?_) | with_reducible refine Ny.of ?_ ?_ | (refine Hyp.of ?_; intro hc; (try simp only [hc]); (try simp only [Bh] at hc)))); all_goals clear hF))
    simp only [h3, or_true, if_true]
    exact Fin.tmp' rfl rfl
   ·(focus (have hF := @h3; (repeat' (first | refine go1 (k:=?_) | with_reducible refine Ny.of ?_ ?_ | (refine Hyp.of ?_; intro hc; (try simp only [hc]); (try simp only [Bh] at hc)))); all_goals clear hF))
    simp only [h3, reduceCtorEq, or_false, if_false]
    exact Fin.tmp' rfl rfl
 ·have h0' : (r.sku.size = 0) = False := eq_false h0
  rw [h0'] at e
  simp only [h0', not_false_eq_true, true_and]
  (focus (have hF := (aI @e (aI @decide_false @Bool.not_false)); (repeat' (first | refine go1 (k:=?_) | with_reducible refine Ny.of ?_ ?_ | (refine Hyp.of ?_; intro hc; (try simp only [hc]); (try simp only [Bh] at hc)))); all_goals clear hF))
  refine q05 [.str r.sku] (he := c1) (k:=?_)
  cases v1
  ·(focus (have hF := True.intro; (repeat' (first | refine go1 (k:=?_) | with_reducible refine Ny.of ?_ ?_ | (refine Hyp.of ?_; intro hc; (try simp only [hc]); (try simp only [Bh] at hc)))); all_goals clear hF))
   exact Fin.tmp' rfl rfl
  ·(focus (have hF := True.intro; (repeat' (first | refine go1 (k:=?_) | with_reducible refine Ny.of ?_ ?_ | (refine Hyp.of ?_; intro hc; (try simp only [hc]); (try simp only [Bh] at hc)))); all_goals clear hF))
   refine q05 [q10 r.past] (he := c2) (k:=?_)
   cases v2
   ·(focus (have hF := True.intro; (repeat' (first | refine go1 (k:=?_) | with_reducible refine Ny.of ?_ ?_ | (refine Hyp.of ?_; intro hc; (try simp only [hc]); (try simp only [Bh] at hc)))); all_goals clear hF))
    exact Fin.tmp' rfl rfl
   ·(focus (have hF := True.intro; (repeat' (first | refine go1 (k:=?_) | with_reducible refine Ny.of ?_ ?_ | (refine Hyp.of ?_; intro hc; (try simp only [hc]); (try simp only [Bh] at hc)))); all_goals clear hF))
    refine q05 [q10 r.past] (he := c3) (k:=?_)
    by_cases h3 : v3 = 0
    ·(focus (have hF := @h3; (repeat' (first | refine go1 (k:=?_) | with_reducible refine Ny.of ?_ ?_ | (refine Hyp.of ?_; intro hc; (try simp only [hc]); (try simp only [Bh] at hc)))); all_goals clear hF))
     simp only [h3, or_true, if_true, reduceCtorEq, if_false]
     exact Fin.tmp' rfl rfl
    ·(focus (have hF := @h3; (repeat' (first | refine go1 (k:=?_) | with_reducible refine Ny.of ?_ ?_ | (refine Hyp.of ?_; intro hc; (try simp only [hc]); (try simp only [Bh] at hc)))); all_goals clear hF))
     simp only [h3, reduceCtorEq, or_false, if_false]
     exact Fin.tmp' rfl rfl
theorem ev_k63 (r : Rec) (hw : wt r.past ≤ 30000000) : Ev (En Tryz.prog rfl).P 63 [qat r] (.ret (.int .i64 (q3m r))) := by
 refine Ev.of_body it_k63 (by simp) (Run.start ?_)
 unfold t_k63 qat q3m
 have c1 := zdl r.sku
 have c2 := ev_k22 r.past (by omega)
 have c3 := ev_k109 r.past (by omega)
 have e := qmq r.sku
 generalize q4e r.sku = v1 at c1 ⊢
 generalize q0o r.past = v2 at c2 ⊢
 generalize q83 r.past = v3 at c3 ⊢
 have tail : ∀ (X : Prop), X → X := fun _ x => x
 by_cases h0 : r.sku.size = 0
 ·have h0' : (r.sku.size = 0) = True := eq_true h0
  simp only [h0', not_true_eq_false, false_and, if_false]
  rw [h0'] at e
  (focus (have hF := (aI @e (aI @decide_true @Bool.not_true)); (repeat' (first | refine go1 (k:=?_) | with_reducible refine Ny.of ?_ ?_ | (refine Hyp.of ?_; intro hc; (try simp only [hc]); (try simp only [Bh] at hc)))); all_goals clear hF))
  refine q05 [q10 r.past] (he := c2) (k:=?_)
  cases v2
  ·(focus (have hF := True.intro; (repeat' (first | refine go1 (k:=?_) | with_reducible refine Ny.of ?_ ?_ | (refine Hyp.of ?_; intro hc; (try simp only [hc]); (try simp only [Bh] at hc)))); all_goals clear hF))
   exact Fin.tmp' rfl rfl
  ·(focus (have hF := True.intro; (repeat' (first | refine go1 (k:=?_) | with_reducible refine Ny.of ?_ ?_ | (refine Hyp.of ?_; intro hc; (try simp only [hc]); (try simp only [Bh] at hc)))); all_goals clear hF))
   refine q05 [q10 r.past] (he := c3) (k:=?_)
   by_cases h3 : v3 = 0
   ·(focus (have hF := @h3; (repeat' (first | refine go1 (k:=?_) | with_reducible refine Ny.of ?_ ?_ | (refine Hyp.of ?_; intro hc; (try simp only [hc]); (try simp only [Bh] at hc)))); all_goals clear hF))
    simp only [h3, or_true, if_true]
    exact Fin.tmp' rfl rfl
   ·(focus (have hF := @h3; (repeat' (first | refine go1 (k:=?_) | with_reducible refine Ny.of ?_ ?_ | (refine Hyp.of ?_; intro hc; (try simp only [hc]); (try simp only [Bh] at hc)))); all_goals clear hF))
    simp only [h3, reduceCtorEq, or_false, if_false]
    exact Fin.tmp' rfl rfl
 ·have h0' : (r.sku.size = 0) = False := eq_false h0
  rw [h0'] at e
  simp only [h0', not_false_eq_true, true_and]
  (focus (have hF := (aI @e (aI @decide_false @Bool.not_false)); (repeat' (first | refine go1 (k:=?_) | with_reducible refine Ny.of ?_ ?_ | (refine Hyp.of ?_; intro hc; (try simp only [hc]); (try simp only [Bh] at hc)))); all_goals clear hF))
  refine q05 [.str r.sku] (he := c1) (k:=?_)
  cases v1
  ·(focus (have hF := True.intro; (repeat' (first | refine go1 (k:=?_) | with_reducible refine Ny.of ?_ ?_ | (refine Hyp.of ?_; intro hc; (try simp only [hc]); (try simp only [Bh] at hc)))); all_goals clear hF))
   exact Fin.tmp' rfl rfl
  ·(focus (have hF := True.intro; (repeat' (first | refine go1 (k:=?_) | with_reducible refine Ny.of ?_ ?_ | (refine Hyp.of ?_; intro hc; (try simp only [hc]); (try simp only [Bh] at hc)))); all_goals clear hF))
   refine q05 [q10 r.past] (he := c2) (k:=?_)
   cases v2
   ·(focus (have hF := True.intro; (repeat' (first | refine go1 (k:=?_) | with_reducible refine Ny.of ?_ ?_ | (refine Hyp.of ?_; intro hc; (try simp only [hc]); (try simp only [Bh] at hc)))); all_goals clear hF))
    exact Fin.tmp' rfl rfl
   ·(focus (have hF := True.intro; (repeat' (first | refine go1 (k:=?_) | with_reducible refine Ny.of ?_ ?_ | (refine Hyp.of ?_; intro hc; (try simp only [hc]); (try simp only [Bh] at hc)))); all_goals clear hF))
    refine q05 [q10 r.past] (he := c3) (k:=?_)
    by_cases h3 : v3 = 0
    ·(focus (have hF := @h3; (repeat' (first | refine go1 (k:=?_) | with_reducible refine Ny.of ?_ ?_ | (refine Hyp.of ?_; intro hc; (try simp only [hc]); (try simp only [Bh] at hc)))); all_goals clear hF))
     simp only [h3, or_true, if_true, reduceCtorEq, if_false]
     exact Fin.tmp' rfl rfl
    ·(focus (have hF := @h3; (repeat' (first | refine go1 (k:=?_) | with_reducible refine Ny.of ?_ ?_ | (refine Hyp.of ?_; intro hc; (try simp only [hc]); (try simp only [Bh] at hc)))); all_goals clear hF))
     simp only [h3, reduceCtorEq, or_false, if_false]
     exact Fin.tmp' rfl rfl
theorem qdo {l : List Rec} {i : Nat} {r : Rec} (hr : l[i]? = some r) (hI : (∀ (j : Nat) q, j < i → l[j]? = some q → q3m q = 0) ∧ ∀ (j : Nat) a b, j + 1 < i → l[j]? = some a → l[j + 1]? = some b → qlt a b < 0) (h0 : q3m r = 0)
 (h1 : ∀ q, 0 < i → l[i - 1]? = some q → qlt q r < 0) : (∀ (j : Nat) q, j < i + 1 → l[j]? = some q → q3m q = 0) ∧ ∀ (j : Nat) a b, j + 1 < i + 1 → l[j]? = some a → l[j + 1]? = some b → qlt a b < 0 := by
 refine ⟨fun j q hj hq => ?_, fun j a b hj ha hb => ?_⟩
 ·by_cases e : j = i
  ·subst e; rw [hr] at hq; cases hq; exact h0
  ·exact hI.1 j q (by omega) hq
 ·by_cases e : j + 1 = i
  ·subst e
   rw [hr] at hb
   cases hb
   exact h1 a (by omega) (by simpa using ha)
  ·exact hI.2 j a b (by omega) ha hb
theorem qfs (l : List Rec) (hl : l.length ≤ 1000000000) (hw : ∀ r ∈ l, wt r.past ≤ 40000000) : Ev (En Tryz.prog rfl).P 57 [.sl 3 (q1j l)] (.ret (.int .i64 (if q4f l = true then 0 else 1))) := by
 refine Ev.of_body it_k57 (by simp) (Run.start ?_)
 unfold t_k57
 have e1 := q6j l
 have hS := z1d
 (focus (have hF := @e1; (repeat' (first | refine go1 (k:=?_) | with_reducible refine Ny.of ?_ ?_ | (refine Hyp.of ?_; intro hc; (try simp only [hc]); (try simp only [Bh] at hc)))); all_goals clear hF))
 refine Run.while (σ := Nat) (fun i => ⟨tms [(0, .sl 3 (q1j l)), (5, .sl 3 (q1j l)), (6, .int .i64 (l.length : Int)), (7, .int .i64 (i : Int))], mms []⟩)
  (fun i => i ≤ l.length ∧ (∀ (j : Nat) q, j < i → l[j]? = some q → q3m q = 0) ∧ ∀ (j : Nat) a b, j + 1 < i → l[j]? = some a → l[j + 1]? = some b → qlt a b < 0) (fun i => l.length - i) 0 (have hW := @q0p; q0t) ⟨Nat.zero_le _, fun j q hj => absurd hj (Nat.not_lt_zero _), fun j a b hj => by omega⟩ ?_
 rintro i ⟨hi, hI⟩
 unfold qp8
 by_cases hlt : i < l.length
 ·obtain ⟨r, hr⟩ : ∃ r, l[i]? = some r := ⟨l[i], by simp [hlt]⟩
  have g1 := q6k hr
  have hwr := hw r (List.mem_of_getElem? hr)
  have c1 := ev_k100 r (by omega)
  have hst := fun h0 h1 => qdo hr hI h0 h1
  have hbad : q3m r ≠ 0 → ¬ qmc l := fun h hf => h (hf.1 i r hr)
  generalize q3m r = v at c1 hst hbad
  (focus (have hF := (aI @e1 @g1); (repeat' (first | refine go1 (k:=?_) | with_reducible refine Ny.of ?_ ?_ | (refine Hyp.of ?_; intro hc; (try simp only [hc]); (try simp only [Bh] at hc)))); all_goals clear hF))
  refine q05 [qat r] (he := c1) (k:=?_)
  by_cases hv : v = 0
  ·by_cases h0 : i = 0
   ·have hst := hst hv (fun q hq => by omega)
    have h0' : (i : Int) = 0 := by omega
    (focus (have hF := (aI (aI @e1 @g1) (aI @hv @h0')); (repeat' (first | refine go1 (k:=?_) | with_reducible refine Ny.of ?_ ?_ | (refine Hyp.of ?_; intro hc; (try simp only [hc]); (try simp only [Bh] at hc)))); all_goals clear hF))
    have hi1 : ((0 : Int) + 1) = ((i + 1 : Nat) : Int) := by omega
    (refine Fin.nextW (i + 1) ?_ (have hW := (aI @q0p @hi1); q0t); (try dsimp only))
    exact ⟨⟨hlt, hst⟩, by omega⟩
   ·obtain ⟨q, hq⟩ : ∃ q, l[i - 1]? = some q := ⟨l[i - 1]'(by omega), by simp [show i - 1 < l.length by omega]⟩
    have g2 := q6k hq
    have hpw : IntKind.i64.wrap ((i : Int) - 1) = ((i - 1 : Nat) : Int) := by rw [q0b (by omega)]; omega
    have hwq := hw q (List.mem_of_getElem? hq)
    have c2 := ev_k101 q r (by omega) (by omega)
    have hst := hst hv
    have hbad2 : ¬ qlt q r < 0 → ¬ qmc l := fun h hf => h (hf.2 (i - 1) q r hq (by rw [show i - 1 + 1 = i by omega]; exact hr))
    have hst : qlt q r < 0 → _ := fun h => hst (fun q' _ hq' => by rw [hq] at hq'; cases hq'; exact h)
    generalize qlt q r = u at c2 hst hbad2
    (focus (have hF := (aI (aI @e1 @g1) (aI @g2 (aI @hv @hpw))); (repeat' (first | refine go1 (k:=?_) | with_reducible refine Ny.of ?_ ?_ | (refine Hyp.of ?_; intro hc; (try simp only [hc]); (try simp only [Bh] at hc)))); all_goals clear hF))
    refine q05 [qat q, qat r] (he := c2) (k:=?_)
    by_cases hu : u < 0
    ·have hst := hst hu
     (focus (have hF := (aI @e1 @g1); (repeat' (first | refine go1 (k:=?_) | with_reducible refine Ny.of ?_ ?_ | (refine Hyp.of ?_; intro hc; (try simp only [hc]); (try simp only [Bh] at hc)))); all_goals clear hF))
     (refine Fin.nextW (i + 1) ?_ (have hW := @q0p; q0t); (try dsimp only))
     exact ⟨⟨hlt, hst⟩, by omega⟩
    ·rw [q5m (hbad2 hu)]
     (focus (have hF := (aI @e1 @g1); (repeat' (first | refine go1 (k:=?_) | with_reducible refine Ny.of ?_ ?_ | (refine Hyp.of ?_; intro hc; (try simp only [hc]); (try simp only [Bh] at hc)))); all_goals clear hF))
     exact Fin.tmp' rfl rfl
  ·rw [q5m (hbad hv)]
   (focus (have hF := (aI @e1 (aI @g1 @hv)); (repeat' (first | refine go1 (k:=?_) | with_reducible refine Ny.of ?_ ?_ | (refine Hyp.of ?_; intro hc; (try simp only [hc]); (try simp only [Bh] at hc)))); all_goals clear hF))
   exact Fin.tmp' rfl rfl
 ·rw [q9b ⟨fun j q hq => hI.1 j q (by
   rcases Nat.lt_or_ge j l.length with h | h
   ·omega
   ·rw [List.getElem?_eq_none h] at hq; cases hq) hq, fun j a b ha hb => hI.2 j a b (by
   rcases Nat.lt_or_ge (j + 1) l.length with h | h
   ·omega
   ·rw [List.getElem?_eq_none h] at hb; cases hb) ha hb⟩]
  (focus (have hF := @e1; (repeat' (first | refine go1 (k:=?_) | with_reducible refine Ny.of ?_ ?_ | (refine Hyp.of ?_; intro hc; (try simp only [hc]); (try simp only [Bh] at hc)))); all_goals clear hF))
  exact Fin.tmp' rfl rfl

theorem qd6 (l : List Rec) (hl : l.length ≤ 1000000000) (hw : ∀ r ∈ l, wt r.past ≤ 30000000) : Ev (En Tryz.prog rfl).P 25 [.sl 3 (q1j l)] (.ret (.int .i64 (if q4f l = true then 0 else 1))) := by
 refine Ev.of_body it_k25 (by simp) (Run.start ?_)
 unfold t_k25
 have e1 := q6j l
 have hS := z1d
 (focus (have hF := @e1; (repeat' (first | refine go1 (k:=?_) | with_reducible refine Ny.of ?_ ?_ | (refine Hyp.of ?_; intro hc; (try simp only [hc]); (try simp only [Bh] at hc)))); all_goals clear hF))
 refine Run.while (σ := Nat) (fun i => ⟨tms [(0, .sl 3 (q1j l)), (3, .int .i64 (i : Int))], mms []⟩)
  (fun i => i ≤ l.length ∧ (∀ (j : Nat) q, j < i → l[j]? = some q → q3m q = 0) ∧ ∀ (j : Nat) a b, j + 1 < i → l[j]? = some a → l[j + 1]? = some b → qlt a b < 0) (fun i => l.length - i) 0 (have hW := @q0p; q0t) ⟨Nat.zero_le _, fun j q hj => absurd hj (Nat.not_lt_zero _), fun j a b hj => by omega⟩ ?_
 rintro i ⟨hi, hI⟩
 unfold qpi
 by_cases hlt : i < l.length
 ·obtain ⟨r, hr⟩ : ∃ r, l[i]? = some r := ⟨l[i], by simp [hlt]⟩
  have g1 := q6k hr
  have hwr := hw r (List.mem_of_getElem? hr)
  have c1 := ev_k63 r (by omega)
  have hst := fun h0 h1 => qdo hr hI h0 h1
  have hbad : q3m r ≠ 0 → ¬ qmc l := fun h hf => h (hf.1 i r hr)
  generalize q3m r = v at c1 hst hbad
  (focus (have hF := (aI @e1 @g1); (repeat' (first | refine go1 (k:=?_) | with_reducible refine Ny.of ?_ ?_ | (refine Hyp.of ?_; intro hc; (try simp only [hc]); (try simp only [Bh] at hc)))); all_goals clear hF))
  refine q05 [qat r] (he := c1) (k:=?_)
  by_cases hv : v = 0
  ·by_cases h0 : i = 0
   ·have hst := hst hv (fun q hq => by omega)
    have h0' : (i : Int) = 0 := by omega
    (focus (have hF := (aI (aI @e1 @g1) (aI @hv @h0')); (repeat' (first | refine go1 (k:=?_) | with_reducible refine Ny.of ?_ ?_ | (refine Hyp.of ?_; intro hc; (try simp only [hc]); (try simp only [Bh] at hc)))); all_goals clear hF))
    have hi1 : ((0 : Int) + 1) = ((i + 1 : Nat) : Int) := by omega
    (refine Fin.nextW (i + 1) ?_ (have hW := (aI @q0p @hi1); q0t); (try dsimp only))
    exact ⟨⟨hlt, hst⟩, by omega⟩
   ·obtain ⟨q, hq⟩ : ∃ q, l[i - 1]? = some q := ⟨l[i - 1]'(by omega), by simp [show i - 1 < l.length by omega]⟩
    have g2 := q6k hq
    have hpw : IntKind.i64.wrap ((i : Int) - 1) = ((i - 1 : Nat) : Int) := by rw [q0b (by omega)]; omega
    have hwq := hw q (List.mem_of_getElem? hq)
    have c2 := ev_k64 q r (by omega) (by omega)
    have hst := hst hv
    have hbad2 : ¬ qlt q r < 0 → ¬ qmc l := fun h hf => h (hf.2 (i - 1) q r hq (by rw [show i - 1 + 1 = i by omega]; exact hr))
    have hst : qlt q r < 0 → _ := fun h => hst (fun q' _ hq' => by rw [hq] at hq'; cases hq'; exact h)
    generalize qlt q r = u at c2 hst hbad2
    (focus (have hF := (aI (aI @e1 @g1) (aI @g2 (aI @hv @hpw))); (repeat' (first | refine go1 (k:=?_) | with_reducible refine Ny.of ?_ ?_ | (refine Hyp.of ?_; intro hc; (try simp only [hc]); (try simp only [Bh] at hc)))); all_goals clear hF))
    refine q05 [qat q, qat r] (he := c2) (k:=?_)
    by_cases hu : u < 0
    ·have hst := hst hu
     (focus (have hF := (aI @e1 @g1); (repeat' (first | refine go1 (k:=?_) | with_reducible refine Ny.of ?_ ?_ | (refine Hyp.of ?_; intro hc; (try simp only [hc]); (try simp only [Bh] at hc)))); all_goals clear hF))
     (refine Fin.nextW (i + 1) ?_ (have hW := @q0p; q0t); (try dsimp only))
     exact ⟨⟨hlt, hst⟩, by omega⟩
    ·rw [q5m (hbad2 hu)]
     (focus (have hF := (aI @e1 @g1); (repeat' (first | refine go1 (k:=?_) | with_reducible refine Ny.of ?_ ?_ | (refine Hyp.of ?_; intro hc; (try simp only [hc]); (try simp only [Bh] at hc)))); all_goals clear hF))
     exact Fin.tmp' rfl rfl
  ·rw [q5m (hbad hv)]
   (focus (have hF := (aI @e1 (aI @g1 @hv)); (repeat' (first | refine go1 (k:=?_) | with_reducible refine Ny.of ?_ ?_ | (refine Hyp.of ?_; intro hc; (try simp only [hc]); (try simp only [Bh] at hc)))); all_goals clear hF))
   exact Fin.tmp' rfl rfl
 ·rw [q9b ⟨fun j q hq => hI.1 j q (by
   rcases Nat.lt_or_ge j l.length with h | h
   ·omega
   ·rw [List.getElem?_eq_none h] at hq; cases hq) hq, fun j a b ha hb => hI.2 j a b (by
   rcases Nat.lt_or_ge (j + 1) l.length with h | h
   ·omega
   ·rw [List.getElem?_eq_none h] at hb; cases hb) ha hb⟩]
  (focus (have hF := @e1; (repeat' (first | refine go1 (k:=?_) | with_reducible refine Ny.of ?_ ?_ | (refine Hyp.of ?_; intro hc; (try simp only [hc]); (try simp only [Bh] at hc)))); all_goals clear hF))
  exact Fin.tmp' rfl rfl
theorem ev_k95 (e : Ent) : Ev (En Tryz.prog rfl).P 95 [ze6 e] (.ret (.int .i64 (q3w e))) := by
 refine Ev.of_body it_k95 (by simp) (Run.start ?_)
 unfold t_k95 ze6 q3w
 have c1 := zdu e.sku
 generalize q4e e.sku = v at c1 ⊢
 by_cases h1 : e.rep < 0 ∨ 16 ≤ e.rep
 ·rw [if_pos h1]
  rcases h1 with h1 | h1
  all_goals
   (focus (have hF := True.intro; (repeat' (first | refine go1 (k:=?_) | with_reducible refine Ny.of ?_ ?_ | (refine Hyp.of ?_; intro hc; (try simp only [hc]); (try simp only [Bh] at hc)))); all_goals clear hF))
  all_goals first | exact Fin.tmp' rfl rfl | (exfalso; omega)
 ·rw [if_neg h1]
  by_cases h2 : e.num < 1 ∨ 1000000000 < e.num
  ·rw [if_pos h2]
   rcases h2 with h2 | h2
   all_goals
    (focus (have hF := True.intro; (repeat' (first | refine go1 (k:=?_) | with_reducible refine Ny.of ?_ ?_ | (refine Hyp.of ?_; intro hc; (try simp only [hc]); (try simp only [Bh] at hc)))); all_goals clear hF))
   all_goals first | exact Fin.tmp' rfl rfl | (exfalso; omega)
  ·rw [if_neg h2]
   (focus (have hF := True.intro; (repeat' (first | refine go1 (k:=?_) | with_reducible refine Ny.of ?_ ?_ | (refine Hyp.of ?_; intro hc; (try simp only [hc]); (try simp only [Bh] at hc)))); all_goals clear hF))
   all_goals
    refine q05 [.str e.sku] (he := c1) (k:=?_)
    cases v
    case' false =>
     rw [if_pos rfl]
     (focus (have hF := True.intro; (repeat' (first | refine go1 (k:=?_) | with_reducible refine Ny.of ?_ ?_ | (refine Hyp.of ?_; intro hc; (try simp only [hc]); (try simp only [Bh] at hc)))); all_goals clear hF))
     exact Fin.tmp' rfl rfl
    case' true =>
     rw [if_neg (by decide)]
     by_cases h3 : e.qty < 1 ∨ 1000000 < e.qty
     ·rw [if_pos h3]
      rcases h3 with h3 | h3
      all_goals
       (focus (have hF := True.intro; (repeat' (first | refine go1 (k:=?_) | with_reducible refine Ny.of ?_ ?_ | (refine Hyp.of ?_; intro hc; (try simp only [hc]); (try simp only [Bh] at hc)))); all_goals clear hF))
      all_goals first | exact Fin.tmp' rfl rfl | (exfalso; omega)
     ·rw [if_neg h3]
      (focus (have hF := True.intro; (repeat' (first | refine go1 (k:=?_) | with_reducible refine Ny.of ?_ ?_ | (refine Hyp.of ?_; intro hc; (try simp only [hc]); (try simp only [Bh] at hc)))); all_goals clear hF))
      all_goals first | exact Fin.tmp' rfl rfl | (exfalso; omega)
theorem ev_k96 (a b : Rn) : Ev (En Tryz.prog rfl).P 96 [q6w a, q6w b] (.ret (.bool (q63 a b))) := by
 refine Ev.of_body it_k96 (by simp) (Run.start ?_)
 unfold t_k96 q6w q63
 by_cases h1 : a.1 < b.1
 ·rw [show (decide (a.1 < b.1) || (decide (a.1 = b.1) && decide (a.2 < b.2))) = true by simp [h1]]
  (focus (have hF := True.intro; (repeat' (first | refine go1 (k:=?_) | with_reducible refine Ny.of ?_ ?_ | (refine Hyp.of ?_; intro hc; (try simp only [hc]); (try simp only [Bh] at hc)))); all_goals clear hF))
  exact Fin.tmp' rfl rfl
 ·by_cases h2 : a.1 = b.1
  ·rw [show (decide (a.1 < b.1) || (decide (a.1 = b.1) && decide (a.2 < b.2))) = decide (a.2 < b.2) by simp [h1, h2]]
   (focus (have hF := True.intro; (repeat' (first | refine go1 (k:=?_) | with_reducible refine Ny.of ?_ ?_ | (refine Hyp.of ?_; intro hc; (try simp only [hc]); (try simp only [Bh] at hc)))); all_goals clear hF))
   exact Fin.tmp' rfl rfl
  ·rw [show (decide (a.1 < b.1) || (decide (a.1 = b.1) && decide (a.2 < b.2))) = false by simp [h1, h2]]
   (focus (have hF := True.intro; (repeat' (first | refine go1 (k:=?_) | with_reducible refine Ny.of ?_ ?_ | (refine Hyp.of ?_; intro hc; (try simp only [hc]); (try simp only [Bh] at hc)))); all_goals clear hF))
   exact Fin.tmp' rfl rfl
theorem ev_k53 (a b : Rn) : Ev (En Tryz.prog rfl).P 53 [q6w a, q6w b] (.ret (.bool (q63 a b))) := by
 refine Ev.of_body it_k53 (by simp) (Run.start ?_)
 unfold t_k53 q6w q63
 by_cases h1 : a.1 < b.1
 ·rw [show (decide (a.1 < b.1) || (decide (a.1 = b.1) && decide (a.2 < b.2))) = true by simp [h1]]
  (focus (have hF := True.intro; (repeat' (first | refine go1 (k:=?_) | with_reducible refine Ny.of ?_ ?_ | (refine Hyp.of ?_; intro hc; (try simp only [hc]); (try simp only [Bh] at hc)))); all_goals clear hF))
  exact Fin.tmp' rfl rfl
 ·by_cases h2 : a.1 = b.1
  ·rw [show (decide (a.1 < b.1) || (decide (a.1 = b.1) && decide (a.2 < b.2))) = decide (a.2 < b.2) by simp [h1, h2]]
   (focus (have hF := True.intro; (repeat' (first | refine go1 (k:=?_) | with_reducible refine Ny.of ?_ ?_ | (refine Hyp.of ?_; intro hc; (try simp only [hc]); (try simp only [Bh] at hc)))); all_goals clear hF))
   exact Fin.tmp' rfl rfl
  ·rw [show (decide (a.1 < b.1) || (decide (a.1 = b.1) && decide (a.2 < b.2))) = false by simp [h1, h2]]
   (focus (have hF := True.intro; (repeat' (first | refine go1 (k:=?_) | with_reducible refine Ny.of ?_ ?_ | (refine Hyp.of ?_; intro hc; (try simp only [hc]); (try simp only [Bh] at hc)))); all_goals clear hF))
   exact Fin.tmp' rfl rfl
theorem ev_k51 (d : Rn) : Ev (En Tryz.prog rfl).P 51 [q6w d] (.ret (.bool (q9x d.1 d.2))) := by
 refine Ev.of_body it_k51 (by simp) (Run.start ?_)
 unfold t_k51 q6w q9x
 by_cases h1 : 0 ≤ d.1 <;> by_cases h2 : d.1 < 16 <;> by_cases h3 : 1 ≤ d.2 <;> by_cases h4 : d.2 ≤ 1000000000
 all_goals
  simp only [h1, h2, h3, h4, decide_true, decide_false, Bool.and_true, Bool.and_false, Bool.true_and, Bool.false_and]
  (focus (have hF := True.intro; (repeat' (first | refine go1 (k:=?_) | with_reducible refine Ny.of ?_ ?_ | (refine Hyp.of ?_; intro hc; (try simp only [hc]); (try simp only [Bh] at hc)))); all_goals clear hF))
  all_goals first | exact Fin.tmp' rfl rfl | (exfalso; omega)
theorem qdp {l : List Ent} {i : Nat} {r : Ent} (hr : l[i]? = some r) (hI : (∀ (j : Nat) q, j < i → l[j]? = some q → q3w q = 0) ∧ ∀ (j : Nat) a b, j + 1 < i → l[j]? = some a → l[j + 1]? = some b → q63 a.dot b.dot = true) (h0 : q3w r = 0)
 (h1 : ∀ q, 0 < i → l[i - 1]? = some q → q63 q.dot r.dot = true) : (∀ (j : Nat) q, j < i + 1 → l[j]? = some q → q3w q = 0) ∧ ∀ (j : Nat) a b, j + 1 < i + 1 → l[j]? = some a → l[j + 1]? = some b → q63 a.dot b.dot = true := by
 refine ⟨fun j q hj hq => ?_, fun j a b hj ha hb => ?_⟩
 ·by_cases e : j = i
  ·subst e; rw [hr] at hq; cases hq; exact h0
  ·exact hI.1 j q (by omega) hq
 ·by_cases e : j + 1 = i
  ·subst e
   rw [hr] at hb
   cases hb
   exact h1 a (by omega) (by simpa using ha)
  ·exact hI.2 j a b (by omega) ha hb
theorem ql6 {l : List Ent} {i : Nat} (hi : l.length ≤ i) (hI : (∀ (j : Nat) q, j < i → l[j]? = some q → q3w q = 0) ∧ ∀ (j : Nat) a b, j + 1 < i → l[j]? = some a → l[j + 1]? = some b → q63 a.dot b.dot = true) : qg7 l :=
 ⟨fun j q hq => hI.1 j q (by
  rcases Nat.lt_or_ge j l.length with h | h
  ·omega
  ·rw [List.getElem?_eq_none h] at hq; cases hq) hq, fun j a b ha hb => hI.2 j a b (by
  rcases Nat.lt_or_ge (j + 1) l.length with h | h
  ·omega
  ·rw [List.getElem?_eq_none h] at hb; cases hb) ha hb⟩
theorem ev_k49 (l : List Ent) (hl : l.length ≤ 1000000000) : Ev (En Tryz.prog rfl).P 49 [.sl 4 (q1b l)] (.ret (.int .i64 (if q4k l = true then 0 else 1))) := by
 refine Ev.of_body it_k49 (by simp) (Run.start ?_)
 unfold t_k49
 have e1 := q6m l
 have hS := z1d
 (focus (have hF := @e1; (repeat' (first | refine go1 (k:=?_) | with_reducible refine Ny.of ?_ ?_ | (refine Hyp.of ?_; intro hc; (try simp only [hc]); (try simp only [Bh] at hc)))); all_goals clear hF))
 refine Run.while (σ := Nat) (fun i => ⟨tms [(0, .sl 4 (q1b l)), (5, .sl 4 (q1b l)), (6, .int .i64 (l.length : Int)), (7, .int .i64 (i : Int))], mms []⟩)
  (fun i => i ≤ l.length ∧ (∀ (j : Nat) q, j < i → l[j]? = some q → q3w q = 0) ∧ ∀ (j : Nat) a b, j + 1 < i → l[j]? = some a → l[j + 1]? = some b → q63 a.dot b.dot = true) (fun i => l.length - i) 0 (have hW := @q0l; q0t) ⟨Nat.zero_le _, fun j q hj => absurd hj (Nat.not_lt_zero _), fun j a b hj => by omega⟩ ?_
 rintro i ⟨hi, hI⟩
 unfold qpa
 by_cases hlt : i < l.length
 ·obtain ⟨r, hr⟩ : ∃ r, l[i]? = some r := ⟨l[i], by simp [hlt]⟩
  have g1 := q6n hr
  have c1 := ev_k95 r
  have hst := fun h0 h1 => qdp hr hI h0 h1
  have hbad : q3w r ≠ 0 → ¬ qg7 l := fun h hf => h (hf.1 i r hr)
  generalize q3w r = v at c1 hst hbad
  (focus (have hF := (aI @e1 @g1); (repeat' (first | refine go1 (k:=?_) | with_reducible refine Ny.of ?_ ?_ | (refine Hyp.of ?_; intro hc; (try simp only [hc]); (try simp only [Bh] at hc)))); all_goals clear hF))
  refine q05 [ze6 r] (he := c1) (k:=?_)
  by_cases hv : v = 0
  ·by_cases h0 : i = 0
   ·have hst := hst hv (fun q hq => by omega)
    have h0' : (i : Int) = 0 := by omega
    (focus (have hF := (aI (aI @e1 @g1) (aI @hv @h0')); (repeat' (first | refine go1 (k:=?_) | with_reducible refine Ny.of ?_ ?_ | (refine Hyp.of ?_; intro hc; (try simp only [hc]); (try simp only [Bh] at hc)))); all_goals clear hF))
    have hi1 : ((0 : Int) + 1) = ((i + 1 : Nat) : Int) := by omega
    (refine Fin.nextW (i + 1) ?_ (have hW := (aI @q0l @hi1); q0t); (try dsimp only))
    exact ⟨⟨hlt, hst⟩, by omega⟩
   ·obtain ⟨q, hq⟩ : ∃ q, l[i - 1]? = some q := ⟨l[i - 1]'(by omega), by simp [show i - 1 < l.length by omega]⟩
    have g2 := q6n hq
    have hpw : IntKind.i64.wrap ((i : Int) - 1) = ((i - 1 : Nat) : Int) := by rw [q0b (by omega)]; omega
    have c2 := ev_k96 q.dot r.dot
    have hst := hst hv
    have hbad2 : q63 q.dot r.dot = false → ¬ qg7 l := fun h hf => by
     have := hf.2 (i - 1) q r hq (by rw [show i - 1 + 1 = i by omega]; exact hr)
     rw [h] at this
     cases this
    have hst : q63 q.dot r.dot = true → _ := fun h => hst (fun q' _ hq' => by rw [hq] at hq'; cases hq'; exact h)
    generalize q63 q.dot r.dot = u at c2 hst hbad2
    (focus (have hF := (aI (aI @e1 @g1) (aI @g2 (aI @hv @hpw))); (repeat' (first | refine go1 (k:=?_) | with_reducible refine Ny.of ?_ ?_ | (refine Hyp.of ?_; intro hc; (try simp only [hc]); (try simp only [Bh] at hc)))); all_goals clear hF))
    refine q05 [q6w q.dot, q6w r.dot] (he := c2) (k:=?_)
    cases u
    ·rw [q2q (hbad2 rfl)]
     (focus (have hF := (aI @e1 @g1); (repeat' (first | refine go1 (k:=?_) | with_reducible refine Ny.of ?_ ?_ | (refine Hyp.of ?_; intro hc; (try simp only [hc]); (try simp only [Bh] at hc)))); all_goals clear hF))
     exact Fin.tmp' rfl rfl
    ·have hst := hst rfl
     (focus (have hF := (aI @e1 @g1); (repeat' (first | refine go1 (k:=?_) | with_reducible refine Ny.of ?_ ?_ | (refine Hyp.of ?_; intro hc; (try simp only [hc]); (try simp only [Bh] at hc)))); all_goals clear hF))
     (refine Fin.nextW (i + 1) ?_ (have hW := @q0l; q0t); (try dsimp only))
     exact ⟨⟨hlt, hst⟩, by omega⟩
  ·rw [q2q (hbad hv)]
   (focus (have hF := (aI @e1 (aI @g1 @hv)); (repeat' (first | refine go1 (k:=?_) | with_reducible refine Ny.of ?_ ?_ | (refine Hyp.of ?_; intro hc; (try simp only [hc]); (try simp only [Bh] at hc)))); all_goals clear hF))
   exact Fin.tmp' rfl rfl
 ·rw [q9c (ql6 (by omega) hI)]
  (focus (have hF := @e1; (repeat' (first | refine go1 (k:=?_) | with_reducible refine Ny.of ?_ ?_ | (refine Hyp.of ?_; intro hc; (try simp only [hc]); (try simp only [Bh] at hc)))); all_goals clear hF))
  exact Fin.tmp' rfl rfl
theorem z28 (e : Ent) : q3w e = 0 ↔ q9x e.rep e.num = true ∧ q4e e.sku = true ∧ ¬ e.qty < 1 ∧ ¬ 1000000 < e.qty := by
 rw [zd3]
 unfold q3w
 split
 ·constructor
  ·intro h; simp at h
  ·intro h; omega
 ·split
  ·constructor
   ·intro h; simp at h
   ·intro h; omega
  ·split
   ·rename_i h
    constructor
    ·intro h; simp at h
    ·intro h'; rw [h] at h'; simp at h'
   ·rename_i h
    split
    ·constructor
     ·intro h; simp at h
     ·intro h; omega
    ·constructor
     ·intro _; exact ⟨by omega, by simpa using h, by omega, by omega⟩
     ·intro _; rfl
theorem ev_k16 (l : List Ent) (hl : l.length ≤ 1000000000) : Ev (En Tryz.prog rfl).P 16 [.sl 4 (q1b l)] (.ret (.bool (q4k l))) := by
 refine Ev.of_body it_k16 (by simp) (Run.start ?_)
 unfold t_k16
 have e1 := q6m l
 have hS := z1d
 (focus (have hF := @e1; (repeat' (first | refine go1 (k:=?_) | with_reducible refine Ny.of ?_ ?_ | (refine Hyp.of ?_; intro hc; (try simp only [hc]); (try simp only [Bh] at hc)))); all_goals clear hF))
 refine Run.while (σ := Nat) (fun i => ⟨tms [(0, .sl 4 (q1b l)), (3, .int .i64 (i : Int))], mms []⟩)
  (fun i => i ≤ l.length ∧ (∀ (j : Nat) q, j < i → l[j]? = some q → q3w q = 0) ∧ ∀ (j : Nat) a b, j + 1 < i → l[j]? = some a → l[j + 1]? = some b → q63 a.dot b.dot = true) (fun i => l.length - i) 0 (have hW := @q0l; q0t) ⟨Nat.zero_le _, fun j q hj => absurd hj (Nat.not_lt_zero _), fun j a b hj => by omega⟩ ?_
 rintro i ⟨hi, hI⟩
 unfold qpk
 by_cases hlt : i < l.length
 ·obtain ⟨r, hr⟩ : ∃ r, l[i]? = some r := ⟨l[i], by simp [hlt]⟩
  have g1 := q6n hr
  have c1 := ev_k51 r.dot
  have c0 := zdl r.sku
  have hst := fun h0 h1 => qdp hr hI h0 h1
  have hbad : q3w r ≠ 0 → ¬ qg7 l := fun h hf => h (hf.1 i r hr)
  have hee := z28 r
  change Ev _ _ _ (.ret (.bool (q9x r.rep r.num))) at c1
  generalize q9x r.rep r.num = v1 at c1 hee
  generalize q4e r.sku = v2 at c0 hee
  (focus (have hF := (aI @e1 @g1); (repeat' (first | refine go1 (k:=?_) | with_reducible refine Ny.of ?_ ?_ | (refine Hyp.of ?_; intro hc; (try simp only [hc]); (try simp only [Bh] at hc)))); all_goals clear hF))
  refine q05 [q6w r.dot] (he := c1) (k:=?_)
  cases v1
  ·rw [q2q (hbad (fun h => by have := (hee.1 h).1; simp at this))]
   (focus (have hF := (aI @e1 @g1); (repeat' (first | refine go1 (k:=?_) | with_reducible refine Ny.of ?_ ?_ | (refine Hyp.of ?_; intro hc; (try simp only [hc]); (try simp only [Bh] at hc)))); all_goals clear hF))
   exact Fin.tmp' rfl rfl
  ·(focus (have hF := (aI @e1 @g1); (repeat' (first | refine go1 (k:=?_) | with_reducible refine Ny.of ?_ ?_ | (refine Hyp.of ?_; intro hc; (try simp only [hc]); (try simp only [Bh] at hc)))); all_goals clear hF))
   refine q05 [.str r.sku] (he := c0) (k:=?_)
   cases v2
   ·rw [q2q (hbad (fun h => by have := (hee.1 h).2.1; simp at this))]
    (focus (have hF := (aI @e1 @g1); (repeat' (first | refine go1 (k:=?_) | with_reducible refine Ny.of ?_ ?_ | (refine Hyp.of ?_; intro hc; (try simp only [hc]); (try simp only [Bh] at hc)))); all_goals clear hF))
    exact Fin.tmp' rfl rfl
   ·by_cases h3 : r.qty < 1
    ·rw [q2q (hbad (fun h => (hee.1 h).2.2.1 h3))]
     (focus (have hF := (aI @e1 @g1); (repeat' (first | refine go1 (k:=?_) | with_reducible refine Ny.of ?_ ?_ | (refine Hyp.of ?_; intro hc; (try simp only [hc]); (try simp only [Bh] at hc)))); all_goals clear hF))
     exact Fin.tmp' rfl rfl
    ·by_cases h4 : 1000000 < r.qty
     ·rw [q2q (hbad (fun h => (hee.1 h).2.2.2 h4))]
      (focus (have hF := (aI @e1 @g1); (repeat' (first | refine go1 (k:=?_) | with_reducible refine Ny.of ?_ ?_ | (refine Hyp.of ?_; intro hc; (try simp only [hc]); (try simp only [Bh] at hc)))); all_goals clear hF))
      exact Fin.tmp' rfl rfl
     ·have hv := hee.2 ⟨rfl, rfl, h3, h4⟩
      by_cases h0 : i = 0
      ·have hst := hst hv (fun q hq => by omega)
       subst h0
       (focus (have hF := (aI @e1 @g1); (repeat' (first | refine go1 (k:=?_) | with_reducible refine Ny.of ?_ ?_ | (refine Hyp.of ?_; intro hc; (try simp only [hc]); (try simp only [Bh] at hc)))); all_goals clear hF))
       (refine Fin.nextW (0 + 1) ?_ (have hW := @q0l; q0t); (try dsimp only))
       exact ⟨⟨hlt, hst⟩, by omega⟩
      ·obtain ⟨q, hq⟩ : ∃ q, l[i - 1]? = some q := ⟨l[i - 1]'(by omega), by simp [show i - 1 < l.length by omega]⟩
       have g2 := q6n hq
       have hpw : IntKind.i64.wrap ((i : Int) - 1) = ((i - 1 : Nat) : Int) := by rw [q0b (by omega)]; omega
       have c2 := ev_k53 q.dot r.dot
       have hst := hst hv
       have hbad2 : q63 q.dot r.dot = false → ¬ qg7 l := fun h hf => by
        have := hf.2 (i - 1) q r hq (by rw [show i - 1 + 1 = i by omega]; exact hr)
        rw [h] at this
        cases this
       have hst : q63 q.dot r.dot = true → _ := fun h => hst (fun q' _ hq' => by rw [hq] at hq'; cases hq'; exact h)
       generalize q63 q.dot r.dot = u at c2 hst hbad2
       (focus (have hF := (aI (aI @e1 @g1) (aI @g2 @hpw)); (repeat' (first | refine go1 (k:=?_) | with_reducible refine Ny.of ?_ ?_ | (refine Hyp.of ?_; intro hc; (try simp only [hc]); (try simp only [Bh] at hc)))); all_goals clear hF))
       refine q05 [q6w q.dot, q6w r.dot] (he := c2) (k:=?_)
       cases u
       ·rw [q2q (hbad2 rfl)]
        (focus (have hF := (aI @e1 @g1); (repeat' (first | refine go1 (k:=?_) | with_reducible refine Ny.of ?_ ?_ | (refine Hyp.of ?_; intro hc; (try simp only [hc]); (try simp only [Bh] at hc)))); all_goals clear hF))
        exact Fin.tmp' rfl rfl
       ·have hst := hst rfl
        (focus (have hF := (aI @e1 @g1); (repeat' (first | refine go1 (k:=?_) | with_reducible refine Ny.of ?_ ?_ | (refine Hyp.of ?_; intro hc; (try simp only [hc]); (try simp only [Bh] at hc)))); all_goals clear hF))
        (refine Fin.nextW (i + 1) ?_ (have hW := @q0l; q0t); (try dsimp only))
        exact ⟨⟨hlt, hst⟩, by omega⟩
 ·rw [q9c (ql6 (by omega) hI)]
  (focus (have hF := @e1; (repeat' (first | refine go1 (k:=?_) | with_reducible refine Ny.of ?_ ?_ | (refine Hyp.of ?_; intro hc; (try simp only [hc]); (try simp only [Bh] at hc)))); all_goals clear hF))
  exact Fin.tmp' rfl rfl

def zb0 : List SOp := [zO 2 (.alloc 25),zO 3 (.assign (.const (.int .i64 0)))]
instance : Live zb0 := ⟨[0]⟩
def zaz : List SOp := [zM 7 0,zO 8 (.call ⟨.value (.func 59),#[.tmp 7,.func 60],#[28,109]⟩),zM 6 8,zX 9 6 0,zX 10 6 1,zO 4 (.alloc 25),⟨none,.store 25 (.tmp 4) (.tmp 9),none⟩,zG 5 10]
instance : Live zaz := ⟨[0,2]⟩
def zay : List SOp := [zM 11 5,zO 12 (.unOp .not 4 (.tmp 11)),zM 13 12,⟨some 14,.load 25 (.tmp 4),some ((some 13),false)⟩,⟨some 15,.call ⟨.value (.func 45),#[.tmp 14],#[25]⟩,some ((some 13),false)⟩,⟨some 16,.unOp .not 4 (.tmp 15),some ((some 13),false)⟩,zO 17 (.pick (.tmp 13) (.const (.bool true)) (.tmp 16))]
instance : Live zay := ⟨[2,4,5]⟩
def zax : List SOp := [zO 18 (.build 25 #[]),⟨none,.store 25 (.tmp 2) (.tmp 18),none⟩,zO 3 (.assign (.const (.int .i64 8)))]
instance : Live zax := ⟨[2]⟩
def zaw : List SOp := [zL 19 25 4,⟨none,.store 25 (.tmp 2) (.tmp 19),none⟩,zO 3 (.assign (.const (.int .i64 0)))]
instance : Live zaw := ⟨[2,4]⟩
def t_k23 : SC :=
 (.seq (.ops false zb0) (.seq (.ops false zaz) (.seq (.seq (.ops false zay) (.cond (.tmp 17) (.seq (.ops false zax) .ret) .skip)) (.seq (.ops false zaw) .ret))))
theorem it_k23 : FnIs Tryz.prog 23 20 [.cell 2 25, .tmp 3] t_k23 := ⟨Tryz.f23, _, Tryz.func23, rfl, rfl, rfl, rfl, by kernel_rfl⟩

def zav : List SOp := [zO 2 (.assign (.const (.slice none 0 0))),zO 3 (.assign (.const (.int .i64 0)))]
instance : Live zav := ⟨[0]⟩
def zau : List SOp := [zM 7 0,zO 8 (.call ⟨.value (.func 61),#[.tmp 7,.func 62],#[28,112]⟩),zM 6 8,zX 9 6 0,zX 10 6 1,zG 4 9,zG 5 10]
instance : Live zau := ⟨[0]⟩
def zat : List SOp := [zM 11 5,zO 12 (.unOp .not 4 (.tmp 11)),zM 13 12,⟨some 14,.move (.tmp 4),some ((some 13),false)⟩,⟨some 15,.call ⟨.value (.func 49),#[.tmp 14],#[26]⟩,some ((some 13),false)⟩,⟨some 16,.binOp .neq 35 (.tmp 15) (.const (.int .i64 0)) 35,some ((some 13),false)⟩,zO 17 (.pick (.tmp 13) (.const (.bool true)) (.tmp 16))]
instance : Live zat := ⟨[4,5]⟩
def zas : List SOp := [zO 2 (.assign (.const (.slice none 0 0))),zO 3 (.assign (.const (.int .i64 8)))]
instance : Live zas := ⟨[]⟩
def zar : List SOp := [zM 18 4,zG 2 18,zO 3 (.assign (.const (.int .i64 0)))]
instance : Live zar := ⟨[4]⟩
def t_k24 : SC :=
 (.seq (.ops false zav) (.seq (.ops false zau) (.seq (.seq (.ops false zat) (.cond (.tmp 17) (.seq (.ops false zas) .ret) .skip)) (.seq (.ops false zar) .ret))))
theorem it_k24 : FnIs Tryz.prog 24 19 [.tmp 2, .tmp 3] t_k24 := ⟨Tryz.f24, _, Tryz.func24, rfl, rfl, rfl, rfl, by kernel_rfl⟩

def zah : List SOp := [zO 2 (.assign (.const (.slice none 0 0))),zO 3 (.assign (.const (.int .i64 0)))]
instance : Live zah := ⟨[0]⟩
def zag : List SOp := [zM 7 0,zO 8 (.call ⟨.value (.func 65),#[.tmp 7,.func 66],#[28,117]⟩),zM 6 8,zX 9 6 0,zX 10 6 1,zG 4 9,zG 5 10]
instance : Live zag := ⟨[0]⟩
def zaf : List SOp := [zM 11 5,zO 12 (.unOp .not 4 (.tmp 11)),zM 13 12,⟨some 14,.move (.tmp 4),some ((some 13),false)⟩,⟨some 15,.call ⟨.value (.func 57),#[.tmp 14],#[27]⟩,some ((some 13),false)⟩,⟨some 16,.binOp .neq 35 (.tmp 15) (.const (.int .i64 0)) 35,some ((some 13),false)⟩,zO 17 (.pick (.tmp 13) (.const (.bool true)) (.tmp 16))]
instance : Live zaf := ⟨[4,5]⟩
def zae : List SOp := [zO 2 (.assign (.const (.slice none 0 0))),zO 3 (.assign (.const (.int .i64 8)))]
instance : Live zae := ⟨[]⟩
def zad : List SOp := [zM 18 4,zG 2 18,zO 3 (.assign (.const (.int .i64 0)))]
instance : Live zad := ⟨[4]⟩
def t_k26 : SC :=
 (.seq (.ops false zah) (.seq (.ops false zag) (.seq (.seq (.ops false zaf) (.cond (.tmp 17) (.seq (.ops false zae) .ret) .skip)) (.seq (.ops false zad) .ret))))
theorem it_k26 : FnIs Tryz.prog 26 19 [.tmp 2, .tmp 3] t_k26 := ⟨Tryz.f26, _, Tryz.func26, rfl, rfl, rfl, rfl, by kernel_rfl⟩

end Go.Proofs.YtkionmommpgcmaaGreat.Avm
